/- Contracts and laws. -/
import Derived.Test.YtlkniebmjdoopaaGreatDoorK27
set_option linter.unusedSimpArgs false
set_option linter.unusedVariables false
set_option maxHeartbeats 1000000
set_option maxRecDepth 100000
namespace Go.Proofs.YtlkniebmjdoopaaGreatDoor
open Go.RowKit
theorem B3S {x : Ax} {y z : Int} (h : y = z) : Ending.returned (riV x y) = .returned (riV x z):=by rw [h]
theorem B63 (x y : Ax) (q : Rat) (w : World) : Calls Tryz.prog 90 #[rqV x y q] w fun e w'=>e = .returned (riV y (sgn false q.den)) ∧ A3 w w':=by
 rw [A4S,Bool.false_and]
 have hI:=fun W=>A07 y false q.den W
 simp only [A4S,Bool.false_and] at hI
 go_enter Tryz.func90,Tryz.ntmps90
 refine en2 ?_
 intro u hG b2 b1 hB hF
 refine wp_seq (rsC A5 [0,0,1] hB hG fun K L hN hL=>?_)
 refine gs ?_
 refine gmw (C:=fun v=>hI _) ?_
 refine geC hL ?_
 clear hB hG hL L
 rintro u ⟨-,hB,hG,-⟩
 refine gtT ?_
 clear hN K
 refine st hB hF hG 1 0 [_,_] ?_
 clear hB hG
 intro u hB hG
 refine rt Tryz.results90 ?_
 exact ⟨rfl,hG⟩
theorem B59 (x : Ax) (z : Int) (w : World) : Calls Tryz.prog 110 #[riV x z] w fun e w'=>e = .returned (riV x (V5 z)) ∧ A3 w w':=by
 go_enter Tryz.func110,Tryz.ntmps110
 refine en2 ?_
 intro u hG b2 b1 hB hF
 refine wp_seq (rsC A5 [0,0,0,0,0,1] hB hG fun K L hN hL=>?_)
 refine gs ?_
 refine gmw (C:=fun v=>A07 x _ z.natAbs _) ?_
 refine geC hL ?_
 clear hB hG hL L
 rintro u ⟨-,hB,hG,-⟩
 refine gtT ?_
 clear hN K
 refine st hB hF hG 1 0 [_,_] ?_
 clear hB hG
 intro u hB hG
 refine rt Tryz.results110 ?_
 exact ⟨B3S (A9p z),hG⟩
theorem B5s (x : Ax) (z : Int) (w : World) : Calls Tryz.prog 147 #[riV x z] w fun e w'=>e = .returned (.int .i64 z.sign) ∧ A3 w w':=by
 go_enter Tryz.func147,Tryz.ntmps147
 refine en1 ?_
 intro u hG b1 hB hF
 refine wp_seq ?_
 refine wp_block ?_
 refine r0T ?_
 refine wp_cond_split rfl ?_ ?_
 ·intro ht
  have ht3:=ht
  refine r0T ?_
  refine rt Tryz.results147 ?_
  have h2 : ln z.natAbs = 0:=by simpa using ht3
  have h3 : z = 0:=by have := @A5n z.natAbs;omega
  exact ⟨I5 (by rw [h3];rfl),hG⟩
 ·intro ht
  have ht3:=ht
  refine r0T ?_
  refine wp_cond_split rfl ?_ ?_
  ·intro ht
   have ht8:=ht
   refine r0T ?_
   refine rt Tryz.results147 ?_
   have h : z < 0:=of_decide_eq_true ht8
   exact ⟨I5 (Int.sign_eq_neg_one_of_neg h).symm,hG⟩
  ·intro ht
   have ht8:=ht
   refine wp_skip ?_
   refine F0 ?_
   refine A4 ?_
   refine r0T ?_
   refine rt Tryz.results147 ?_
   have h : ¬ z < 0:=of_decide_eq_false ht8
   have h2 : ¬ ln z.natAbs = 0:=by simpa using ht3
   have h3 : z ≠ 0:=by have := @A5n z.natAbs;omega
   exact ⟨I5 (Int.sign_eq_one_of_pos (by omega)).symm,hG⟩
abbrev Az:=Ax × Ax
def Rz (u : World) (p : Az) (q : Rat) : Prop:=Rn u p.1 q.num.natAbs ∧ Rn u p.2 q.den
theorem Rz.grow {u u' : World} {p : Az} {q : Rat} (h : Rz u p q) (hg : A3 u u') : Rz u' p q:=⟨h.1.grow hg,h.2.grow hg⟩
theorem B2E (q : Rat) : Rat.divInt q.num (q.den : Int) = q:=by rw [Rat.divInt_ofNat];exact Rat.mkRat_self q
theorem B61 (x y : Ax) (q : Rat) (w : World) : Calls Tryz.prog 102 #[rqV x y q] w fun e w'=>e = .returned (.int .i64 q.num.sign) ∧ A3 w w':=by
 go_enter Tryz.func102,Tryz.ntmps102
 refine en1 ?_
 intro u hG b1 hB hF
 refine wp_seq (rsE A5 [0,0,1,0] hB hG fun L hL=>?_)
 refine gs ?_
 refine gmw (C:=fun v=>B5s x q.num _) ?_
 refine gs ?_
 refine geT hL ?_
 clear hB hG hL L
 rintro u ⟨-,hB,hG,-⟩
 refine rt Tryz.results102 ?_
 exact ⟨rfl,hG⟩
theorem B60 (x y : Ax) (q : Rat) (w : World) : Calls Tryz.prog 46 #[rqV x y q] w fun e w'=>e = .returned (rqV x y (A1d q)) ∧ A3 w w':=by
 go_enter Tryz.func46,Tryz.ntmps46
 refine en2 ?_
 intro u hG b2 b1 hB hF
 refine wp_seq (rdC A5 [] [(0,0),(0,1),(0,3),(0,4),(1,2),(0,5)] hB hG fun K L hN hL=>?_)
 refine gs ?_
 refine gmw (C:=fun v=>B59 _ _ _) ?_
 refine gs ?_
 refine geC hL ?_
 clear hB hG hL L
 rintro u ⟨-,hB,hG,-⟩
 refine gtT ?_
 clear hN K
 refine st hB hF hG 1 0 [_,_,_] ?_
 clear hB hG
 intro u hB hG
 refine rt Tryz.results46 ?_
 exact ⟨A3c (q:=A1d q) (Rat.neg_num q) (Rat.neg_den q),hG⟩
theorem B62 (x y : Ax) (q : Rat) (w : World) : Calls Tryz.prog 83 #[rqV x y q] w fun e w'=>e = .returned (rqV x y (H6 q)) ∧ A3 w w':=by
 go_enter Tryz.func83,Tryz.ntmps83
 refine en2 ?_
 intro u hG b2 b1 hB hF
 refine wp_seq (rdC A5 [] [(0,0),(0,1),(0,2),(0,4),(0,5),(1,3),(0,6)] hB hG fun K L hN hL=>?_)
 refine gs ?_
 refine gmw (C:=fun v=>A07 x _ q.num.natAbs _) ?_
 refine gs ?_
 refine geC hL ?_
 clear hB hG hL L
 rintro u ⟨-,hB,hG,-⟩
 refine gtT ?_
 clear hN K
 refine st hB hF hG 1 0 [_,_,_] ?_
 clear hB hG
 intro u hB hG
 refine rt Tryz.results83 ?_
 exact ⟨A3c (q:=H6 q) (A73 q) (A6u q),hG⟩
theorem B1Y (a k : Nat) : dg (A7 W32 a) (k / 4) / 2 ^ (8 * (k % 4)) % 256 = dg (byt a) k:=by
 unfold byt
 rw [A2y D9,A2y (by omega)]
 have e1 : (256 : Nat) ^ k = W32 ^ (k / 4) * 2 ^ (8 * (k % 4)):=by
  rw [show W32 = 2 ^ 32 from rfl,show (256 : Nat) = 2 ^ 8 from rfl,← Nat.pow_mul,← Nat.pow_mul,← Nat.pow_add]
  congr 1
  omega
 rw [e1,← Nat.div_div_eq_div_mul]
 generalize a / W32 ^ (k / 4) = x
 have hr : k % 4 < 4:=Nat.mod_lt _ (by omega)
 generalize k % 4 = r at hr
 have e2 : W32 = 2 ^ (8 * r) * (256 * 2 ^ (24 - 8 * r)):=by
  rw [show W32 = 2 ^ 32 from rfl,show (256 : Nat) = 2 ^ 8 from rfl,← Nat.pow_add,← Nat.pow_add]
  congr 1
  omega
 rw [e2,Nat.mod_mul_right_div_self,Nat.mod_mul_right_mod]
theorem B01 (x : Ax) (a : Nat) (w : World) (hx : Rn w x a) (ha : bl a ≤ LIM) : Calls Tryz.prog 146 #[nvV x a] w fun e w'=>∃ b : Nat,e = .returned (.slice (some ⟨b,0,none⟩) (byt a).length (byt a).length) ∧ By w' (some ⟨b,0,none⟩) (byt a).reverse ∧ A3 w w':=by
 unfold LIM at ha
 obtain ⟨A,c⟩:=x
 obtain ⟨n,hn⟩ : ∃ n,n = (byt a).length:=⟨_,rfl⟩
 obtain ⟨m,hm⟩ : ∃ m,m = ln a:=⟨_,rfl⟩
 have hnb : n = (bl a + 7) / 8:=by rw [hn,A1u]
 have hmk:=A41 n (by omega) (n : Int) rfl
 have hbits:=fun W (hg : A3 w W)=>A78 (A,c) a W (hx.grow hg) (by omega)
 show Calls Tryz.prog 146 #[.slice A (ln a) c] w _
 change ∀ W,A3 w W → Calls Tryz.prog 178 #[.slice A (ln a) c] W _ at hbits
 rw [← hm] at hbits
 rw [← hm,← hn]
 have Hx:=Lib.hid hx.1
 obtain ⟨B,hB⟩ : ∃ B,B = bl a:=⟨_,rfl⟩
 rw [← hB] at hbits hnb ha
 have hb1 : IntKind.i64.wrap ((B : Int) + 7) = (B : Int) + 7:=IntWalk.i64_in _ (by omega)
 have hdv : ((B : Int) + 7).tdiv 8 = (n : Int):=by rw [Int.tdiv_eq_ediv_of_nonneg (by omega)];omega
 have hdv2 : ((B : Int) + 7) / 8 = (n : Int):=by omega
 have hnB : n ≤ 137438953471:=by omega
 have fnw : IntKind.i64.wrap (n : Int) = (n : Int):=IntWalk.i64_in _ (by omega)
 have Hbits:=Lib.hid hbits
 have Hn:=Lib.hid hn
 have Hm:=Lib.hid hm
 have Hnb:=Lib.hid (hnb.trans (by rw [hB]))
 clear hbits hn hm hx ha hB hnb
 go_enter Tryz.func146,Tryz.ntmps146
 refine en0 ?_
 intro u hG hB hF
 refine wp_seq (rsE A5 [0,1,0,0,0] hB hG fun L hL=>?_)
 refine gs ?_
 refine gmd (C:=fun v ⟨hgu,hB,hG,_⟩=>Hbits.out _ hG) ?_
 refine gs ?_
 refine geT hL ?_
 clear hB hG hL L
 rintro u ⟨-,hB,hG,-⟩
 refine r0T ?_
 have hbo:=Blk.new u 5 (I0 (List.replicate n 0))
 have hF3:=Fr.new (tk:=[]) hF hB hG (Nat.le_refl u.heap.size) (by simp)
 have hB3:=Bx.cons hbo (hB.grow (A3.alloc u (.cells (I0 (List.replicate n 0)) 5)))
 have hG3:=hG.trans (A3.alloc u (.cells (I0 (List.replicate n 0)) 5))
 simp only [List.cons_append,List.nil_append,List.map_cons,List.map_nil] at hF3
 clear hB hF hG hbo
 generalize World.alloc u _ = v at  hB3 hG3 ⊢
 generalize u.heap.size = b11 at hB3 hF3 ⊢
 have hB:=hB3
 have hF:=hF3
 have hG:=hG3
 clear hB3 hF3 hG3
 obtain ⟨u,rfl⟩ : ∃ x,x = v:=⟨_,rfl⟩
 refine wp_seq ?_
 refine r0T ?_
 refine wp_block ?_
 go_loopw [5] (fun s0 wr=>∃ (k : Nat) (zs : List Nat),k ≤ n ∧ s0 = .int .i64 k ∧ (zs = J8 (byt a) k) ∧ Bx wr [(b11,5,I0 zs)] ∧ A3 w wr) (fun s0 _=>n - (intOf s0).toNat)
 case atStart=>exact ⟨0,List.replicate n 0,Nat.zero_le _,rfl,by unfold J8;rw [← Hn.out];simp,hB,hG⟩
 case round =>
  clear hB hG
  obtain ⟨k,zs,hk,rfl,hrel0,hB,hG⟩:=hrel
  obtain ⟨u,rfl⟩ : ∃ x,x = wr:=⟨_,rfl⟩
  have H0:=Lib.hid hrel0
  clear hrel0
  rcases Nat.lt_or_ge k n with hlt0 | hge0
  ·have hdec : decide ((k : Int) < (n : Int)) = true:=by simp;omega
   have hkl : k < (byt a).length:=by rw [← Hn.out];exact hlt0
   have hwk : k / 4 < (A7 W32 a).length:=by
    refine A4N D9 ?_
    have h1 : k < (bl a + 7) / 8:=by rw [← Hnb.out];exact hlt0
    rw [show W32 = 2 ^ 32 from rfl,← Nat.pow_mul]
    exact Z6.1 (by omega)
   obtain ⟨ba,oa,hAe,-⟩:=Hx.out.cell hwk
   have hcl : ∀ W,A3 w W → W.cell? ⟨ba,oa + k / 4,none⟩ = some (.int .u32 (dg (A7 W32 a) (k / 4) : Nat)):=fun W hg=>by
    obtain ⟨b',o',e,hc⟩:=(Hx.out.grow hg).cell hwk
    rw [hAe] at e
    cases e
    exact hc
   have hby:=B1Y a k
   have hbl:=B9 (by omega) (A1K a) k
   have hst:=A46 (byt a) hkl
   have hxl:=dgl a (k / 4)
   have hwm : k / 4 < m:=by rw [Hm.out];exact hwk
   have hzl : zs.length = n:=by rw [H0.out,A6g _ (by omega),← Hn.out]
   rw [← Hn.out,← H0.out] at hst
   obtain ⟨q,hq⟩ : ∃ q,q = k / 4:=⟨_,rfl⟩
   obtain ⟨r,hr⟩ : ∃ r,r = k % 4:=⟨_,rfl⟩
   have hr8 : r < 4:=by omega
   rw [← hq] at hwm hxl hby
   rw [← hr] at hby
   simp only [← hq] at hcl
   obtain ⟨X,hX⟩ : ∃ x,x = dg (A7 W32 a) q:=⟨_,rfl⟩
   obtain ⟨y,hy⟩ : ∃ y,y = dg (byt a) k:=⟨_,rfl⟩
   rw [← hX] at hby hxl
   simp only [← hX] at hcl
   rw [← hy] at hby hbl hst
   obtain ⟨t,ht⟩ : ∃ t,t = n - 1 - k:=⟨_,rfl⟩
   rw [← ht] at hst
   have f1 : (n : Int) - 1 - (k : Int) = (t : Int):=by omega
   have f1' : (n : Int) - 1 = (t : Int) + (k : Int):=by omega
   have f1w : IntKind.i64.wrap ((t : Int) + (k : Int)) = (t : Int) + (k : Int):=IntWalk.i64_in _ (by omega)
   have htn : t < n:=by omega
   have q1 : (k : Int).tdiv 4 = (q : Int):=by rw [Int.tdiv_eq_ediv_of_nonneg (by omega)];omega
   have q2 : (k : Int).tmod 4 = (r : Int):=by rw [Int.tmod_eq_emod_of_nonneg (by omega)];omega
   have q3 : (k : Int) / 4 = (q : Int):=by omega
   have q4 : (k : Int) % 4 = (r : Int):=by omega
   have q5 : IntKind.i64.wrap (8 * (r : Int)) = 8 * (r : Int):=IntWalk.i64_in _ (by omega)
   have q6 : IntKind.u64.wrap (8 * (r : Int)) = 8 * (r : Int):=u64_wrap_id (x:=8 * (r : Int)) (by omega) (by omega)
   have q7 : (8 * (r : Int)).toNat = 8 * r:=by omega
   have q8 : min (8 * r) 32 = 8 * r:=by omega
   obtain ⟨s,hs⟩ : ∃ s,s = X / 2 ^ (8 * r):=⟨_,rfl⟩
   rw [← hs] at hby
   have q9 : (X : Int) / 2 ^ (8 * r) = (s : Int):=by rw [hs];simp
   have q10 : IntKind.u8.wrap (s : Int) = (y : Int):=by rw [← hby];simp [IntKind.wrap,IntKind.signed,IntKind.bits]
   have q11 : (s : Int) % 256 = (y : Int):=by omega
   have g1 : ∃ old,(I0 zs)[t]? = some old:=by rw [A3d,List.getElem?_eq_getElem (by omega)];exact ⟨_,rfl⟩
   obtain ⟨old,g1⟩:=g1
   have G2:=Lib.hid (A5o zs t y)
   have Hcl:=Lib.hid hcl
   have Hst:=Lib.hid hst
   subst hAe
   clear hcl hst hby hq hr hX hy hs ht hkl hwk hzl
   refine wp_seq ?_
   refine r0T ?_
   refine wp_cond_true (rfl) ?_
   refine wp_skip ?_
   refine A4 ?_
   refine wp_seq ?_
   refine wp_block ?_
   have hcb:=Hcl.out u hG
   refine r0E ?_
   generalize hu0 : World.setCell u _ _ = u0
   have hBG:=hB.over hF hG 0 rfl t [_] hu0
   clear hB hG
   simp only [List.modify_succ_cons,List.modify_zero_cons,G6,G2.out] at hBG
   obtain ⟨hB,hG⟩:=hBG
   clear hu0
   obtain ⟨u,rfl⟩ : ∃ x,x = u0:=⟨_,rfl⟩
   refine F0 ?_
   refine A4 ?_
   refine r0E ?_
   refine A4 ?_
   go_roundw
   case rel=>exact ⟨k + 1,zs.set t y,by omega,by go_num,Hst.out,hB,hG⟩
   case measure=>simp [intOf];try omega
  ·obtain rfl : n = k:=by omega
   have hdec : decide ((n : Int) < (n : Int)) = false:=by simp
   skip
   refine wp_seq ?_
   refine r0T ?_
   refine wp_cond_false (rfl) ?_
   refine wp_exit ?_
   refine D7 ?_
   refine D7 ?_
   refine G8 ?_
   refine A4 ?_
   refine r0T ?_
   refine rt Tryz.results146 ?_
   exact ⟨b11,rfl,by have := By.of hB.head;rw [H0.out,Hn.out,A5h] at this;exact this,hG⟩
theorem A7V (x : Ax) (a : Nat) (w : World) (hx : Rn w x a) (ha : bl a ≤ LIM) : Calls Tryz.prog 101 #[nvV x a] w fun e w'=>e = .returned (A6 a) ∧ A3 w w':=by
 have hby:=fun W (hg : A3 w W)=>B01 x a W (hx.grow hg) ha
 have hfr : ∀ b W,By W (some ⟨b,0,none⟩) (byt a).reverse → Calls Tryz.prog 145 #[.slice (some ⟨b,0,none⟩) (byt a).length (byt a).length] W fun e w'=>e = .returned (A6 a) ∧ A3 W w':=fun b W h=>by
  have h1:=A8s (some ⟨b,0,none⟩) (byt a).reverse (byt a).length (fun y hy=>A1K a y (List.mem_reverse.1 hy)) (by rw [List.length_reverse,A1u];unfold LIM at ha;omega) W h
  rw [List.length_reverse,List.reverse_reverse,show val 256 (byt a) = a from D5 (by omega) a] at h1
  exact h1
 obtain ⟨n,hn⟩ : ∃ n,n = (byt a).length:=⟨_,rfl⟩
 rw [← hn] at hby hfr
 have Hby:=Lib.hid hby
 have Hfr:=Lib.hid hfr
 clear hby hfr hn hx ha
 go_enter Tryz.func101,Tryz.ntmps101
 refine en1 ?_
 intro u hG b2 hB hF
 refine wp_seq (rsC A5 [0,1,1] hB hG fun K L hN hL=>?_)
 refine gs ?_
 refine gxd (X:=Nat) (fun b : Nat=>.slice (some ⟨b,0,none⟩) n n) (fun b W=>By W (some ⟨b,0,none⟩) (byt a).reverse) (fun b u u' hg h=>By.grow h hg) (fun x4=>?_) (C:=by (rintro v ⟨hgu,hB,hG,-⟩;exact Hby.out _ hG))
 refine gmd (C:=fun v ⟨⟨hgu,hB,hG,_⟩,hx4⟩=>Hfr.out x4 _ hx4) ?_
 refine geC hL ?_
 clear hB hG hL L
 rintro u ⟨⟨hgu,hB,hG,-⟩,hx4⟩
 clear hx4
 clear hgu
 refine gtT ?_
 clear hN K
 refine st hB hF hG 0 0 [_,_] ?_
 clear hB hG
 intro u hB hG
 refine rt Tryz.results101 ?_
 exact ⟨rfl,hG⟩
theorem B6g (x : Ax) (z : Int) (w : World) (hx : Rn w x z.natAbs) (ha : bl z.natAbs ≤ LIM) : Calls Tryz.prog 100 #[riV x z] w fun e w'=>e = .returned (D4 z) ∧ A3 w w':=by
 have ha' : bl z.natAbs ≤ 1099511627776:=by unfold LIM at ha;omega
 go_enter Tryz.func100,Tryz.ntmps100
 refine en2 ?_
 intro u hG b2 b1 hB hF
 replace hx:=hx.grow hG
 refine wp_seq (rdC A5 [] [(0,0),(0,1),(0,2),(0,3),(1,4),(1,5)] hB hG fun K L hN hL=>?_)
 refine gs ?_
 refine gmd (C:=fun v ⟨hgu,hB,hG,_⟩=>A7V x z.natAbs _ (hx.grow hgu) ha) ?_
 refine gmw (C:=fun v=>N9 _ _ (by assumption) _) ?_
 refine geC hL ?_
 clear hB hG hL L
 rintro u ⟨hgu,hB,hG,-⟩
 replace hx:=hx.grow hgu
 clear hgu
 refine gtT ?_
 clear hN K
 refine sv hB hF hG 1 0 [_,_,_] ?_
 intro u hu hBG
 replace hx:=hx.put hB 1 rfl (by first | decide | simp) _ _ hu
 clear hB hG hu
 obtain ⟨hB,hG⟩:=hBG
 refine rt Tryz.results100 ?_
 exact ⟨A1G (A0S z),hG⟩
theorem B5Q (x y : Ax) (q : Rat) (w : World) (h1 : Rn w x q.num.natAbs) (h2 : Rn w y q.den) (ha : qs q ≤ BIG) (HT : Tab w) : Calls Tryz.prog 38 #[rqV x y q] w fun e w'=>e = .returned (qV q) ∧ A3 w w':=by
 have z1:=F8 q
 have z2:=F6 q
 have hBl : BIG ≤ LIM:=by unfold BIG LIM;omega
 have hBm:=K9
 have hmk:=fun W (hT : Tab W)=>B4D q.num (sgn false q.den) (by omega) (by rw [A0k];omega) W hT
 have hq : B5 q.num (sgn false q.den) = q:=B2E q
 rw [hq] at hmk
 have z3 : bl q.den ≤ 1099511627776:=by omega
 go_enter Tryz.func38,Tryz.ntmps38
 refine en2 ?_
 intro u hG b2 b1 hB hF
 replace h1:=h1.grow hG
 replace h2:=h2.grow hG
 refine wp_seq (rdC A5 [10] [(0,0),(0,1),(0,3),(0,4),(1,2),(1,5),(1,6),(1,7),(0,8),(0,9),(0,10),(2,11)] hB hG fun K L hN hL=>?_)
 refine gs ?_
 refine gmd (C:=fun v ⟨hgu,hB,hG,_⟩=>B6g x q.num _ (h1.grow hgu) (by omega)) ?_
 refine gmd (C:=fun v ⟨hgu,hB,hG,_⟩=>A7V y q.den _ (h2.grow hgu) (by omega)) ?_
 refine gmw (C:=fun v=>N9 false q.den z3 _) ?_
 refine gmd (C:=fun v ⟨hgu,hB,hG,_⟩=>hmk _ (HT.grow hG)) ?_
 refine gs ?_
 refine gaa (N0 _ _ _ _ _) fun b3 hb3 hn3=>?_
 replace hF:=hF.n1 [] hB hG hb3 hn3
 refine geC hL ?_
 clear hB hG hL L
 rintro u ⟨⟨hgu,hB,hG,-⟩,h3⟩
 replace hB:=hB.cons' h3
 clear h3
 replace h1:=h1.grow hgu
 replace h2:=h2.grow hgu
 clear hb3 hn3
 clear hgu
 refine gtT ?_
 clear hN K
 refine sv hB hF hG 0 0 [_,_,_,_,_] ?_
 intro u hu hBG
 replace h1:=h1.put hB 0 rfl (by first | decide | simp) _ _ hu
 replace h2:=h2.put hB 0 rfl (by first | decide | simp) _ _ hu
 clear hB hG hu
 obtain ⟨hB,hG⟩:=hBG
 refine r0T ?_
 refine sv hB hF hG 2 0 [_,_,_,_,_] ?_
 intro u hu hBG
 replace h1:=h1.put hB 2 rfl (by first | decide | simp) _ _ hu
 replace h2:=h2.put hB 2 rfl (by first | decide | simp) _ _ hu
 clear hB hG hu
 obtain ⟨hB,hG⟩:=hBG
 refine rt Tryz.results38 ?_
 exact ⟨rfl,hG⟩
end Go.Proofs.YtlkniebmjdoopaaGreatDoor
