/- Contracts and laws. -/
import Derived.Test.YtlkniebmjdoopaaGreatDoorK36
set_option linter.unusedSimpArgs false
set_option linter.unusedVariables false
set_option maxHeartbeats 8000000
set_option maxRecDepth 100000
namespace Go.Proofs.YtlkniebmjdoopaaGreatDoor
open Go Go.RowKit
theorem B1v (l : List Rat) : I3 72 l l:=by
 intro w x hx HT
 obtain ⟨A,c⟩:=x
 unfold E7
 obtain ⟨n,hn⟩ : ∃ n,n = l.length:=⟨_,rfl⟩
 rw [← hn]
 have HX:=Lib.hid hx
 clear hx hn
 go_enter Tryz.func72,Tryz.ntmps72
 refine en0 ?_
 intro u hG hB hF
 refine r0T ?_
 refine rt Tryz.results72 ?_
 exact ⟨(A,c),rfl,HX.out.grow hG,hG⟩
def shF (r : List Rat) : List Rat:=(List.range (trN r)).map fun i=>J5 (gq r i) (H6 (C1 r))
def shL (r : List Rat) : List Rat:=if trN r = 0 then r else shF r
theorem B4i (A : Option Addr) (c n : Nat) (r : List Rat) (hn : r.length = n) (w : World) (hx : PR r (A,c) w) (hdg : ∀ W,A3 w W → Calls Tryz.prog 11 #[.slice A n c] W fun e w'=>e = .returned (.int .i64 (-1)) ∧ A3 W w') : Calls Tryz.prog 114 #[.slice A n c] w (E7 r w):=by
 have Hdg:=Lib.hid hdg
 have HX:=Lib.hid hx
 unfold E7
 rw [hn]
 clear hdg hx hn
 go_enter Tryz.func114,Tryz.ntmps114
 refine en0 ?_
 intro u hG hB hF
 refine wp_seq (rsE A5 [0,1,0] hB hG fun L hL=>?_)
 refine gs ?_
 refine gmd (C:=fun v ⟨hgu,hB,hG,_⟩=>Hdg.out _ hG) ?_
 refine gs ?_
 refine geT hL ?_
 clear hB hG hL L
 rintro u ⟨-,hB,hG,-⟩
 refine wp_seq ?_
 refine r0T ?_
 refine wp_cond_true (rfl) ?_
 refine r0T ?_
 refine rt Tryz.results114 ?_
 exact ⟨(A,c),rfl,HX.out.grow hG,hG⟩
theorem B33 (A : Option Addr) (c n T : Nat) (r : List Rat) (f : Nat → Rat) (ok : Bool) (t AB : Rat) (hT : 1 ≤ T) (hTn : T ≤ n) (hm : n ≤ 1000) (w : World) (hdg : ∀ W,A3 w W → Calls Tryz.prog 11 #[.slice A n c] W fun e w'=>e = .returned (.int .i64 ((T : Int) - 1)) ∧ A3 W w')
  (hrd : ∀ i,i < T → ∃ b o,A = some ⟨b,o,none⟩ ∧ (∀ W,A3 w W → Cq W b (o + i * 5) (gq r i)) ∧ (∀ W,A3 w W → Cq W b (o + (T - 1) * 5) t) ∧ ∀ W,Tab W → Calls Tryz.prog 51 #[qV (gq r i),qV AB] W fun e w'=>e = .returned (.tuple #[qV (f i),.bool ok]) ∧ A3 W w')
  (hab : ∀ W,Calls Tryz.prog 53 #[qV t] W fun e w'=>e = .returned (qV AB) ∧ A3 W w') (HT : Tab w) : Calls Tryz.prog 114 #[.slice A n c] w (E7 ((List.range T).map f) w):=by
 have hmk:=A1V T (by omega) (T : Int) rfl
 obtain ⟨T1,hT1⟩ : ∃ T1,T1 = T - 1:=⟨_,rfl⟩
 simp only [← hT1] at hrd
 have e1 : (T : Int) - 1 = (T1 : Int):=by omega
 simp only [e1] at hdg
 have fw : IntKind.i64.wrap ((T1 : Int) + 1) = (T : Int):=by rw [IntWalk.i64_in _ (by omega)];omega
 have f9 : decide ((T1 : Int) < 0) = false:=by simp
 have hT1n : (T1 : Int) < (n : Int):=by omega
 have hln : ((List.range T).map f).length = T:=by simp
 have Hdg:=Lib.hid hdg
 have Hrd:=Lib.hid hrd
 have Hab:=Lib.hid hab
 have Hmk:=Lib.hid hmk
 have Hln:=Lib.hid hln
 clear hdg hrd hab hmk e1 hT1 hln
 go_enter Tryz.func114,Tryz.ntmps114
 refine en0 ?_
 intro u hG hB hF
 refine wp_seq (rsE A5 [0,1,0] hB hG fun L hL=>?_)
 refine gs ?_
 refine gmd (C:=fun v ⟨hgu,hB,hG,_⟩=>Hdg.out _ hG) ?_
 refine gs ?_
 refine geT hL ?_
 clear hB hG hL L
 rintro u ⟨-,hB,hG,-⟩
 refine wp_seq ?_
 refine r0T ?_
 refine wp_cond_false (rfl) ?_
 refine wp_skip ?_
 refine A4 ?_
 refine wp_seq ?_
 have hmk:=Hmk.out
 refine M9 ?_
 intro K hN
 go_wp2_with fail
 generalize hv : World.alloc u _ = v
 have hrow:=A2q (B:=w.heap.size) hG.sz (by omega) hv
 have hgv : A3 u v:=hv ▸ A3.alloc u _
 have hG2:=hG.trans hgv
 clear hv hG hB hmk hgv
 rw [← A91 f T] at hrow
 generalize u.heap.size = g at hrow ⊢
 have Ho:=Lib.hid hrow
 have hG:=hG2
 have hB:=Bx.nil v
 have hF:=Fr.nil w
 clear hrow hG2
 obtain ⟨u,rfl⟩ : ∃ x,x = v:=⟨_,rfl⟩
 refine NoK.norm (hN _ _ ?_)
 clear hN K
 refine A4 ?_
 refine wp_seq ?_
 refine r0T ?_
 refine wp_block ?_
 clear hF
 go_loopw [16] (fun s0 wr=>∃ i : Nat,i ≤ T ∧ s0 = .int .i64 i ∧ wr.ownsRow w.heap.size 39 5 (.slice (some ⟨g,0,none⟩) T T) T ((R3 f T i).flatMap qL) ∧ A3 w wr) (fun s0 _=>T - (intOf s0).toNat)
 case atStart=>exact ⟨0,Nat.zero_le _,rfl,Ho.out,hG⟩
 case round =>
  clear hG Ho hB
  obtain ⟨i,hi,rfl,ho,hG⟩:=hrel
  obtain ⟨u,rfl⟩ : ∃ x,x = wr:=⟨_,rfl⟩
  have Ho:=Lib.hid ho
  have hB:=Bx.nil u
  have hF:=Fr.nil w
  clear ho
  rcases Nat.lt_or_ge i T with hlt | hge
  ·have hdec : decide ((i : Int) < (T : Int)) = true:=by simp;omega
   have hin : (i : Int) < (T : Int):=by omega
   have hin2 : (i : Int) < (n : Int):=by omega
   have hst:=A8S (f:=f) hlt
   obtain ⟨b1,o1,rfl,hrd,hrt,hdv⟩:=Hrd.out i hlt
   obtain ⟨X,hX⟩ : ∃ X,X = gq r i:=⟨_,rfl⟩
   obtain ⟨Q,hQ⟩ : ∃ q,q = f i:=⟨_,rfl⟩
   rw [← hQ] at hst
   simp only [← hQ,← hX] at hdv
   simp only [← hX] at hrd
   have Hst:=Lib.hid hst
   have Hrd1:=Lib.hid hrd
   have Hrt:=Lib.hid hrt
   have Hdv:=Lib.hid hdv
   clear hst hrd hrt hdv hQ hX
   refine r0T ?_
   refine wp_seq ?_
   refine wp_cond_true (rfl) ?_
   refine wp_skip ?_
   refine A4 ?_
   refine wp_seq ?_
   refine wp_block ?_
   refine r0T ?_
   refine rdC A5 [14] [(0,0),(0,1),(0,2),(0,3),(0,4),(0,5),(0,6),(0,7),(0,8),(0,9),(1,10),(1,11),(0,12),(0,13),(0,14),(0,15)] hB hG fun K L hN hL=>?_
   repeat first | refine gya ?_ | refine gyr ?_ | refine gna ?_ | refine gyb (by (rintro v ⟨hgu,hB,hG,-⟩ N hN;have r:=hB.r;simp only [BxR] at r;(first | obtain ⟨x1,x2,x3,x4,x5⟩:=Hrd1.out v hG | skip);(first | obtain ⟨y1,y2,y3,y4,y5⟩:=Hrt.out v hG | skip);go_simp;exact hN)) ?_
   refine gmw (C:=fun v=>Hab.out _) ?_
   refine gmd (C:=fun v ⟨hgu,hB,hG,_⟩=>Hdv.out _ (HT.grow hG)) ?_
   refine gs ?_
   refine geC hL ?_
   clear hB hG hL L
   rintro u ⟨hgu,hB,hG,-⟩
   have Ho2:=Lib.hid (F3 Ho.out hgu)
   clear Ho
   have Ho:=Ho2
   clear Ho2
   obtain ⟨z0,z1,z2,z3,z4,o0,o1,o2,o3,o4,hfz⟩:=A1X (enc:=qL) (fun _=>rfl) Ho.out (A1O f T i).symm i (by rw [A1O];exact hlt)
   clear hgu
   refine gt ?_
   clear hN K
   clear o0 o1 o2 o3 o4 hfz
   generalize hu0 : World.setCell (World.setCell (World.setCell (World.setCell (World.setCell u _ _) _ _) _ _) _ _) _ _ = u0
   have hu1 : E9 u g (i * 5) (qL Q) = u0:=hu0
   have hP:=A1J (enc:=qL) (size:=5) (ps:=R3 f T i) (fun _=>rfl) Ho.out i Q (by rw [A1O];exact hlt)
   rw [Hst.out,hu1] at hP
   have hG2:=A4Z Ho.out hG hP.2
   have Ho2:=Lib.hid hP.1
   clear hG hB hF Ho hP hu1 hu0
   have hG:=hG2
   have Ho:=Ho2
   clear hG2 Ho2
   obtain ⟨u,rfl⟩ : ∃ x,x = u0:=⟨_,rfl⟩
   have hB:=Bx.nil u
   have hF:=Fr.nil w
   refine F0 ?_
   refine A4 ?_
   refine r0E ?_
   refine A4 ?_
   go_roundw
   case rel=>exact ⟨i + 1,by omega,by go_num,Ho.out,hG⟩
   case measure=>simp [intOf];omega
  ·obtain rfl : T = i:=by omega
   have hdec : decide ((T : Int) < (T : Int)) = false:=by simp
   have ho:=Ho.out
   rw [A9O] at ho
   have HP:=Lib.hid ho
   clear ho Ho hge hi
   refine r0T ?_
   refine wp_seq ?_
   refine wp_cond_false (rfl) ?_
   refine wp_exit ?_
   refine D7 ?_
   refine D7 ?_
   refine G8 ?_
   refine A4 ?_
   refine r0T ?_
   refine rt Tryz.results114 ?_
   exact E7.of (l:=(List.range T).map f) (B:=w.heap.size) Hln.out.symm ⟨g,rfl,by unfold PQ;rw [Hln.out];exact HP.out,hG⟩
theorem B50 {r : List Rat} (hm : r.length ≤ 1000) (s : Nat) (hs : ∀ x ∈ r,qs x ≤ s) (hB : 4 * s + 100 ≤ BIG) : I3 114 r (shL r):=by
 intro w x hx HT
 obtain ⟨A,c⟩:=x
 have hBm:=K9
 have hdg:=fun W (hg : A3 w W)=>A2c A r r.length c rfl hx.2.1 (by omega) (fun x hx=>Nat.le_trans (hs x hx) (by omega)) W (hx.1.grow hg)
 have hle:=G4 r
 unfold shL
 by_cases h0 : trN r = 0
 ·rw [if_pos h0]
  simp only [h0] at hdg
  exact B4i A c _ r rfl w hx hdg
 ·rw [if_neg h0]
  have zt:=P8 hs (i:=trN r - 1) (by omega)
  have za:=A4s (C1 r)
  refine B33 A c r.length (trN r) r _ (nzq (H6 (C1 r))) (C1 r) (H6 (C1 r)) (by omega) hle hm w hdg (fun i hi=>?_) (fun W=>A8g _ (by have := F8 (C1 r);unfold C1 at this ⊢;omega) W) HT
  obtain ⟨b,o,e⟩:=hx.1.addr (by omega)
  simp only at e
  subst e
  exact ⟨b,o,rfl,fun W hg=>(hx.1.grow hg).read (by omega),fun W hg=>(hx.1.grow hg).read (by omega),fun W hT=>A2v (a:=gq r i) (b:=H6 (C1 r)) (w:=W) (by have := P8 hs (i:=i) (by omega);have zt2 : qs (C1 r) ≤ s:=zt;omega) hT⟩
theorem B4j {u : World} {B n : Nat} {v : Value} {rs : List Rq} (h : u.ownsRow B 23 1 v n (rs.map A1C)) (hr : N6 u rs) : ∃ A c,v = .slice A n c ∧ n ≤ c ∧ Lrq u A rs:=by
 have hn : n = rs.length:=by have := h.1;simp at this;omega
 subst hn
 obtain ⟨_,h | ⟨g,cap,cur,rfl,hb,hh,hn,hc,hs,ht⟩⟩:=h
 ·obtain ⟨rfl,h0⟩:=h
  exact ⟨none,0,by rw [h0],by omega,fun hne=>absurd (List.eq_nil_of_length_eq_zero h0) hne⟩
 ·refine ⟨_,cap,rfl,hn,fun _=>⟨g,0,rfl,Q8 hh,fun i r hi=>⟨?_,(hr r (List.mem_of_getElem? hi)).1⟩⟩⟩
  rw [Nat.zero_add,cell_of_row u g i cur 23 (0,0) hh]
  have hil : i < rs.length:=(List.getElem?_eq_some_iff.1 hi).1
  have h1 : (cur.toList.take (rs.length * 1))[i]? = some (A1C r):=by rw [ht,List.getElem?_map,hi];rfl
  rw [List.getElem?_take,if_pos (by omega)] at h1
  simpa using h1
def I4 (Ps : List (List Rat)) (n : Nat) (w : World) (e : Ending) (w' : World) : Prop:=I1 (fun y : Ax=>.slice y.1 n y.2) (fun y W=>RW Ps y.1 W ∧ n ≤ y.2) w e w'
theorem B5K : EI 54 23 1 24:=A2E (by kernel_rfl) (by kernel_rfl) (by omega)
theorem B41 {W : World} {b B : Nat} {v : Value} (h : Blk W b 23 #[v]) (hb : B ≤ b) : W.ownsRow B 23 1 (.slice (some ⟨b,0,none⟩) 1 1) 1 [v] :=
 ⟨rfl,.inr ⟨b,1,_,rfl,hb,h,Nat.le_refl _,by unfold maxLen;omega,rfl,rfl⟩⟩
theorem B6T {p : List Rat} (sh : FuncId) (hcf : ∀ args w,(callFunc sh args).run Tryz.prog w = .ok (.enter sh args) w) (C Q R S : Nat → List Rat) (K : Nat) (hK : K ≤ 1000) (h0 : I3 95 p (C 0)) (h1 : I3 128 (C 0) (C 1)) (hz : ∀ i,i ≤ K → (C (i + 1)).length ≤ 1000 ∧ ∀ x ∈ C (i + 1),qs x ≤ BIG) (hd : ∀ i,i < K → A1D (C i) (C (i + 1)) (Q i) (R i))
  (hs : ∀ i,i < K → ∀ (W : World) (x : Ax),PR (R i) x W → Tab W → Calls Tryz.prog 130 #[.slice none 0 0,.slice x.1 (R i).length x.2] W (E7 (S i) W)) (hsh : ∀ i,i < K → I3 sh (S i) (C (i + 2))) (hpos : ∀ i,i < K → 0 < trN (C (i + 1))) (hend : trN (C (K + 1)) = 0) (hdec : ∀ i,i < K → (C (i + 2)).length < (C (i + 1)).length)
  (w : World) (A : Option Addr) (c : Nat) (hp : PR p (A,c) w) (HT : Tab w) : Calls Tryz.prog 71 #[.slice A p.length c,.func (.func sh) #[] #[]] w (I4 ((List.range (K + 1)).map C) (K + 1) w):=by
 have h0:=fun W (hg : A3 w W)=>h0 W (A,c) (hp.grow hg) (HT.grow hg)
 have hdg : ∀ i,i ≤ K → ∀ (W : World) (x : Ax),PR (C (i + 1)) x W → Calls Tryz.prog 11 #[.slice x.1 (C (i + 1)).length x.2] W fun e w'=>e = .returned (.int .i64 ((trN (C (i + 1)) : Int) - 1)) ∧ A3 W w':=fun i hi W x hx =>
  A2c x.1 _ _ x.2 rfl hx.2.1 (by have := (hz i hi).1;omega) (hz i hi).2 W hx.1
 have hd : ∀ i,i < K → ∀ (W : World) (x y : Ax),PR (C i) x W → PR (C (i + 1)) y W → Tab W → Calls Tryz.prog 129 #[.slice x.1 (C i).length x.2,.slice y.1 (C (i + 1)).length y.2] W (I1 (fun z : Ax × Ax=>.tuple #[.slice z.1.1 (Q i).length z.1.2,.slice z.2.1 (R i).length z.2.2,.bool true]) (fun z W'=>PR (Q i) z.1 W' ∧ PR (R i) z.2 W') W):=hd
 have hsh : ∀ i,i < K → ∀ (W : World) (x : Ax),PR (S i) x W → Tab W → Calls Tryz.prog sh #[.slice x.1 (S i).length x.2] W (E7 (C (i + 2)) W):=hsh
 have h1 : ∀ (W : World) (x : Ax),PR (C 0) x W → Tab W → Calls Tryz.prog 128 #[.slice x.1 (C 0).length x.2] W (E7 (C 1) W):=h1
 have hle:=fun i=>G4 (C i)
 unfold E7 at h0 h1 hs hsh
 unfold I4
 obtain ⟨Ln,hLn⟩ : ∃ Ln : Nat → Nat,Ln = fun i=>(C i).length:=⟨_,rfl⟩
 have hLi : ∀ i,(C i).length = Ln i:=by rw [hLn];exact fun _=>rfl
 obtain ⟨T,hTe⟩ : ∃ T : Nat → Nat,T = fun i=>trN (C i):=⟨_,rfl⟩
 have hTi : ∀ i,trN (C i) = T i:=by rw [hTe];exact fun _=>rfl
 obtain ⟨np,hnp⟩ : ∃ n,n = p.length:=⟨_,rfl⟩
 rw [← hnp]
 simp only [← hnp,hLi] at h0
 simp only [hLi] at h1 hd hsh hdec
 simp only [hLi,hTi] at hdg hle
 rw [hTi] at hend
 simp only [hTi] at hpos
 have hzl : ∀ i,i ≤ K → Ln (i + 1) ≤ 1000:=fun i hi=>by rw [← hLi];exact (hz i hi).1
 have H0:=Lib.hid h0
 have H1:=Lib.hid h1
 have Hdg:=Lib.hid hdg
 have Hd:=Lib.hid hd
 have Hs:=Lib.hid hs
 have Hsh:=Lib.hid hsh
 have Hpos:=Lib.hid hpos
 have Hend:=Lib.hid hend
 have Hdec:=Lib.hid hdec
 have Hle:=Lib.hid hle
 have Hzl:=Lib.hid hzl
 have HLn:=Lib.hid hLi
 clear h0 h1 hdg hd hs hsh hpos hend hdec hle hLi hLn hTi hTe hnp hz hp hzl
 go_enter Tryz.func71,Tryz.ntmps71
 refine en0 ?_
 intro u hG hB hF
 refine wp_seq (rsE A5 [0,1,0] hB hG fun L hL=>?_)
 refine gs ?_
 refine gxd (X:=Ax) (fun x : Ax=>.slice x.1 (Ln 0) x.2) (fun x W=>PR (C 0) x W) (fun x u u' hg h=>h.grow hg) (fun x12=>?_) (C:=by (rintro v ⟨hgu,hB,hG,-⟩;exact H0.out _ hG))
 refine gs ?_
 refine geT hL ?_
 clear hB hG hL L
 rintro u ⟨⟨hgu,hB,hG,-⟩,hx12⟩
 have HP:=Lib.hid hx12
 clear hx12
 clear hgu
 refine wp_seq ?_
 refine M9 ?_
 intro K0 hN
 go_wp2_with fail
 generalize hv : World.alloc u _ = v
 have hbk : Blk v u.heap.size 23 #[.slice x12.1 (Ln 0) x12.2]:=hv ▸ Blk.new u 23 _
 have hgv : A3 u v:=hv ▸ A3.alloc u _
 have hrow:=B41 hbk hG.sz
 have HP2:=Lib.hid (HP.out.grow hgv)
 have hG2:=hG.trans hgv
 clear hv hG hB hgv hbk HP
 generalize u.heap.size = g at hrow ⊢
 have HP:=HP2
 have Ho:=Lib.hid hrow
 have hG:=hG2
 have hB:=Bx.nil v
 have hF:=Fr.nil w
 clear hrow hG2 HP2
 obtain ⟨u,rfl⟩ : ∃ x,x = v:=⟨_,rfl⟩
 refine NoK.norm (hN _ _ ?_)
 clear hN K0
 refine A4 ?_
 refine wp_seq (rsE A5 [0,1,0] hB hG fun L hL=>?_)
 refine gs ?_
 refine gxd (X:=Ax) (fun x : Ax=>.slice x.1 (Ln 1) x.2) (fun x W=>PR (C 1) x W) (fun x u u' hg h=>h.grow hg) (fun x16=>?_) (C:=by (rintro v ⟨hgu,hB,hG,-⟩;exact H1.out _ x12 (HP.out.grow hgu) (HT.grow hG)))
 refine gs ?_
 refine geT hL ?_
 clear hB hG hL L
 rintro u ⟨⟨hgu,hB,hG,-⟩,hx16⟩
 have HP2:=Lib.hid (And.intro (HP.out.grow hgu) hx16)
 have Ho2:=Lib.hid (F3 Ho.out hgu)
 clear HP Ho hx16
 have HP:=HP2
 have Ho:=Ho2
 clear HP2 Ho2
 clear hgu
 refine wp_seq ?_
 refine wp_block ?_
 clear hF
 go_loopw [5,6,7] (fun s0 s1 s2 wr=>∃ (i : Nat) (x y : Ax) (v : Value) (rs : List Rq),i ≤ K ∧ s0 = .slice x.1 (Ln i) x.2 ∧ s2 = .slice y.1 (Ln (i + 1)) y.2 ∧ v = s1 ∧ PR (C i) x wr ∧ PR (C (i + 1)) y wr ∧ wr.ownsRow w.heap.size 23 1 v (i + 1) (rs.map A1C) ∧ rs.map (·.2.2) = (List.range (i + 1)).map C ∧ N6 wr rs ∧ A3 w wr) (fun _ _ s2 _=>A3p s2)
 case atStart=>exact ⟨0,x12,x16,_,[(x12.1,x12.2,C 0)],Nat.zero_le _,rfl,rfl,rfl,HP.out.1,HP.out.2,by simpa only [List.map_cons,List.map_nil,A1C,HLn.out] using Ho.out,rfl,fun r hr=>by
  simp only [List.mem_cons,List.not_mem_nil,or_false] at hr
  subst hr
  exact HP.out.1,hG⟩
 case round =>
  clear hG HP Ho hB
  obtain ⟨i,x,y,v,rs,hi,rfl,rfl,rfl,hx,hy,ho,hrs,hall,hG⟩:=hrel
  obtain ⟨u,rfl⟩ : ∃ x,x = wr:=⟨_,rfl⟩
  have hB:=Bx.nil u
  have hF:=Fr.nil w
  have HX:=Lib.hid hx
  have HY:=Lib.hid hy
  have Ho:=Lib.hid ho
  have Hrs:=Lib.hid hrs
  have hA:=Lib.hid hall
  clear hx hy ho hrs hall
  have hdg:=Hdg.out i hi
  have hyl:=HLn.out (i + 1)
  obtain ⟨y1,y2⟩:=y
  rcases Nat.lt_or_ge i K with hlt | hge
  ·have hpo:=Hpos.out i hlt
   have hdc:=Hdec.out i hlt
   have hle:=Hle.out (i + 1)
   have hzl:=Hzl.out i hi
   have hd1:=Hd.out i hlt
   have hs1:=Hs.out i hlt
   have hsh1:=Hsh.out i hlt
   obtain ⟨l0,hl0⟩ : ∃ n,n = Ln i:=⟨_,rfl⟩
   obtain ⟨l1,hl1⟩ : ∃ n,n = Ln (i + 1):=⟨_,rfl⟩
   obtain ⟨l2,hl2⟩ : ∃ n,n = Ln (i + 2):=⟨_,rfl⟩
   obtain ⟨nq,hnq⟩ : ∃ n,n = (Q i).length:=⟨_,rfl⟩
   obtain ⟨nr,hnr⟩ : ∃ n,n = (R i).length:=⟨_,rfl⟩
   obtain ⟨ns,hns⟩ : ∃ n,n = (S i).length:=⟨_,rfl⟩
   obtain ⟨d,hde⟩ : ∃ d : Int,d = (T (i + 1) : Int) - 1:=⟨_,rfl⟩
   have f19 : decide (d ≥ 0) = true:=decide_eq_true (by omega)
   rw [← hl1,← hl2] at hdc
   simp only [← hl0,← hl1,← hnq,← hnr] at hd1
   simp only [← hl1,← hde] at hdg
   simp only [← hnr,← hns] at hs1
   simp only [← hl2,← hns] at hsh1
   rw [← hl0,← hl1]
   rw [← hl1] at hyl
   have HL:=Lib.hid (And.intro hl1 (And.intro hl2 hyl))
   have Hdg1:=Lib.hid hdg
   have Hd1:=Lib.hid hd1
   have Hs1:=Lib.hid hs1
   have Hsh1:=Lib.hid hsh1
   clear hd1 hs1 hsh1 hdg hl0 hl1 hl2 hnq hnr hns hde hpo hle hzl hyl
   refine wp_seq ?_
   refine wp_seq (rsE A5 [0,1,0] hB hG fun L hL=>?_)
   refine gs ?_
   refine gmd (C:=fun v ⟨hgu,hB,hG,_⟩=>Hdg1.out _ (y1,y2) (HY.out.grow hgu)) ?_
   refine gs ?_
   refine geT hL ?_
   clear hB hG hL L
   rintro u ⟨hgu,hB,hG,-⟩
   have HX2:=Lib.hid (HX.out.grow hgu)
   have HY2:=Lib.hid (HY.out.grow hgu)
   have Ho2:=Lib.hid (F3 Ho.out hgu)
   have hA2:=Lib.hid (N6.grow hA.out hgu)
   clear HX HY Ho hA
   have HX:=HX2
   have HY:=HY2
   have Ho:=Ho2
   have hA:=hA2
   clear HX2 HY2 Ho2 hA2
   clear hgu
   refine wp_cond_true (rfl) ?_
   refine wp_skip ?_
   refine A4 ?_
   refine wp_block ?_
   refine wp_seq ?_
   have hA2:=Lib.hid (And.intro HX.out (And.intro HY.out hA.out))
   clear HX HY hA
   have hA:=hA2
   clear hA2
   refine A03 (w:=w) A5 2 [0,0] (by kernel_rfl) (by simp only [List.drop_succ_cons,List.drop_zero];exact rfl) (fun _=>True) noG hB hG trivial ?_
   intro K L hN hL
   simp only [List.zip_cons_cons,List.zip_nil_left]
   refine gs ?_
   refine K8 ?_
   rintro v ⟨hgu,hB1,hG1,-⟩
   have ROWn:=Lib.hid (F3 Ho.out hgu)
   clear Ho
   have Ho:=ROWn
   clear ROWn
   have hA2:=Lib.hid (And.intro (hA.out.1.grow hgu) (And.intro (hA.out.2.1.grow hgu) (N6.grow hA.out.2.2 hgu)))
   clear hA
   have hA:=hA2
   clear hA2
   clear hB hG
   have hB:=hB1
   have hG:=hG1
   clear hB1 hG1
   refine hL _ _ ?_
   clear hL L hgu
   obtain ⟨u,rfl⟩ : ∃ x,x = v:=⟨_,rfl⟩
   refine A2J B5K w.heap.size _ _ _ _ [.slice y1 l1 y2] rfl rfl (B4R y1 l1 y2 u) rfl (fun _=>rfl) (fun _=>rfl) (fun _ _=>rfl) Ho.out (by omega) (by omega) hG.sz fun p v' w' g1 g2 g3=>?_
   have hBn:=Bx.nil w'
   have hga:=A3.alloc u (.cells [Value.slice y1 l1 y2].toArray 23)
   have hoA:=F3 Ho.out hga
   have HX:=Lib.hid ((hA.out.1.grow hga).off hoA (by decide) g2)
   have HY:=Lib.hid ((hA.out.2.1.grow hga).off hoA (by decide) g2)
   have hAl:=N6.off (N6.grow hA.out.2.2 hga) hoA (by decide) g2
   have HA2:=Lib.hid (show N6 w' (rs ++ [(y1,y2,C (i + 1))]) from fun r hr=>by
    rcases List.mem_append.1 hr with hr | hr
    ·exact hAl r hr
    ·simp only [List.mem_cons,List.not_mem_nil,or_false] at hr
     subst hr
     exact HY.out)
   clear hga hoA hAl hA
   have hGn:=A2K Ho.out hG g2
   clear Ho hB hG
   have Ho:=Lib.hid g1
   have hB:=hBn
   have hG:=hGn
   clear g1 g2 g3 hBn hGn
   obtain ⟨u,rfl⟩ : ∃ x,x = w':=⟨_,rfl⟩
   simp only [Act.put,List.setIfInBounds_toArray,List.set_cons_succ,List.set_cons_zero]
   refine NoK.norm (hN _ _ ?_)
   clear hN K
   refine A4 ?_
   refine wp_seq (rsE A5 [0,0,1,0,0,0,0,0,0,0] hB hG fun L hL=>?_)
   refine gs ?_
   refine gxd (X:=(Ax × Ax)) (fun z : Ax × Ax=>.tuple #[.slice z.1.1 nq z.1.2,.slice z.2.1 nr z.2.2,.bool true]) (fun z W'=>PR (Q i) z.1 W' ∧ PR (R i) z.2 W') (fun x u u' hg h=>⟨h.1.grow hg,h.2.grow hg⟩) (fun x27=>?_) (C:=by (rintro v ⟨hgu,hB,hG,-⟩;exact Hd1.out _ x (y1,y2) (HX.out.grow hgu) (HY.out.grow hgu) (HT.grow hG)))
   refine gs ?_
   refine geT hL ?_
   clear hB hG hL L
   rintro u ⟨⟨hgu,hB,hG,-⟩,hx27⟩
   have HR:=Lib.hid hx27.2
   have HY2:=Lib.hid (HY.out.grow hgu)
   have Ho2:=Lib.hid (F3 Ho.out hgu)
   have HA3:=Lib.hid (N6.grow HA2.out hgu)
   clear HX HY Ho HA2 hx27
   have HY:=HY2
   have Ho:=Ho2
   have HA:=HA3
   clear HY2 Ho2 HA3
   obtain ⟨w6,hw6⟩ : ∃ x,x = u:=⟨_,rfl⟩
   rw [← hw6] at HR HY Ho HA
   have hG6 : A3 w6 u:=hw6 ▸ A3.refl u
   clear hw6
   clear hgu
   refine rsE A5 [0,0,0,1,1,0,0] hB hG fun L hL=>?_
   refine gs ?_
   refine gxd (X:=Ax) (fun x : Ax=>.slice x.1 ns x.2) (fun x W=>PR (S i) x W) (fun x u u' hg h=>h.grow hg) (fun x34=>?_) (C:=by (rintro v ⟨hgu,hB,hG,-⟩;exact Hs1.out _ x27.2 (HR.out.grow (hG6.trans hgu)) (HT.grow hG)))
   refine gxd (X:=Ax) (fun x : Ax=>.slice x.1 l2 x.2) (fun x W=>PR (C (i + 2)) x W) (fun x u u' hg h=>h.grow hg) (fun x35=>?_) (C:=by (rintro v ⟨⟨hgu,hB,hG,-⟩,hx34⟩;exact Hsh1.out _ x34 hx34 (HT.grow hG)))
   refine gs ?_
   refine geE hL ?_
   clear hB hG hL L
   rintro u ⟨⟨⟨hgu,hB,hG,-⟩,hx34⟩,hx35⟩
   have HP:=Lib.hid hx35
   clear hx34 hx35
   replace hG6:=hG6.trans hgu
   clear hgu
   refine F0 ?_
   refine A4 ?_
   go_roundw
   case rel=>exact ⟨i + 1,(y1,y2),x35,_,rs ++ [(y1,y2,C (i + 1))],by omega,by rw [← HL.out.1],by rw [show i + 1 + 1 = i + 2 from rfl,← HL.out.2.1],rfl,HY.out.grow hG6,HP.out,by have h9:=F3 Ho.out hG6;rw [List.map_append];simpa only [List.map_cons,List.map_nil,A1C,HL.out.2.2] using h9,by rw [List.map_append,Hrs.out,List.range_succ (n:=i + 1),List.map_append];rfl,N6.grow HA.out hG6,hG⟩
   case measure=>simp [A3p];omega
  ·obtain rfl : K = i:=by omega
   have he:=Hend.out
   rw [he] at hdg
   have hdg0 : ∀ (W : World) (x : Ax),PR (C (K + 1)) x W → Calls Tryz.prog 11 #[.slice x.1 (Ln (K + 1)) x.2] W fun e w'=>e = .returned (.int .i64 (-1)) ∧ A3 W w':=hdg
   obtain ⟨A0,c0,e0,hc0,hL0⟩:=B4j Ho.out hA.out
   have HR:=Lib.hid (And.intro e0 (And.intro hc0 (show RW ((List.range (K + 1)).map C) A0 u from ⟨rs,Hrs.out,hL0,hA.out,fun a ha=>A2d Ho.out (by rw [e0,ha];rfl)⟩)))
   obtain ⟨l1,hl1⟩ : ∃ n,n = Ln (K + 1):=⟨_,rfl⟩
   simp only [← hl1] at hdg0
   rw [← hl1]
   have Hdg1:=Lib.hid hdg0
   clear hdg hdg0 he hge hi hl1 e0 hc0 hL0 hyl
   refine wp_seq ?_
   refine wp_seq (rsE A5 [0,1,0] hB hG fun L hL=>?_)
   refine gs ?_
   refine gmd (C:=fun v ⟨hgu,hB,hG,_⟩=>Hdg1.out _ (y1,y2) (HY.out.grow hgu)) ?_
   refine gs ?_
   refine geT hL ?_
   clear hB hG hL L
   rintro u ⟨hgu,hB,hG,-⟩
   have HR2:=Lib.hid (And.intro HR.out.1 (And.intro HR.out.2.1 (HR.out.2.2.grow hgu)))
   clear HR
   have HR:=HR2
   clear HR2
   clear hgu
   refine wp_cond_false (rfl) ?_
   refine wp_exit ?_
   refine D7 ?_
   refine D7 ?_
   refine G8 ?_
   refine A4 ?_
   refine wp_seq ?_
   obtain ⟨e0,hc0,hRW⟩:=HR.out
   subst e0
   have HR2:=Lib.hid (And.intro hc0 hRW)
   clear HR hc0 hRW
   refine r0N ?_
   refine rt Tryz.results71 ?_
   exact ⟨(A0,c0),rfl,⟨HR2.out.2,HR2.out.1⟩,hG⟩
end Go.Proofs.YtlkniebmjdoopaaGreatDoor
