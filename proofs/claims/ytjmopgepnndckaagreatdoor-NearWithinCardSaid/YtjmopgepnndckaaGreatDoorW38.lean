/- Contracts and laws. -/
import Derived.Test.YtjmopgepnndckaaGreatDoorW36
import Derived.Test.YtjmopgepnndckaaGreatDoorW37
set_option linter.unusedSimpArgs false
set_option linter.unusedVariables false
set_option maxHeartbeats 8000000
set_option maxRecDepth 100000
namespace Go.Proofs.YtjmopgepnndckaaGreatDoor
open Go Go.RowKit
theorem B4z (A : Option Addr) (rs : List Rq) (n L c : Nat) (hn : rs.length = n) (hn1 : 1 ≤ n) (hn2 : n ≤ 1048576) (hL1 : 1 ≤ L) (hrl : ∀ r ∈ rs,r.2.2.length = L) (w : World) (h : Lrz w A rs) :
  Calls Tryz.prog 54 #[.slice A n c] w fun e w'=>e = .returned (.bool true) ∧ A3 w w':=by
 obtain ⟨bb,ob,rfl⟩:=h.addr (by omega)
 have hrow : ∀ i,i < n → ∃ (Ar : Option Addr) (cr : Nat),∀ W,A3 w W → W.cell? ⟨bb,ob + i,none⟩ = some (.slice Ar L cr):=fun i hi=>by
  have hil : i < rs.length:=by omega
  refine ⟨rs[i].1,rs[i].2.1,fun W hg=>?_⟩
  have h3:=((h.grow hg).read (List.getElem?_eq_getElem hil)).1
  rw [hrl _ (List.getElem_mem hil)] at h3
  exact h3
 obtain ⟨A0,c0,hrow0⟩:=hrow 0 (by omega)
 rw [Nat.add_zero] at hrow0
 have hni : (0 : Int) < (n : Int):=by omega
 have fnz : decide (n = 0) = false:=by simp;omega
 have fnp : 0 < n:=by omega
 have fn : decide ((0 : Int) < (n : Int)) = true:=by simp;omega
 have fnn : decide (0 < n) = true:=by simp;omega
 have hne : ((L : Int) != (L : Int)) = false:=by simp
 have fL : ((L : Int) == 0) = false:=by simp;omega
 have fLd : decide (L = 0) = false:=by simp;omega
 have Hrow:=Lib.hid hrow
 have Hrow0:=Lib.hid hrow0
 clear hrow hrow0 h hrl hn
 go_enter Tryz.func54,Tryz.ntmps54
 refine en0 ?_
 intro u hG hB hF
 refine wp_seq ?_
 refine r0T ?_
 refine wp_block ?_
 go_loopw [3] (fun s0 wr=>∃ i : Nat,i ≤ n ∧ s0 = .int .i64 i ∧ A3 w wr) (fun s0 _=>n - (intOf s0).toNat)
 case atStart=>exact ⟨0,Nat.zero_le _,rfl,hG⟩
 case round =>
  clear hB hG
  obtain ⟨i,hi,rfl,hG⟩:=hrel
  obtain ⟨u,rfl⟩ : ∃ x,x = wr:=⟨_,rfl⟩
  have hB:=Bx.nil u
  rcases Nat.lt_or_ge i n with hlt | hge
  ·have hdec : decide ((i : Int) < (n : Int)) = true:=by simp;omega
   obtain ⟨Ar,cr,hrw⟩:=Hrow.out i hlt
   have Hrw:=Lib.hid hrw
   clear hrw
   refine wp_seq ?_
   refine r0T ?_
   refine wp_cond_true (rfl) ?_
   refine wp_skip ?_
   refine A4 ?_
   refine wp_seq ?_
   refine wp_block ?_
   refine wp_seq (rdC A5 [] [(0,0),(0,1),(0,2),(0,3),(0,4),(0,5),(0,6),(0,7),(0,8),(0,9),(0,10),(0,11),(0,12),(0,13),(0,14),(0,15),(0,16)] hB hG fun K L hN hL=>?_)
   repeat first | refine gya ?_ | refine gyr ?_ | refine gna ?_ | refine gyb (by (rintro v ⟨hgu,hB,hG,-⟩ N hN;have r:=hB.r;simp only [BxR] at r;have q0:=Hrow0.out v hG;have q1:=Hrw.out v hG;go_simp;exact hN)) ?_
   refine geC hL ?_
   clear hB hG hL L
   rintro u ⟨-,hB,hG,-⟩
   refine gtT ?_
   clear hN K
   refine wp_cond_false (rfl) ?_
   refine wp_skip ?_
   refine D4 ?_
   refine A4 ?_
   refine r0E ?_
   refine A4 ?_
   go_roundw
   case rel=>exact ⟨i + 1,by omega,by go_num,hG⟩
   case measure=>simp [intOf];omega
  ·obtain rfl : n = i:=by omega
   have hdec : decide ((n : Int) < (n : Int)) = false:=by simp
   refine wp_seq ?_
   refine r0T ?_
   refine wp_cond_false (rfl) ?_
   refine wp_exit ?_
   refine B1 ?_
   refine B1 ?_
   refine E3 ?_
   refine A4 ?_
   refine r0T ?_
   refine rt Tryz.results54 ?_
   exact ⟨rfl,hG⟩
theorem A86 (A : Option Addr) (c : Nat) (w : World) : Calls Tryz.prog 54 #[.slice A 0 c] w fun e w'=>e = .returned (.bool false) ∧ A3 w w':=by
 go_enter Tryz.func54,Tryz.ntmps54
 refine en0 ?_
 intro u hG hB hF
 refine wp_seq ?_
 refine r0T ?_
 refine wp_block ?_
 go_loopw [3] (fun s0 wr=>s0 = .int .i64 0 ∧ A3 w wr) (fun s0 _=>0)
 case atStart=>exact ⟨rfl,hG⟩
 case round =>
  clear hB hG
  obtain ⟨rfl,hG⟩:=hrel
  obtain ⟨u,rfl⟩ : ∃ x,x = wr:=⟨_,rfl⟩
  have hB:=Bx.nil u
  refine wp_seq ?_
  refine r0T ?_
  refine wp_cond_false (rfl) ?_
  refine wp_exit ?_
  refine B1 ?_
  refine B1 ?_
  refine E3 ?_
  refine A4 ?_
  refine r0T ?_
  refine rt Tryz.results54 ?_
  exact ⟨rfl,hG⟩
theorem B3U (A : Option Addr) (rs : List Rq) (n L c : Nat) (hn : rs.length = n) (hn1 : 1 ≤ n) (hn2 : n ≤ 300) (hL1 : 1 ≤ L) (hL2 : L ≤ 20) (hrl : ∀ r ∈ rs,r.2.2.length = L) (w : World) (h : Lrz w A rs) :
  Calls Tryz.prog 19 #[.slice A n c] w fun e w'=>e = .returned (.bool true) ∧ A3 w w':=by
 have hri:=fun W (hg : A3 w W)=>B4z A rs n L c hn hn1 (by omega) hL1 hrl W (h.grow hg)
 obtain ⟨bb,ob,rfl⟩:=h.addr (by omega)
 have hrow0 : ∃ (Ar : Option Addr) (cr : Nat),∀ W,A3 w W → W.cell? ⟨bb,ob,none⟩ = some (.slice Ar L cr):=by
  have hil : 0 < rs.length:=by omega
  refine ⟨rs[0].1,rs[0].2.1,fun W hg=>?_⟩
  have h3:=((h.grow hg).read (List.getElem?_eq_getElem hil)).1
  rw [hrl _ (List.getElem_mem hil),Nat.add_zero] at h3
  exact h3
 obtain ⟨A0,c0,hrow0⟩:=hrow0
 have hni : (0 : Int) < (n : Int):=by omega
 have fnz : decide (n = 0) = false:=by simp;omega
 have fnp : 0 < n:=by omega
 have f2 : decide ((n : Int) ≤ 300) = true:=by simp;omega
 have f2n : decide (n ≤ 300) = true:=by simp;omega
 have f4 : decide ((L : Int) ≤ 20) = true:=by simp;omega
 have f4n : decide (L ≤ 20) = true:=by simp;omega
 have Hri:=Lib.hid hri
 have Hrow0:=Lib.hid hrow0
 clear hri hrow0 h hrl hn
 go_enter Tryz.func19,Tryz.ntmps19
 refine en0 ?_
 intro u hG hB hF
 refine wp_seq (rsE A5 [0,1,0,0,0,0,0,0,0,0,0,0,0,0,0] hB hG fun L hL=>?_)
 refine gs ?_
 refine gmd (C:=fun v ⟨hgu,hB,hG,_⟩=>Hri.out _ hG) ?_
 repeat first | refine gya ?_ | refine gyr ?_ | refine gna ?_ | refine gyb (by (rintro v ⟨hgu,hB,hG,-⟩ N hN;have r:=hB.r;simp only [BxR] at r;have q0:=Hrow0.out v hG;go_simp;exact hN)) ?_
 refine geT hL ?_
 clear hB hG hL L
 rintro u ⟨-,hB,hG,-⟩
 refine rt Tryz.results19 ?_
 exact ⟨rfl,hG⟩
theorem B2R (A : Option Addr) (c : Nat) (w : World) : Calls Tryz.prog 19 #[.slice A 0 c] w fun e w'=>e = .returned (.bool false) ∧ A3 w w':=by
 have hri:=fun W=>A86 A c W
 go_enter Tryz.func19,Tryz.ntmps19
 refine en0 ?_
 intro u hG hB hF
 refine wp_seq (rsE A5 [0,1,0,0,0,0,0,0,0,0,0,0,0,0,0] hB hG fun L hL=>?_)
 refine gs ?_
 refine gmw (C:=fun v=>hri _) ?_
 refine gs ?_
 refine geT hL ?_
 clear hB hG hL L
 rintro u ⟨-,hB,hG,-⟩
 refine rt Tryz.results19 ?_
 exact ⟨rfl,hG⟩
theorem A90 (A B : Option Addr) (l l' : List Rat) (c d n : Nat) (hl : l.length = n) (hl' : l'.length = n) (hm : n ≤ 1048576) (s : Nat) (hs : ∀ x ∈ l,qs x ≤ s) (hs' : ∀ x ∈ l',qs x ≤ s) (hBz : n * (4 * s + 3) + 8 * s + 300 ≤ BIG) (w : World) (h : Lz w A l) (h' : Lz w B l') :
  Calls Tryz.prog 93 #[.slice A n c,.slice B n d] w (Ret (G5 (G0 l l' n)) w):=by
 have hM:=A0M hl hl' hs hs'
 have HM:=Lib.hid hM
 have Hs:=Lib.hid hs
 have Hs':=Lib.hid hs'
 have H:=Lib.hid h
 have H':=Lib.hid h'
 have Hl:=Lib.hid hl
 have Hl':=Lib.hid hl'
 unfold G0
 clear hM hs hs' h h' hl hl'
 go_enter Tryz.func93,Tryz.ntmps93
 refine en1 ?_
 intro u hG b4 hB hF
 refine wp_seq (rsC A1w [1,2] hB hG fun K L hN hL=>?_)
 refine grd (G5 (D6 0)) (fun (x8 : Ax × Ax)=>?_) (C:=fun v _=>A7G 0 (by omega) (by omega) _)
 refine gaa (A0r _ _ _ _ _) fun b5 hb5 hn5=>?_
 replace hF:=hF.n1 [] hB hG hb5 hn5
 refine geC hL ?_
 clear hB hG hL L
 rintro u ⟨⟨⟨-,hB,hG,-⟩,hx8⟩,h5⟩
 replace hB:=hB.cons' h5
 clear h5
 obtain ⟨hx8a,hx8b⟩ : Rn u x8.1 _ ∧ Rn u x8.2 _:=hx8
 clear hb5 hn5
 refine gtT ?_
 clear hN K
 refine sv hB hF hG 0 0 [_,_,_] ?_
 intro u hu hBG
 replace hx8a:=hx8a.put hB 0 rfl (by first | decide | simp) _ _ hu
 replace hx8b:=hx8b.put hB 0 rfl (by first | decide | simp) _ _ hu
 clear hB hG hu
 obtain ⟨hB,hG⟩:=hBG
 refine wp_seq ?_
 refine r0T ?_
 refine wp_block ?_
 go_loopw [6] (fun s0 wr=>∃ (j : Nat) (S : Rat) (p : Az),j ≤ n ∧ s0 = .int .i64 j ∧ S = L6 (sqQ l l') j ∧ Rz wr p S ∧ Bx wr [(b5,57,B0h p S),(b4,57,B2o)] ∧ A3 w wr) (fun s0 _=>n - (intOf s0).toNat)
 case atStart=>exact ⟨0,D6 0,x8,Nat.zero_le _,rfl,B1m,⟨hx8a,hx8b⟩,hB,hG⟩
 case round =>
  clear hB hG hx8a hx8b
  obtain ⟨j,S,p,hj,rfl,hS,hSz,hB,hG⟩:=hrel
  obtain ⟨u,rfl⟩ : ∃ x,x = wr:=⟨_,rfl⟩
  have z1:=HM.out j hj
  rw [← hS] at z1
  rcases Nat.lt_or_ge j n with hlt | hge
  ·have hdec : decide ((j : Int) < (n : Int)) = true:=by simp;omega
   have hjl : j < l.length:=by rw [Hl.out];exact hlt
   have hjl' : j < l'.length:=by rw [Hl'.out];exact hlt
   obtain ⟨ba,oa,rfl⟩:=H.out.addr (by omega)
   obtain ⟨bb,ob,rfl⟩:=H'.out.addr (by omega)
   obtain ⟨r,hrd⟩:=H.out.read hjl
   obtain ⟨r',hrd'⟩:=H'.out.read hjl'
   have z2:=Hs.out _ (T5 hjl)
   have z3:=Hs'.out _ (T5 hjl')
   have hnx : L6 (sqQ l l') (j + 1) = I5 (L6 (sqQ l l') j) (F4 (G4 (gq l j) (gq l' j)) (G4 (gq l j) (gq l' j))):=rfl
   rw [← hS] at hnx
   obtain ⟨X,hX⟩ : ∃ X,X = gq l j:=⟨_,rfl⟩
   obtain ⟨Y,hY⟩ : ∃ X,X = gq l' j:=⟨_,rfl⟩
   simp only [← hX] at hrd
   simp only [← hY] at hrd'
   rw [← hX] at z2 hnx
   rw [← hY] at z3 hnx
   have z4:=A22 X Y
   have hsb:=fun W g1 g2 g3 g4=>A9L r.1 r.2 r'.1 r'.2 X Y W g1 g2 g3 g4 (by omega)
   obtain ⟨D,hD⟩ : ∃ D,D = G4 X Y:=⟨_,rfl⟩
   rw [← hD] at hnx hsb
   have z5 : qs D ≤ 2 * s + 1:=by rw [hD];unfold G4;omega
   have z6:=A3K D D
   have hml:=fun W (o : Az) g1 g2=>A9f o.1 o.2 o.1 o.2 D D W g1 g2 g1 g2 (by omega)
   obtain ⟨DD,hDD⟩ : ∃ DD,DD = F4 D D:=⟨_,rfl⟩
   have z7 : qs DD ≤ 4 * s + 2:=by rw [hDD];unfold F4;omega
   rw [← hDD] at hnx hml
   have had:=fun W (o : Az) g1 g2 g3 g4=>A8s p.1 p.2 o.1 o.2 S DD W g1 g2 g3 g4 (by omega)
   have Hrd:=Lib.hid hrd
   have Hrd':=Lib.hid hrd'
   have Hnx:=Lib.hid hnx
   have Hsb:=Lib.hid hsb
   have Hml:=Lib.hid hml
   have Had:=Lib.hid had
   clear hrd hrd' hnx hsb hml had hX hY hD hDD hjl hjl' hS z1 z2 z3 z4 z5 z6 z7
   refine wp_seq ?_
   refine r0T ?_
   refine wp_cond_true (rfl) ?_
   refine wp_skip ?_
   refine A4 ?_
   refine wp_seq ?_
   refine wp_block ?_
   refine wp_seq (rdC A1w [] [(0,0),(0,1),(0,2),(0,3),(0,4),(0,5),(0,6),(0,7),(1,8),(2,9)] hB hG fun K L hN hL=>?_)
   repeat first | refine gya ?_ | refine gyr ?_ | refine gna ?_ | refine gyb (by (rintro v ⟨hgu,hB,hG,-⟩ N hN;have r:=hB.r;simp only [BxR] at r;obtain ⟨-,c1,c2,c3⟩:=Hrd.out v hG;obtain ⟨-,d1,d2,d3⟩:=Hrd'.out v hG;go_simp;exact hN)) ?_
   refine grd (G5 D) (fun (x23 : Ax × Ax)=>?_) (C:=by (rintro v ⟨hgu,hB,hG,-⟩;exact Hsb.out _ (Hrd.out _ hG).1.a (Hrd.out _ hG).1.b (Hrd'.out _ hG).1.a (Hrd'.out _ hG).1.b))
   refine gaa (A0r _ _ _ _ _) fun b7 hb7 hn7=>?_
   replace hF:=hF.n1 [] hB hG hb7 hn7
   refine geC hL ?_
   clear hB hG hL L
   rintro u ⟨⟨⟨hgu,hB,hG,-⟩,hx23⟩,h7⟩
   replace hB:=hB.cons' h7
   clear h7
   replace hSz:=hSz.grow hgu
   obtain ⟨hx23a,hx23b⟩ : Rn u x23.1 _ ∧ Rn u x23.2 _:=hx23
   clear hb7 hn7
   clear hgu
   refine gtT ?_
   clear hN K
   refine sv hB hF hG 0 0 [_,_,_] ?_
   intro u hu hBG
   replace hSz:=hSz.put hB 0 rfl (by first | decide | simp) _ _ hu
   replace hx23a:=hx23a.put hB 0 rfl (by first | decide | simp) _ _ hu
   replace hx23b:=hx23b.put hB 0 rfl (by first | decide | simp) _ _ hu
   clear hB hG hu
   obtain ⟨hB,hG⟩:=hBG
   refine rdC A1w [] [(0,0),(0,1),(0,2),(1,3),(1,4)] hB hG fun K L hN hL=>?_
   repeat first | refine gya ?_ | refine gyr ?_ | refine gna ?_ | refine gyb (by (rintro v ⟨hgu,hB,hG,-⟩ N hN;have r:=hB.r;simp only [BxR] at r;obtain ⟨-,c1,c2,c3⟩:=Hrd.out v hG;obtain ⟨-,d1,d2,d3⟩:=Hrd'.out v hG;go_simp;exact hN)) ?_
   refine grd (G5 DD) (fun (x27 : Ax × Ax)=>?_) (C:=by (rintro v ⟨hgu,hB,hG,-⟩;exact Hml.out _ x23 (hx23a.grow hgu) (hx23b.grow hgu)))
   refine grd (G5 (I5 S DD)) (fun (x28 : Ax × Ax)=>?_) (C:=by (rintro v ⟨⟨hgu,hB,hG,-⟩,hx27⟩;obtain ⟨hx27a,hx27b⟩ : Rn v x27.1 _ ∧ Rn v x27.2 _:=hx27;exact Had.out _ x27 (hSz.grow hgu).a (hSz.grow hgu).b hx27a hx27b))
   refine geC hL ?_
   clear hB hG hL L
   rintro u ⟨⟨⟨hgu,hB,hG,-⟩,hx27⟩,hx28⟩
   replace hSz:=hSz.grow hgu
   replace hx23a:=hx23a.grow hgu
   replace hx23b:=hx23b.grow hgu
   obtain ⟨hx27a,hx27b⟩ : Rn u x27.1 _ ∧ Rn u x27.2 _:=hx27
   obtain ⟨hx28a,hx28b⟩ : Rn u x28.1 _ ∧ Rn u x28.2 _:=hx28
   clear hgu
   refine gt ?_
   clear hN K
   refine sv hB hF hG 1 0 [_,_,_] ?_
   intro u hu hBG
   replace hSz:=hSz.put hB 1 rfl (by first | decide | simp) _ _ hu
   replace hx23a:=hx23a.put hB 1 rfl (by first | decide | simp) _ _ hu
   replace hx23b:=hx23b.put hB 1 rfl (by first | decide | simp) _ _ hu
   replace hx27a:=hx27a.put hB 1 rfl (by first | decide | simp) _ _ hu
   replace hx27b:=hx27b.put hB 1 rfl (by first | decide | simp) _ _ hu
   replace hx28a:=hx28a.put hB 1 rfl (by first | decide | simp) _ _ hu
   replace hx28b:=hx28b.put hB 1 rfl (by first | decide | simp) _ _ hu
   clear hB hG hu
   obtain ⟨hB,hG⟩:=hBG
   refine D4 ?_
   refine A4 ?_
   refine r0E ?_
   refine A4 ?_
   go_roundw
   case rel=>exact ⟨j + 1,I5 S DD,x28,by omega,by go_num,Hnx.out.symm,⟨hx28a,hx28b⟩,hB.tail,hG⟩
   case measure=>simp [intOf];omega
  ·obtain rfl : n = j:=by omega
   have hdec : decide ((n : Int) < (n : Int)) = false:=by simp
   rw [← hS]
   clear hS
   refine wp_seq ?_
   refine r0T ?_
   refine wp_cond_false (rfl) ?_
   refine wp_exit ?_
   refine B1 ?_
   refine B1 ?_
   refine E3 ?_
   refine A4 ?_
   refine r0T ?_
   refine sv hB hF hG 1 0 [_,_,_] ?_
   intro u hu hBG
   replace hSz:=hSz.put hB 1 rfl (by first | decide | simp) _ _ hu
   clear hB hG hu
   obtain ⟨hB,hG⟩:=hBG
   refine rt Tryz.results93 ?_
   exact B1S rfl hSz.a hSz.b hG
abbrev Hz:=Nat × Az × Rat
def hzL (h : Hz) : List Value:=.int .i64 (h.1 : Nat) :: zL h.2.1 h.2.2
def O3 (u : World) (ps : List Hz) : Prop:=∀ r ∈ ps,Rz u r.2.1 r.2.2
theorem O3.grow {u u' : World} {ps : List Hz} (h : O3 u ps) (hg : A3 u u') : O3 u' ps:=fun r hr=>(h r hr).grow hg
theorem O3.own {u w' : World} {B : Nat} {e : TypeId} {size n : Nat} {v : Value} {xs : List Value} {o : Obj} {ps : List Hz} (hl : O3 u ps) (h : u.ownsRow B e size v n xs) (ht : e ≠ 162) (hg : (u.alloc o).grownBy w' v.ownBlock) : O3 w' ps:=fun r hr=>(hl r hr).own h ht hg
theorem O3.put {u u' : World} {ps : List Hz} (h : O3 u ps) {bl : List (Nat × TypeId × Array Value)} (hB : Bx u bl) (k : Nat) {b : Nat} {t : TypeId} {cs : Array Value} (hk : bl[k]? = some (b,t,cs)) (ht : t ≠ 162) (i : Nat) (vs : List Value) (hu : E0 u b i vs = u') : O3 u' ps:=fun r hr=>(h r hr).put hB k hk ht i vs hu
theorem A4w {u w' : World} {B : Nat} {e : TypeId} {size n : Nat} {v : Value} {xs : List Value} {ps : List Hz} (hl : O3 u ps) (h : u.ownsRow B e size v n xs) (ht : e ≠ 162) (hg : u.grownBy w' v.ownBlock) : O3 w' ps:=fun r hr=>A2N (hl r hr) h ht hg
theorem W2 (h : Hz) : (hzL h).length = 4:=rfl
theorem B37 (l : List Hz) : (l.flatMap hzL).length = l.length * 4:=U5 (enc:=hzL) (size:=4) (fun _=>rfl) l
theorem A0q {u : World} {B n : Nat} {v : Value} {ps : List Hz} (h : u.ownsRow B 59 4 v n (ps.flatMap hzL)) : ps.length = n:=by
 have := h.1;rw [B37] at this;omega
def hzH (h : Hz) : Ht:=(h.1,h.2.2)
def Lhz (u : World) (A : Option Addr) (l : List Ht) : Prop :=
 l ≠ [] → ∃ b off,A = some ⟨b,off,none⟩ ∧ b < u.heap.size ∧ ∀ i h,l[i]? = some h → ∃ p : Az,Rz u p h.2 ∧ u.cell? ⟨b,off + i * 4,none⟩ = some (.int .i64 (h.1 : Nat)) ∧ Cz u b (off + i * 4 + 1) p h.2
theorem Lhz.grow {u u' : World} {A : Option Addr} {l : List Ht} (h : Lhz u A l) (hg : A3 u u') : Lhz u' A l:=fun hn=>by
 obtain ⟨b,off,e,hb,hc⟩:=h hn
 refine ⟨b,off,e,Nat.lt_of_lt_of_le hb hg.size,fun i q hi=>?_⟩
 obtain ⟨p,h1,h2,h3⟩:=hc i q hi
 exact ⟨p,h1.grow hg,(hg.cell (p:=⟨b,off + i * 4,none⟩) hb).trans h2,h3.grow hb hg⟩
theorem A77 {u : World} {B n : Nat} {v : Value} {ps : List Hz} (h : u.ownsRow B 59 4 v n (ps.flatMap hzL)) (ha : O3 u ps) : ∃ A c,v = .slice A n c ∧ n ≤ c ∧ Lhz u A (ps.map hzH) ∧ n = ps.length:=by
 have hn:=(A0q h).symm
 obtain ⟨_,h | ⟨g,cap,cur,rfl,hb,hh,hn',hc,hs,ht⟩⟩:=h
 ·obtain ⟨rfl,h0⟩:=h
  exact ⟨none,0,by rw [h0],by omega,fun hne=>absurd (by rw [List.eq_nil_of_length_eq_zero (l:=ps) (by omega)];rfl) hne,hn⟩
 ·refine ⟨_,cap,rfl,hn',fun _=>⟨g,0,rfl,N0 hh,fun i q hi=>?_⟩,hn⟩
  rw [List.getElem?_map] at hi
  obtain ⟨r,hr,rfl⟩:=Option.map_eq_some_iff.1 hi
  have hil : i < ps.length:=(List.getElem?_eq_some_iff.1 hr).1
  have er : ps[i] = r:=by rw [List.getElem?_eq_getElem hil] at hr;exact Option.some.inj hr
  have key : ∀ j v,j < 4 → (hzL r)[j]? = some v → u.cell? ⟨g,0 + i * 4 + j,none⟩ = some v:=fun j v hj hv=>by
   rw [cell_of_row u g _ cur 59 (0,0) hh,Nat.zero_add]
   have h1 : (cur.toList.take (n * 4))[i * 4 + j]? = some v:=by rw [ht,A24 (enc:=hzL) (size:=4) (fun _=>rfl) ps i j hil hj,er,hv]
   rw [List.getElem?_take,if_pos (by omega)] at h1
   simpa using h1
  exact ⟨r.2.1,ha r (List.mem_of_getElem? hr),key 0 _ (by omega) rfl,key 1 _ (by omega) rfl,key 2 _ (by omega) rfl,key 3 _ (by omega) rfl⟩
theorem A9v {u : World} {B g cap n : Nat} {ps : List Hz} (h : u.ownsRow B 59 4 (.slice (some ⟨g,0,none⟩) n cap) n (ps.flatMap hzL)) {k : Nat} (hk : k < ps.length) : u.cell? ⟨g,k * 4,none⟩ = some (.int .i64 (ps[k].1 : Nat)) ∧ Cz u g (k * 4 + 1) ps[k].2.1 ps[k].2.2 :=
 ⟨Q4 W2 h (A0q h).symm k 0 hk (by omega),Q4 W2 h (A0q h).symm k 1 hk (by omega),Q4 W2 h (A0q h).symm k 2 hk (by omega),Q4 W2 h (A0q h).symm k 3 hk (by omega)⟩
theorem A7T : EI 40 59 4 64:=W6 (by kernel_rfl) (by kernel_rfl) (by omega)
theorem A7m (i : Nat) (p : Az) (q : Rat) (w : World) : (Instr.buildSlice 40 1 #[(0,.agg #[.int .i64 (i : Nat),.bool (B7 q.num),.slice p.1.1 (ln q.num.natAbs) p.1.2,.slice p.2.1 (ln q.den) p.2.2])]).run Tryz.prog w = .ok (.slice (some ⟨w.heap.size,0,none⟩) 1 1) (w.alloc (.cells (hzL (i,p,q)).toArray 59)):=by
 go_simp
 rfl
theorem A7r (d : Option Tmp) (ty : TypeId) (pos : String) (af : Array Edge) (gd : Option (Nat × Bool)) : K5 Tryz.prog ⟨d,.alloc 59,ty,pos,af,gd⟩ = .cells #[.int .i64 0,.bool false,.slice none 0 0,.slice none 0 0] 59:=by kernel_rfl
theorem Y4 : ∀ t ∈ [57,59],K3 Tryz.prog t:=by
 intro t ht
 simp only [List.mem_cons,List.not_mem_nil,or_false] at ht
 rcases ht with rfl | rfl
 ·exact fun _ _ _ _ _ _=>by rw [A0r];kernel_rfl
 ·exact fun _ _ _ _ _ _=>by rw [A7r];kernel_rfl
theorem B01 : srt [] = []:=by simp [srt]
theorem B0K (f : Nat → Rat) (n : Nat) : D5 f (n + 1) = D5 f n ++ [(n,f n)]:=by unfold D5;rw [List.range_succ,List.map_append];rfl
theorem B1a {f : Nat → Rat} {ps : List Ht} {i k : Nat} (hp : ps = srt (D5 f i)) (hk : k ≤ ps.length) (h1 : ∀ j (h : j < ps.length),k ≤ j → f i < ps[j].2) (h2 : ∀ j (h : j < ps.length),j + 1 = k → ps[j].2 ≤ f i) : D7 ps k (i,f i) = srt (D5 f (i + 1)):=by
 have hlt : ∀ j (h : j < ps.length),ps[j].1 < i:=fun j h=>by
  have h3 : ps[j] ∈ srt (D5 f i):=by
   rw [← hp]
   exact List.getElem_mem h
  have h4:=(Q3 _).mem_iff.1 h3
  unfold D5 at h4
  obtain ⟨m,hm,e⟩:=List.mem_map.1 h4
  have := List.mem_range.1 hm
  have e1 : ps[j].1 = m:=by rw [← e]
  omega
 refine A0g ?_ (A3z (R:=leH) (fun h1 h2=>A0j h1 h2) ps k _ hk (hp ▸ A0k _) (fun j h hj=>.inl (h1 j h hj)) fun j h hj=>?_)
 ·refine (A2K ps k _).trans ?_
  rw [B0K]
  refine ((hp ▸ Q3 _ : ps.Perm (D5 f i)).cons _).trans ?_
  exact (List.perm_append_singleton _ _).symm
 ·have h3:=h2 j h hj
  by_cases e : ps[j].2 = f i
  ·exact .inr ⟨e,Nat.le_of_lt (hlt j h)⟩
  ·exact .inl (by show ps[j].2 < f i;grind)
theorem A1r (b : Nat) : ∀ (vs : List Value) (i : Nat) (u : World),u.grownBy (E0 u b i vs) (some b)
 | [],_,_=>⟨rfl,rfl,rfl,Nat.le_refl _,fun _ _ _=>rfl⟩
 | v :: vs,i,u=>A6Z (u1:=u.setCell ⟨b,i,none⟩ v) ⟨rfl,rfl,rfl,by simp [World.setCell],fun k _ hk=>Below.heap_setCell _ _ _ _ (fun e=>hk (by simp [e]))⟩ (A1r b vs (i + 1) _)
theorem W8 {u u' : World} {B : Nat} {e : TypeId} {size n b i : Nat} {v : Value} {xs vs : List Value} (h : u.ownsRow B e size v n xs) (hb : v.ownBlock ≠ some b) (hu : E0 u b i vs = u') : u'.ownsRow B e size v n xs:=by
 subst hu
 exact h.kept (A1r b vs i u) (.inr hb)
abbrev hzC (i : Nat) (p : Az) (q : Rat) : Array Value:=#[.int .i64 (i : Nat),.bool (B7 q.num),.slice p.1.1 (ln q.num.natAbs) p.1.2,.slice p.2.1 (ln q.den) p.2.2]
theorem A0p {W : World} {b o : Nat} {p : Az} {q : Rat} (h : Cz W b (o + 1) p q) : W.cell? ⟨b,o + 1,none⟩ = some (.bool (B7 q.num)) ∧ W.cell? ⟨b,o + 2,none⟩ = some (.slice p.1.1 (ln q.num.natAbs) p.1.2) ∧ W.cell? ⟨b,o + 3,none⟩ = some (.slice p.2.1 (ln q.den) p.2.2):=h
theorem A1G {a b : Rat} : (0 < E5 a b) ↔ b < a:=by
 unfold E5
 by_cases h1 : a < b
 ·rw [if_pos h1]
  exact ⟨fun h=>absurd h (by omega),fun h=>absurd h1 (Rat.not_lt.2 (Rat.le_of_lt h))⟩
 ·rw [if_neg h1]
  by_cases h2 : b < a
  ·rw [if_pos h2];exact ⟨fun _=>h2,fun _=>by omega⟩
  ·rw [if_neg h2];exact ⟨fun h=>absurd h (by omega),fun h=>absurd h h2⟩
theorem B1Y (A B : Option Addr) (rs : List Rq) (n L c d : Nat) (q : List Rat) (hn : rs.length = n) (hn2 : n ≤ 300) (hL2 : L ≤ 20) (hrl : ∀ r ∈ rs,r.2.2.length = L) (hq : q.length = L) (s : Nat) (hs : ∀ r ∈ rs,∀ x ∈ r.2.2,qs x ≤ s) (hs' : ∀ x ∈ q,qs x ≤ s) (hBz : 400 * s + 1000 ≤ BIG)
  (w : World) (h : Lrz w A rs) (h' : Lz w B q) :
  Calls Tryz.prog 55 #[.slice A n c,.slice B L d] w (G8 (fun x : Ax=>.slice x.1 n x.2) (fun x W=>n ≤ x.2 ∧ Lhz W x.1 (srt (D5 (fun i=>G0 (F7 (rs.map (·.2.2)) i) q L) n))) w):=by
 obtain ⟨F,hF'⟩ : ∃ F : Nat → Rat,F = fun i=>G0 (F7 (rs.map (·.2.2)) i) q L:=⟨_,rfl⟩
 have hLz : L * (4 * s + 3) ≤ 20 * (4 * s + 3):=Nat.mul_le_mul_right _ hL2
 have hro : ∀ i (hi : i < rs.length),F7 (rs.map (·.2.2)) i = rs[i].2.2:=fun i hi=>by unfold F7;rw [List.getElem?_map,List.getElem?_eq_getElem hi];rfl
 have hrow : ∀ i,i < n → ∃ (bb ob : Nat) (Ar : Option Addr) (cr : Nat),A = some ⟨bb,ob,none⟩ ∧ (∀ W,A3 w W → W.cell? ⟨bb,ob + i,none⟩ = some (.slice Ar L cr)) ∧ (∀ W,A3 w W → Calls Tryz.prog 93 #[.slice Ar L cr,.slice B L d] W (Ret (G5 (F i)) W)) ∧ qs (F i) ≤ 100 * s + 200:=fun i hi=>by
  have hil : i < rs.length:=by omega
  obtain ⟨bb,ob,rfl⟩:=h.addr (by omega)
  have hL1:=hrl _ (List.getElem_mem hil)
  refine ⟨bb,ob,rs[i].1,rs[i].2.1,rfl,fun W hg=>?_,fun W hg=>?_,?_⟩
  ·have h3:=((h.grow hg).read (List.getElem?_eq_getElem hil)).1
   rw [hL1] at h3
   exact h3
  ·have := A90 rs[i].1 B rs[i].2.2 q rs[i].2.1 d L hL1 hq (by omega) s (hs _ (List.getElem_mem hil)) hs' (by omega) W ((h.grow hg).read (List.getElem?_eq_getElem hil)).2 (h'.grow hg)
   rw [hF']
   simp only [hro i hil]
   exact this
  ·have h1:=A0M hL1 hq (hs _ (List.getElem_mem hil)) hs' L (Nat.le_refl _)
   rw [hF']
   simp only [hro i hil]
   unfold G0
   omega
 rw [← hF']
 have hFs : ∀ i,i ≤ n → ∀ x ∈ srt (D5 F i),qs x.2 ≤ 100 * s + 200:=fun i hi x hx=>by
  have h4:=(Q3 _).mem_iff.1 hx
  unfold D5 at h4
  obtain ⟨m,hm,rfl⟩:=List.mem_map.1 h4
  obtain ⟨_,_,_,_,_,_,_,h5⟩:=hrow m (by have := List.mem_range.1 hm;omega)
  exact h5
 have Hrow:=Lib.hid hrow
 have HFs:=Lib.hid hFs
 clear hrow hFs hro h h' hs hs' hrl hF' hn hq hLz
 go_enter Tryz.func55,Tryz.ntmps55
 refine en0 ?_
 intro u hG hB hF
 refine r0T ?_
 refine wp_seq ?_
 refine r0T ?_
 refine wp_block ?_
 clear hB hF
 go_loopw [6,5] (fun s0 s1 wr=>∃ (i : Nat) (ps : List Hz),i ≤ n ∧ s0 = .int .i64 i ∧ ps.map hzH = srt (D5 F i) ∧ O3 wr ps ∧ wr.ownsRow w.heap.size 59 4 s1 i (ps.flatMap hzL) ∧ A3 w wr) (fun s0 _ _=>n - (intOf s0).toNat)
 case atStart=>exact ⟨0,[],Nat.zero_le _,rfl,B01.symm,(fun r hr=>by cases hr),World.ownsRow_nil _ _ _ _,hG⟩
 case round =>
  clear hG
  obtain ⟨i,ps,hi,rfl,hps,hA,ho,hG⟩:=hrel
  obtain ⟨u,rfl⟩ : ∃ x,x = wr:=⟨_,rfl⟩
  have hB:=Bx.nil u
  have hF:=Fr.nil w
  have hpl:=A0q ho
  obtain ⟨A',cc,rfl,hcc1,hL,hkl⟩:=A77 ho hA
  rcases Nat.lt_or_ge i n with hlt | hge
  ·have hdec : decide ((i : Int) < (n : Int)) = true:=by simp;omega
   have hini : (i : Int) < (n : Int):=by omega
   obtain ⟨bb,ob,Ar,cr,rfl,hr1,hr2,hz⟩:=Hrow.out i hlt
   have hrt : ∀ k,k ≤ ps.length → (∀ j (h : j < ps.length),k ≤ j → F i < ps[j].2.2) → (∀ j (h : j < ps.length),j + 1 = k → ps[j].2.2 ≤ F i) → ∀ p : Az,(D7 ps k (i,p,F i)).map hzH = srt (D5 F (i + 1)):=fun k hk h1 h2 p=>by
    rw [B5c]
    exact B1a hps (by simpa using hk) (fun j hj=>by simpa [hzH] using h1 j (by simpa using hj)) (fun j hj=>by simpa [hzH] using h2 j (by simpa using hj))
   have zps : ∀ j (h : j < ps.length),qs ps[j].2.2 ≤ 100 * s + 200:=fun j h=>by
    have h1 : hzH ps[j] ∈ ps.map hzH:=List.mem_map_of_mem (List.getElem_mem h)
    rw [hps] at h1
    exact HFs.out i hi _ h1
   obtain ⟨X,hX⟩ : ∃ X,X = F i:=⟨_,rfl⟩
   simp only [← hX] at hrt hr2 hz
   have Ho:=Lib.hid ho
   have Hr1:=Lib.hid hr1
   have Hr2:=Lib.hid hr2
   have Hrt:=Lib.hid hrt
   have Zps:=Lib.hid zps
   clear ho hps hcc1 hL hkl hr1 hr2 hrt zps hX
   refine wp_seq ?_
   refine r0T ?_
   refine wp_cond_true (rfl) ?_
   refine wp_skip ?_
   refine A4 ?_
   refine wp_seq ?_
   refine wp_block ?_
   refine wp_seq (rsC Y4 [0,0,0,0,0,0,1,0,2] hB hG fun K L hN hL=>?_)
   repeat first | refine gya ?_ | refine gyr ?_ | refine gna ?_ | refine gyb (by (rintro v ⟨hgu,hB,hG,-⟩ N hN;have r:=hB.r;simp only [BxR] at r;have q1:=Hr1.out v hG;go_simp;exact hN)) ?_
   refine grd (G5 X) (fun (x21 : Ax × Ax)=>?_) (C:=by (rintro v ⟨hgu,hB,hG,-⟩;exact Hr2.out _ hG))
   refine gs ?_
   refine gaa (A7r _ _ _ _ _) fun b7 hb7 hn7=>?_
   replace hF:=hF.n1 [] hB hG hb7 hn7
   refine geC hL ?_
   clear hB hG hL L
   rintro u ⟨⟨⟨hgu,hB,hG,-⟩,hx21⟩,h7⟩
   replace hB:=hB.cons' h7
   clear h7
   replace hA:=hA.grow hgu
   obtain ⟨hx21a,hx21b⟩ : Rn u x21.1 _ ∧ Rn u x21.2 _:=hx21
   have hnb : ∀ g,(Value.slice A' i cc).ownBlock = some g → g < b7:=fun g hg=>Nat.lt_of_lt_of_le (Ho.out.lt g hg).2 hb7
   have Ho2:=Lib.hid (D3 Ho.out hgu)
   clear Ho
   have Ho:=Ho2
   clear Ho2
   clear hb7 hn7
   clear hgu
   refine gtT ?_
   clear hN K
   refine sv hB hF hG 0 0 [_,_,_,_] ?_
   intro u hu hBG
   replace hA:=hA.put hB 0 rfl (by first | decide | simp) _ _ hu
   replace hx21a:=hx21a.put hB 0 rfl (by first | decide | simp) _ _ hu
   replace hx21b:=hx21b.put hB 0 rfl (by first | decide | simp) _ _ hu
   have Ho2:=Lib.hid (W8 Ho.out (fun e=>Nat.lt_irrefl _ (hnb b7 e)) hu)
   clear Ho
   have Ho:=Ho2
   clear Ho2
   clear hB hG hu
   obtain ⟨hB,hG⟩:=hBG
   refine r0T ?_
   refine wp_seq ?_
   refine P7 (w:=w) Y4 2 [0,0] (by kernel_rfl) (by simp only [List.drop_succ_cons,List.drop_zero];exact rfl) (fun _=>True) noG hB hG trivial ?_
   intro K L hN hL
   simp only [List.zip_cons_cons,List.zip_nil_left]
   repeat first | refine gya ?_ | refine gyr ?_ | refine gna ?_ | refine gyb (by (rintro v ⟨hgu,hB,hG,-⟩ N hN;have r:=hB.r;simp only [BxR] at r;have q1:=Hr1.out v hG;go_simp;exact hN)) ?_
   refine H7 ?_
   rintro v ⟨hgu,hB1,hG1,-⟩
   replace hA:=hA.grow hgu
   replace hx21a:=hx21a.grow hgu
   replace hx21b:=hx21b.grow hgu
   have Ho2:=Lib.hid (D3 Ho.out hgu)
   clear Ho
   have Ho:=Ho2
   clear Ho2
   clear hB hG
   have hB:=hB1
   have hG:=hG1
   clear hB1 hG1
   refine hL _ _ ?_
   clear hL L hgu
   obtain ⟨u,rfl⟩ : ∃ x,x = v:=⟨_,rfl⟩
   have r:=hB.r
   simp only [BxR] at r
   have hlt7:=hB.head.lt
   refine T6 A7T w.heap.size _ _ _ _ (hzL (i,x21,X)) rfl rfl (A7m i x21 X u) rfl (fun _=>rfl) (fun _=>rfl) (fun _ _=>rfl) Ho.out (by omega) (by omega) hG.sz fun p v' w' g1 g2 g3=>?_
   have hBn:=(hB.grow (A3.alloc u (.cells (hzL (i,x21,X)).toArray 59))).grown_ g2 (fun e he hxe=>by
    have e1 : e = _:=List.mem_singleton.1 he
    subst e1
    have := hnb b7 hxe.symm
    omega)
   have hGn:=R8 Ho.out hG g2
   have hA2:=hA.own Ho.out (by decide) g2
   have hxn : Rz w' x21 X:=Rz.own ⟨hx21a,hx21b⟩ Ho.out (by decide) g2
   have hnb2 : v'.ownBlock ≠ some b7:=fun e=>by
    rcases g3 with g3 | g3
    ·rw [g3] at e
     have := hnb b7 e
     omega
    ·rw [g3] at e
     have : u.heap.size + 1 = b7:=Option.some.inj e
     omega
   have Ho2:=Lib.hid g1
   clear hA Ho hB hG g1 g2 g3 hnb hlt7 hx21a hx21b
   have hA:=hA2
   have Ho:=Ho2
   have hB:=hBn
   have hG:=hGn
   clear hA2 Ho2 hBn hGn
   obtain ⟨u,rfl⟩ : ∃ x,x = w':=⟨_,rfl⟩
   simp only [Act.put,List.setIfInBounds_toArray,List.set_cons_succ,List.set_cons_zero]
   clear r
   refine NoK.norm (hN _ _ ?_)
   clear hN K
   refine A4 ?_
   refine wp_seq ?_
   refine wp_block ?_
   have ho2 : u.ownsRow w.heap.size 59 4 v' (i + 1) ((D7 ps i (i,x21,X)).flatMap hzL):=by
    have h1:=Ho.out
    rw [show D7 ps i (i,x21,X) = ps ++ [(i,x21,X)] by rw [← hpl];exact A6t _ _,List.flatMap_append]
    simpa using h1
   clear Ho
   obtain ⟨i1,hi1⟩ : ∃ x,i + 1 = x:=⟨_,rfl⟩
   rw [hi1] at ho2
   obtain ⟨g,cap,rfl,hgb,hcap⟩:=A0L ho2 (by omega)
   have hgb7 : g ≠ b7:=fun e=>hnb2 (by rw [e];rfl)
   clear hnb2
   go_loopw [8] (fun s0 wr=>∃ (k : Nat) (y : Hz),k ≤ i ∧ s0 = .int .i64 k ∧ (∀ j (h : j < ps.length),k ≤ j → X < ps[j].2.2) ∧ O3 wr ps ∧ Rz wr x21 X ∧ Bx wr [(b7,59,hzC i x21 X)] ∧ wr.ownsRow w.heap.size 59 4 (.slice (some ⟨g,0,none⟩) i1 cap) i1 ((D7 ps k y).flatMap hzL) ∧ A3 w wr) (fun s0 _=>(intOf s0).toNat)
   case atStart=>exact ⟨i,(i,x21,X),Nat.le_refl _,rfl,fun j h hj=>by omega,hA,hxn,hB,ho2,hG⟩
   case round =>
    clear hG hA ho2 hB hxn
    obtain ⟨k,y,hk,rfl,hup,hA,hxn,hB,ho,hG⟩:=hrel
    obtain ⟨u,rfl⟩ : ∃ x,x = wr:=⟨_,rfl⟩
    have hki : (k : Int) < (i1 : Int):=by omega
    rcases Nat.eq_zero_or_pos k with rfl | hk0
    ·have hr:=Lib.hid (Hrt.out 0 (by omega) hup (fun j h hj=>by omega) x21)
     have Ho:=Lib.hid ho
     clear ho hup
     refine wp_seq ?_
     refine wp_seq (rdC Y4 [] [(0,0),(0,1),(0,2),(0,3),(0,4),(0,5),(0,6),(0,7),(0,8),(0,9),(0,10),(1,11),(0,12)] hB hG fun K L hN hL=>?_)
     repeat first | refine gya ?_ | refine gyr ?_ | refine gna ?_ | refine gyb (by (rintro v ⟨hgu,hB,hG,-⟩ N hN;have r:=hB.r;simp only [BxR] at r;have q1:=Hr1.out v hG;go_simp;exact hN)) ?_
     first | refine gmd (C:=fun v ⟨hgu,hB,hG,_⟩=>A2S P.1 P.2 x21.1 x21.2 Y X _ (hzk.grow hgu).a (hzk.grow hgu).b (hxn.grow hgu).a (hxn.grow hgu).b (by omega)) ?_ | refine E4 ?_
     refine gs ?_
     refine geC hL ?_
     clear hB hG hL L
     rintro u ⟨hgu,hB,hG,-⟩
     replace hA:=hA.grow hgu
     replace hxn:=hxn.grow hgu
     have Ho2:=Lib.hid (D3 Ho.out hgu)
     clear Ho
     have Ho:=Ho2
     clear Ho2
     clear hgu
     refine gtT ?_
     clear hN K
     refine wp_cond_false (rfl) ?_
     refine wp_exit ?_
     refine B1 ?_
     refine B1 ?_
     refine E3 ?_
     refine A4 ?_
     obtain ⟨y0,y1,y2,y3,e0,e1,e2,e3,e4⟩:=A1R W2 Ho.out (by rw [O4 _ _ _ (by omega)];omega) 0 (by rw [O4 _ _ _ (by omega)];omega)
     simp only [Nat.zero_mul,Nat.zero_add] at e0 e1 e2 e3
     refine r0E ?_
     generalize hu0 : World.setCell (World.setCell (World.setCell (World.setCell u _ _) _ _) _ _) _ _ = u0
     have hu1 : E0 u g (0 * 4) (hzL (i,x21,X)) = u0:=hu0
     have hP:=A1M W2 Ho.out 0 (i,x21,X) (by rw [O4 _ _ _ (by omega)];omega)
     rw [A1C _ _ _ _ (by omega),hu1] at hP
     have hA2:=A4w hA Ho.out (by decide) hP.2
     have hx2:=A2N hxn Ho.out (by decide) hP.2
     have hG2:=A0A Ho.out hG hP.2
     have Ho2:=Lib.hid hP.1
     clear hA hxn hG hB Ho hP hu1 hu0
     have hA:=hA2
     have hxn:=hx2
     have hG:=hG2
     have Ho:=Ho2
     clear hA2 hx2 hG2 Ho2
     obtain ⟨u,rfl⟩ : ∃ x,x = u0:=⟨_,rfl⟩
     have hB:=Bx.nil u
     refine D4 ?_
     refine A4 ?_
     refine r0E ?_
     refine A4 ?_
     go_roundw
     case rel=>exact ⟨i1,D7 ps 0 (i,x21,X),by omega,by go_num,by rw [← hi1];exact hr.out,fun r hr=>((A2K ps 0 (i,x21,X)).mem_iff.1 hr |> List.mem_cons.1).elim (fun e=>by rw [e];exact hxn) (fun h=>hA r h),Ho.out,hG⟩
     case measure=>simp [intOf];omega
    ·obtain ⟨k0,hk0e⟩ : ∃ x,x = k - 1:=⟨_,rfl⟩
     have hk0l : k0 < ps.length:=by omega
     have fk : IntKind.i64.wrap ((k : Int) - 1) = (k0 : Int):=by rw [IntWalk.i64_in _ (by omega)];omega
     have hdk : decide ((0 : Int) < (k : Int)) = true:=by simp;omega
     have hdk0 : decide (0 < k) = true:=by simp;omega
     have hk0i : (k0 : Int) < (i1 : Int):=by omega
     have hkk : k = k0 + 1:=by omega
     have hil2 : k0 < (D7 ps k y).length:=by rw [O4 _ _ _ (by omega)];omega
     have eg : (D7 ps k y)[k0] = ps[k0]:=by
      have h1:=A6F ps k k0 y (by omega) (by omega)
      rw [List.getElem?_eq_getElem hil2,List.getElem?_eq_getElem hk0l] at h1
      exact Option.some.inj h1
     have hcz:=A9v ho hil2
     rw [eg] at hcz
     have hgl : g < u.heap.size:=(ho.lt g rfl).2
     have hrk : ∀ W,A3 u W → W.cell? ⟨g,k0 * 4,none⟩ = some (.int .i64 (ps[k0].1 : Nat)) ∧ Cz W g (k0 * 4 + 1) ps[k0].2.1 ps[k0].2.2:=fun W hg=>⟨(hg.cell (p:=⟨g,k0 * 4,none⟩) hgl).trans hcz.1,hcz.2.grow hgl hg⟩
     have hzk:=hA _ (List.getElem_mem hk0l)
     have zk:=Zps.out k0 hk0l
     have hdn:=A7j ps k0 y hk0l
     rw [← hkk] at hdn
     have hst : ps[k0].2.2 ≤ X → ∀ p : Az,(D7 ps k (i,p,X)).map hzH = srt (D5 F (i + 1)):=fun hle p=>Hrt.out k (by omega) hup (fun j h hj=>by
      have e : j = k0:=by omega
      subst e
      exact hle) p
     have hup2 : X < ps[k0].2.2 → ∀ j (h : j < ps.length),k0 ≤ j → X < ps[j].2.2:=fun hle j h hj=>by
      rcases Nat.eq_or_lt_of_le hj with rfl | hlt
      ·exact hle
      ·exact hup j h (by omega)
     clear hup hcz eg hgl
     obtain ⟨R,hR⟩ : ∃ R,R = ps[k0]:=⟨_,rfl⟩
     rw [← hR] at hrk hzk zk hdn hst hup2
     obtain ⟨J,P,Y⟩:=R
     have Hrk:=Lib.hid hrk
     have Hdn:=Lib.hid hdn
     have Ho:=Lib.hid ho
     simp only at hst hup2 zk hzk
     have hk0k : k0 < k:=by omega
     have hkp : k ≤ ps.length:=by omega
     clear hrk hdn ho hR hkk hk0e
     by_cases hXY : X < Y
     ·have fc : decide (0 < E5 Y X) = true:=decide_eq_true (A1G.2 hXY)
      have Hup:=Lib.hid (hup2 hXY)
      clear hst hup2 hXY
      refine wp_seq ?_
      refine wp_seq (rdC Y4 [] [(0,0),(0,1),(0,2),(0,3),(0,4),(0,5),(0,6),(0,7),(0,8),(0,9),(0,10),(1,11),(0,12)] hB hG fun K L hN hL=>?_)
      repeat first | refine gya ?_ | refine gyr ?_ | refine gna ?_ | refine gyb (by (rintro v ⟨hgu,hB,hG,-⟩ N hN;have r:=hB.r;simp only [BxR] at r;obtain ⟨d0,dd⟩:=Hrk.out v hgu;have dd':=A0p dd;obtain ⟨d1,d2,d3⟩:=dd';go_simp;exact hN)) ?_
      first | refine gmd (C:=fun v ⟨hgu,hB,hG,_⟩=>A2S P.1 P.2 x21.1 x21.2 Y X _ (hzk.grow hgu).a (hzk.grow hgu).b (hxn.grow hgu).a (hxn.grow hgu).b (by omega)) ?_ | refine E4 ?_
      refine gs ?_
      refine geC hL ?_
      clear hB hG hL L
      rintro u ⟨hgu,hB,hG,-⟩
      replace hA:=hA.grow hgu
      replace hxn:=hxn.grow hgu
      replace hzk:=hzk.grow hgu
      have Hrk2:=Lib.hid (fun W hg=>Hrk.out W (hgu.trans hg))
      have Ho2:=Lib.hid (D3 Ho.out hgu)
      clear Hrk Ho
      have Hrk:=Hrk2
      have Ho:=Ho2
      clear Hrk2 Ho2
      clear hgu
      refine gtT ?_
      clear hN K
      refine wp_cond_true (rfl) ?_
      refine wp_skip ?_
      refine A4 ?_
      refine wp_block ?_
      refine wp_seq ?_
      obtain ⟨d0,dd⟩:=Hrk.out u (A3.refl u);have dd':=A0p dd;obtain ⟨d1,d2,d3⟩:=dd'
      obtain ⟨y0,y1,y2,y3,e0,e1,e2,e3,e4⟩:=A1R W2 Ho.out (by rw [O4 _ _ _ (by omega)];omega) k (by rw [O4 _ _ _ (by omega)];omega)
      refine r0N ?_
      generalize hu0 : World.setCell (World.setCell (World.setCell (World.setCell u _ _) _ _) _ _) _ _ = u0
      have hu1 : E0 u g (k * 4) (hzL (J,P,Y)) = u0:=hu0
      have hP:=A1M W2 Ho.out k (J,P,Y) (by rw [O4 _ _ _ (by omega)];omega)
      rw [Hdn.out,hu1] at hP
      have hA2:=A4w hA Ho.out (by decide) hP.2
      have hx2:=A2N hxn Ho.out (by decide) hP.2
      have hB2:=hB.grown_ hP.2 (fun e he hxe=>by
       have e1 : e = _:=List.mem_singleton.1 he
       subst e1
       exact hgb7 (Option.some.inj hxe).symm)
      have hG2:=A0A Ho.out hG hP.2
      have Ho2:=Lib.hid hP.1
      clear hA hxn hG hB Ho hP hu1 hu0 Hrk
      have hA:=hA2
      have hxn:=hx2
      have hG:=hG2
      have hB:=hB2
      have Ho:=Ho2
      clear hA2 hx2 hG2 hB2 Ho2
      obtain ⟨u,rfl⟩ : ∃ x,x = u0:=⟨_,rfl⟩
      refine r0E ?_
      refine D4 ?_
      refine A4 ?_
      go_roundw
      case rel=>exact ⟨k0,(J,P,Y),by omega,by go_num,Hup.out,hA,hxn,hB,Ho.out,hG⟩
      case measure=>simp [intOf];omega
     ·have fc : decide (0 < E5 Y X) = false:=decide_eq_false fun h=>hXY (A1G.1 h)
      have hr:=Lib.hid (hst (Rat.not_lt.1 hXY) x21)
      clear hst hup2 hXY
      refine wp_seq ?_
      refine wp_seq (rdC Y4 [] [(0,0),(0,1),(0,2),(0,3),(0,4),(0,5),(0,6),(0,7),(0,8),(0,9),(0,10),(1,11),(0,12)] hB hG fun K L hN hL=>?_)
      repeat first | refine gya ?_ | refine gyr ?_ | refine gna ?_ | refine gyb (by (rintro v ⟨hgu,hB,hG,-⟩ N hN;have r:=hB.r;simp only [BxR] at r;obtain ⟨d0,dd⟩:=Hrk.out v hgu;have dd':=A0p dd;obtain ⟨d1,d2,d3⟩:=dd';go_simp;exact hN)) ?_
      first | refine gmd (C:=fun v ⟨hgu,hB,hG,_⟩=>A2S P.1 P.2 x21.1 x21.2 Y X _ (hzk.grow hgu).a (hzk.grow hgu).b (hxn.grow hgu).a (hxn.grow hgu).b (by omega)) ?_ | refine E4 ?_
      refine gs ?_
      refine geC hL ?_
      clear hB hG hL L
      rintro u ⟨hgu,hB,hG,-⟩
      replace hA:=hA.grow hgu
      replace hxn:=hxn.grow hgu
      replace hzk:=hzk.grow hgu
      have Ho2:=Lib.hid (D3 Ho.out hgu)
      clear Hrk Ho
      have Ho:=Ho2
      clear Ho2
      clear hgu
      refine gtT ?_
      clear hN K
      refine wp_cond_false (rfl) ?_
      refine wp_exit ?_
      refine B1 ?_
      refine B1 ?_
      refine E3 ?_
      refine A4 ?_
      obtain ⟨y0,y1,y2,y3,e0,e1,e2,e3,e4⟩:=A1R W2 Ho.out (by rw [O4 _ _ _ (by omega)];omega) k (by rw [O4 _ _ _ (by omega)];omega)
      refine r0E ?_
      generalize hu0 : World.setCell (World.setCell (World.setCell (World.setCell u _ _) _ _) _ _) _ _ = u0
      have hu1 : E0 u g (k * 4) (hzL (i,x21,X)) = u0:=hu0
      have hP:=A1M W2 Ho.out k (i,x21,X) (by rw [O4 _ _ _ (by omega)];omega)
      rw [A1C _ _ _ _ (by omega),hu1] at hP
      have hA2:=A4w hA Ho.out (by decide) hP.2
      have hx2:=A2N hxn Ho.out (by decide) hP.2
      have hG2:=A0A Ho.out hG hP.2
      have Ho2:=Lib.hid hP.1
      clear hA hxn hG hB Ho hP hu1 hu0
      have hA:=hA2
      have hxn:=hx2
      have hG:=hG2
      have Ho:=Ho2
      clear hA2 hx2 hG2 Ho2
      obtain ⟨u,rfl⟩ : ∃ x,x = u0:=⟨_,rfl⟩
      have hB:=Bx.nil u
      refine D4 ?_
      refine A4 ?_
      refine r0E ?_
      refine A4 ?_
      go_roundw
      case rel=>exact ⟨i1,D7 ps k (i,x21,X),by omega,by go_num,by rw [← hi1];exact hr.out,fun r hr=>((A2K ps k (i,x21,X)).mem_iff.1 hr |> List.mem_cons.1).elim (fun e=>by rw [e];exact hxn) (fun h=>hA r h),Ho.out,hG⟩
      case measure=>simp [intOf];omega
  ·obtain rfl : n = i:=by omega
   have hdec : decide ((n : Int) < (n : Int)) = false:=by simp
   rw [hps] at hL
   have HL:=Lib.hid hL
   clear hL hkl ho hps hpl
   refine wp_seq ?_
   refine r0T ?_
   refine wp_cond_false (rfl) ?_
   refine wp_exit ?_
   refine B1 ?_
   refine B1 ?_
   refine E3 ?_
   refine A4 ?_
   refine r0T ?_
   refine rt Tryz.results55 ?_
   exact ⟨(A',cc),rfl,⟨hcc1,HL.out⟩,hG⟩
theorem B21 (A B : Option Addr) (l : List Ht) (n c d : Nat) (hn : n = l.length) (hm : n ≤ 1048576) (hs : ∀ x ∈ l,qs x.2 ≤ LIM) (w : World) (h : Lh w A l) (h' : Lhz w B l) :
  Calls Tryz.prog 20 #[.slice A n c,.slice B n d] w fun e w'=>e = .returned (.bool true) ∧ A3 w w':=by
 have H:=Lib.hid h
 have H':=Lib.hid h'
 have Hn:=Lib.hid hn
 have Hs:=Lib.hid hs
 have hne : ((n : Int) != (n : Int)) = false:=by simp
 clear h h' hn hs
 go_enter Tryz.func20,Tryz.ntmps20
 refine en0 ?_
 intro u hG hB hF
 refine wp_seq ?_
 refine r0T ?_
 refine wp_cond_false (rfl) ?_
 refine wp_skip ?_
 refine A4 ?_
 refine wp_seq ?_
 refine r0T ?_
 refine wp_block ?_
 go_loopw [5] (fun s0 wr=>∃ (i : Nat) ,i ≤ n ∧ s0 = .int .i64 i ∧ A3 w wr) (fun s0 _=>n - (intOf s0).toNat)
 case atStart=>exact ⟨0,Nat.zero_le _,rfl,hG⟩
 case round =>
  clear hB hG
  obtain ⟨i,hi,rfl,hG⟩:=hrel
  obtain ⟨u,rfl⟩ : ∃ x,x = wr:=⟨_,rfl⟩
  have hB:=Bx.nil u
  rcases Nat.lt_or_ge i n with hlt0 | hge0
  ·have hdec : decide ((i : Int) < (n : Int)) = true:=by simp;omega
   have hil : i < l.length:=by rw [← Hn.out];exact hlt0
   have hini : (i : Int) < (n : Int):=by omega
   obtain ⟨ba,oa,rfl,hla,hca⟩:=H.out (fun h0=>by rw [h0] at hil;cases hil)
   obtain ⟨bb,ob,rfl,hlb,hcb⟩:=H'.out (fun h0=>by rw [h0] at hil;cases hil)
   have hg1:=List.getElem?_eq_getElem hil
   have h1:=hca i _ hg1
   obtain ⟨p,h2,h3,h4⟩:=hcb i _ hg1
   have z:=Hs.out _ (List.getElem_mem hil)
   obtain ⟨R,hR⟩ : ∃ R,R = l[i]:=⟨_,rfl⟩
   rw [← hR] at h1 h2 h3 h4 z
   obtain ⟨J,Y⟩:=R
   simp only at h1 h2 h3 h4 z
   have hrd : ∀ W,A3 w W → (∀ j v,(htL (J,Y))[j]? = some v → W.cell? ⟨ba,oa + i * 6 + j,none⟩ = some v) ∧ Rz W p Y ∧ W.cell? ⟨bb,ob + i * 4,none⟩ = some (.int .i64 (J : Nat)) ∧ Cz W bb (ob + i * 4 + 1) p Y:=fun W hg=>⟨fun j v hj=>(hg.cell (p:=⟨ba,oa + i * 6 + j,none⟩) hla).trans (h1 j v hj),h2.grow hg,(hg.cell (p:=⟨bb,ob + i * 4,none⟩) hlb).trans h3,h4.grow hlb hg⟩
   have hrd2 : ∀ W,A3 w W → (W.cell? ⟨ba,oa + i * 6,none⟩ = some (.int .i64 (J : Nat)) ∧ W.cell? ⟨ba,oa + i * 6 + 1,none⟩ = some (.bool (B7 Y.num)) ∧ W.cell? ⟨ba,oa + i * 6 + 2,none⟩ = some (.int .u64 (A9 Y.num.natAbs)) ∧ W.cell? ⟨ba,oa + i * 6 + 3,none⟩ = some (.string (A8 Y.num.natAbs)) ∧ W.cell? ⟨ba,oa + i * 6 + 4,none⟩ = some (.int .u64 (A9 (E6 Y.den))) ∧ W.cell? ⟨ba,oa + i * 6 + 5,none⟩ = some (.string (A8 (E6 Y.den)))) ∧ Rz W p Y ∧ W.cell? ⟨bb,ob + i * 4,none⟩ = some (.int .i64 (J : Nat)) ∧ Cz W bb (ob + i * 4 + 1) p Y:=fun W hg=>⟨⟨(hrd W hg).1 0 _ rfl,(hrd W hg).1 1 _ rfl,(hrd W hg).1 2 _ rfl,(hrd W hg).1 3 _ rfl,(hrd W hg).1 4 _ rfl,(hrd W hg).1 5 _ rfl⟩,(hrd W hg).2⟩
   have Hrd:=Lib.hid hrd2
   have hJJ : ((J : Int) != (J : Int)) = false:=by simp
   clear hrd hrd2 h1 h2 h3 h4 hca hcb hla hlb hR hg1 hil
   refine wp_seq ?_
   refine r0T ?_
   refine wp_cond_true (rfl) ?_
   refine wp_skip ?_
   refine A4 ?_
   refine wp_seq ?_
   refine wp_block ?_
   refine wp_seq (rdC A5 [] [(0,0),(0,1),(0,2),(0,3),(0,4),(0,5),(0,6),(0,7),(0,8),(0,9),(0,10),(0,11),(0,12),(0,13),(0,14),(0,15),(0,16),(0,17),(0,18),(0,19),(0,20),(0,21),(1,22),(0,23)] hB hG fun K L hN hL=>?_)
   repeat first | refine gya ?_ | refine gyr ?_ | refine gna ?_ | refine gyb (by (rintro v ⟨hgu,hB,hG,-⟩ N hN;have r:=hB.r;simp only [BxR] at r;obtain ⟨⟨a0,a1,a2,a3,a4,a5⟩,-,c0,cc⟩:=Hrd.out v hG;have cc':=A0p cc;obtain ⟨c1,c2,c3⟩:=cc';go_simp;exact hN)) ?_
   first | refine gmd (C:=fun v ⟨hgu,hB,hG,_⟩=>A8y Y p.1 p.2 z _ (Hrd.out _ hG).2.1.a (Hrd.out _ hG).2.1.b) ?_ | refine E4 ?_
   refine gs ?_
   refine geC hL ?_
   clear hB hG hL L
   rintro u ⟨-,hB,hG,-⟩
   refine gtT ?_
   clear hN K
   refine wp_cond_false (rfl) ?_
   refine wp_skip ?_
   refine D4 ?_
   refine A4 ?_
   refine r0E ?_
   refine A4 ?_
   go_roundw
   case rel=>exact ⟨i + 1,by omega,by go_num,hG⟩
   case measure=>simp [intOf];try omega
  ·obtain rfl : n = i:=by omega
   have hdec : decide ((n : Int) < (n : Int)) = false:=by simp
   skip
   refine wp_seq ?_
   refine r0T ?_
   refine wp_cond_false (rfl) ?_
   refine wp_exit ?_
   refine B1 ?_
   refine B1 ?_
   refine E3 ?_
   refine A4 ?_
   refine r0T ?_
   refine rt Tryz.results20 ?_
   exact ⟨rfl,hG⟩
end Go.Proofs.YtjmopgepnndckaaGreatDoor
