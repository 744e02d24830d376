/- Contracts and laws. -/
import Derived.Test.YtjmopgepnndckaaGreatDoorT46
set_option linter.unusedSimpArgs false
set_option linter.unusedVariables false
set_option maxHeartbeats 4000000
set_option maxRecDepth 100000
namespace Go.Proofs.YtjmopgepnndckaaGreatDoor
open Go Go.RowKit
structure RowO (B n : Nat) (R : Ax) (rs : List Rq) (W : World) : Prop where
 rows : I4 B W rs
 row : W.ownsRow B 35 1 (.slice R.1 n R.2) n (rs.map V9)
theorem RowO.grow {B n : Nat} {R : Ax} {rs : List Rq} {W W' : World} (h : RowO B n R rs W) (hg : A3 W W') : RowO B n R rs W':=⟨h.rows.grow hg,C8 h.row hg⟩
theorem RowO.mono {B B' n : Nat} {R : Ax} {rs : List Rq} {W : World} (h : RowO B n R rs W) (hb : B' ≤ B) : RowO B' n R rs W:=⟨fun r hr=>(h.rows r hr).mono hb,h.row.mono hb⟩
theorem RowO.put {B n b i : Nat} {R : Ax} {rs : List Rq} {W W' : World} {t : TypeId} {cs : Array Value} {vs : List Value} (h : RowO B n R rs W) (hb : Blk W b t cs) (h1 : 35 ≠ t) (h2 : 49 ≠ t) (hu : E6 W b i vs = W') : RowO B n R rs W' :=
 ⟨fun r hr=>Y6 (h.rows r hr) hb h2 hu,Y6 h.row hb h1 hu⟩
theorem RowO.own {B n B0 k m : Nat} {R : Ax} {rs : List Rq} {W W' : World} {e : TypeId} {v : Value} {xs : List Value} (h : RowO B n R rs W) (ho : W.ownsRow B0 e k v m xs) (h1 : e ≠ 35) (h2 : e ≠ 49) (hg : W.grownBy W' v.ownBlock) : RowO B n R rs W' :=
 ⟨I4.kept' h.rows ho h2 hg,B4G h.row ho h1 hg⟩
theorem RowO.lrq {B n : Nat} {R : Ax} {rs : List Rq} {W : World} (h : RowO B n R rs W) : Lrq W R.1 rs:=by
 obtain ⟨A,c,e,-,hL,-⟩:=A8G h.row h.rows
 cases e
 exact hL
theorem A9d : EI 77 88 4 32:=X5 (by kernel_rfl) (by kernel_rfl) (by omega)
theorem A9x {u : World} {B n c : Nat} {A : Option Addr} {ns : List NdT} (h : u.ownsRow B 88 4 (.slice A n c) n (ns.flatMap ndL)) : Le ndL 4 u A ns:=by
 obtain ⟨A2,c2,e2,-,hN,-⟩:=A5A (enc:=ndL) (k:=4) (fun _=>rfl) (by omega) h
 cases e2
 exact hN
theorem A9k (RA NA : Option Addr) (RC NC N m Lw : Nat) (rs : List Rq) (ns : List NdT) (hok : A0T N Lw rs) (hN : N ≤ 300) (hL : Lw ≤ 20) (hm : ns.length = m) (hm2 : m ≤ 300) (w : World) (h : Lrz w RA rs) (g : Le ndL 4 w NA ns) (HT : Tab w) :
  Calls Tryz.prog 31 #[G9 (RA,RC) N (NA,NC) m] w (G5 (fun x : (Ax × Ax) × List Rq=>G9 x.1.1 N x.1.2 m) (fun x W=>(Lrq W x.1.1.1 x.2 ∧ Le ndL 4 W x.1.2.1 ns) ∧ x.2.map (·.2.2) = rs.map (·.2.2)) w):=by
 have hLIM : LIM = 1099511627760:=rfl
 have hBB : 100000 ≤ BIG:=by unfold BIG;omega
 have hir : ∀ (W : World),A3 w W → Calls Tryz.prog 16 #[.slice RA N RC] W (G5 (fun x : Ax × List Rq=>.slice x.1.1 N x.1.2) (fun x W'=>RowO w.heap.size N x.1 x.2 W' ∧ x.2.map (·.2.2) = rs.map (·.2.2)) W):=fun W hg =>
  (B4Z RA rs RC N hok.1.symm (by omega) (fun r hr=>⟨by have := (hok.2 r hr).1;omega,fun x hx=>Nat.le_trans ((hok.2 r hr).2 x hx) (by omega)⟩) W (h.grow hg) (HT.grow hg)).mono fun e w' ⟨v,rs',he,e1,e2,e3,hg'⟩=>by
   obtain ⟨A2,c2,e9⟩:=A2p e3
   subst e9
   exact ⟨((A2,c2),rs'),he,⟨RowO.mono ⟨e2,e3⟩ hg.size,e1⟩,hg'⟩
 have hnd : ∀ i,i < m → ∃ (bN oN : Nat) (x : NdT),NA = some ⟨bN,oN,none⟩ ∧ ns.take (i + 1) = ns.take i ++ [x] ∧ ∀ W,A3 w W → (W.cell? ⟨bN,oN + i * 4,none⟩ = some (.int .i64 x.r) ∧ W.cell? ⟨bN,oN + i * 4 + 1,none⟩ = some (.int .i64 x.c) ∧ W.cell? ⟨bN,oN + i * 4 + 2,none⟩ = some (.int .i64 x.l) ∧ W.cell? ⟨bN,oN + i * 4 + 3,none⟩ = some (.int .i64 x.t)):=fun i hi=>by
  have hil : i < ns.length:=by omega
  obtain ⟨bN,oN,e,h1⟩:=g.at hil
  exact ⟨bN,oN,ns[i],e,by rw [List.take_add_one,List.getElem?_eq_getElem hil];rfl,fun W hg=>⟨h1 W hg 0 _ rfl,h1 W hg 1 _ rfl,h1 W hg 2 _ rfl,h1 W hg 3 _ rfl⟩⟩
 have htk : ns.take m = ns:=List.take_of_length_le (by omega)
 have Hir:=Lib.hid hir
 have Hnd:=Lib.hid hnd
 have Htk:=Lib.hid htk
 clear hir hnd h g HT hok hm htk
 go_enter Tryz.func31,Tryz.ntmps31
 refine en2 ?_
 intro u hG b2 b1 hB hF
 refine wp_seq (rsC B6 [0,0,1,0,2] hB hG fun K L hN hL=>?_)
 refine gs ?_
 refine gxd (X:=(Ax × List Rq)) (fun x : Ax × List Rq=>.slice x.1.1 N x.1.2) (fun x W'=>RowO w.heap.size N x.1 x.2 W' ∧ x.2.map (·.2.2) = rs.map (·.2.2)) (fun x u u' hg h=>⟨h.1.grow hg,h.2⟩) (fun x8=>?_) (C:=by (rintro v ⟨hgu,hB,hG,-⟩;exact Hir.out _ hG))
 refine gs ?_
 refine gaa (A8E _ _ _ _ _) fun b3 hb3 hn3=>?_
 replace hF:=hF.n1 [] hB hG hb3 hn3
 refine geC hL ?_
 clear hB hG hL L
 rintro u ⟨⟨⟨hgu,hB,hG,-⟩,hx8⟩,h3⟩
 replace hB:=hB.cons' h3
 clear h3
 obtain ⟨⟨R1,R1c⟩,rs'⟩:=x8
 obtain ⟨ht1,ht2⟩:=hx8
 simp only at ht1 ht2
 clear hb3 hn3
 clear hgu
 refine gtT ?_
 clear hN K
 refine sv hB hF hG 0 0 [_,_] ?_
 intro u hu hBG
 have ht3:=Lib.hid (RowO.put ht1 hB.head (by decide) (by decide) hu)
 have Ht2:=Lib.hid ht2
 clear ht1 ht2 hB hG hu
 have HR:=ht3
 clear ht3
 obtain ⟨hB,hG⟩:=hBG
 refine wp_seq ?_
 refine r0T ?_
 refine wp_block ?_
 have hlb:=And.intro hB.head.lt (And.intro hB.tail.head.lt hB.tail.tail.head.lt)
 clear hlb
 go_loopw [4] (fun s0 wr=>∃ (i : Nat) (A2 : Option Addr) (C2 : Nat),i ≤ m ∧ s0 = .int .i64 i ∧ RowO w.heap.size N (R1,R1c) rs' wr ∧ wr.ownsRow w.heap.size 88 4 (.slice A2 i C2) i ((ns.take i).flatMap ndL) ∧ Bx wr [(b3,79,#[.slice R1 N R1c,.slice A2 i C2]),(b1,72,#[.slice RA N RC,.slice NA m NC]),(b2,79,#[.slice none 0 0,.slice none 0 0])] ∧ A3 w wr) (fun s0 _=>m - (intOf s0).toNat)
 case atStart=>exact ⟨0,none,0,Nat.zero_le _,rfl,HR.out,World.ownsRow_nil _ _ _ _,hB,hG⟩
 case round =>
  clear hB hG HR
  obtain ⟨i,A2,C2,hi,rfl,hR,ho,hB,hG⟩:=hrel
  obtain ⟨u,rfl⟩ : ∃ x,x = wr:=⟨_,rfl⟩
  have HR:=Lib.hid hR
  have Ho:=Lib.hid ho
  clear hR ho
  rcases Nat.lt_or_ge i m with hlt | hge
  ·have hdec : decide ((i : Int) < (m : Int)) = true:=by simp;omega
   have him : (i : Int) < (m : Int):=by omega
   obtain ⟨bN,oN,x,rfl,hxs,hrd⟩:=Hnd.out i hlt
   obtain ⟨xr,xc,xl,xt⟩:=x
   have Hrd:=Lib.hid hrd
   have Hxs:=Lib.hid hxs
   clear hrd hxs
   refine wp_seq ?_
   refine r0T ?_
   refine wp_cond_true (rfl) ?_
   refine wp_skip ?_
   refine A4 ?_
   refine wp_seq ?_
   refine wp_block ?_
   refine wp_seq (rsC B6 [0,0,0,0,0,2] hB hG fun K L hN hL=>?_)
   repeat first | refine gya ?_ | refine gyr ?_ | refine gna ?_ | refine gyb (by (rintro v ⟨hgu,hB,hG,-⟩ N hN;have r:=hB.r;simp only [BxR] at r;obtain ⟨c0,c1,c2,c3⟩:=Hrd.out v hG;go_simp;exact hN)) ?_
   refine gaa (A2D _ _ _ _ _) fun b5 hb5 hn5=>?_
   replace hF:=hF.n1 [] hB hG hb5 hn5
   refine geC hL ?_
   clear hB hG hL L
   rintro u ⟨⟨hgu,hB,hG,-⟩,h5⟩
   replace hB:=hB.cons' h5
   clear h5
   have HR2:=Lib.hid (HR.out.grow hgu)
   have Ho2:=Lib.hid (C8 Ho.out hgu)
   clear HR Ho
   have HR:=HR2
   have Ho:=Ho2
   clear HR2 Ho2
   clear hb5 hn5
   clear hgu
   refine gtT ?_
   clear hN K
   refine sv hB hF hG 0 0 [_,_,_,_] ?_
   intro u hu hBG
   have HR2:=Lib.hid (RowO.put HR.out hB.head (by decide) (by decide) hu)
   have Ho2:=Lib.hid (Y6 Ho.out hB.head (by decide) hu)
   clear HR Ho hB hG hu
   have HR:=HR2
   have Ho:=Ho2
   clear HR2 Ho2
   obtain ⟨hB,hG⟩:=hBG
   refine O6 (w:=w) B6 12 [0,0,0,0,0,0,0,0,0,0,0,1] (by kernel_rfl) (by simp only [List.drop_succ_cons,List.drop_zero];exact rfl) (fun _=>True) noG hB hG trivial ?_
   intro K L hN hL
   simp only [List.zip_cons_cons,List.zip_nil_left]
   repeat first | refine gya ?_ | refine gyr ?_ | refine gna ?_ | refine gyb (by (rintro v ⟨hgu,hB,hG,-⟩ N hN;have r:=hB.r;simp only [BxR] at r;obtain ⟨c0,c1,c2,c3⟩:=Hrd.out v hG;go_simp;exact hN)) ?_
   refine gx Nat (fun b=>.slice (some ⟨b,0,none⟩) 1 1) (fun b W=>Blk W b 88 (ndL ⟨xr,xc,xl,xt⟩).toArray) (fun b u u' hg h=>h.grow hg) rfl ?_ (fun x33=>?_)
   ·(rintro v ⟨hgu,hB,hG,-⟩ N hN;go_simp;exact hN v.heap.size _ (Blk.new v 88 (ndL ⟨xr,xc,xl,xt⟩).toArray) (A3.alloc _ _))
   refine okf (by simp only [Act.put,List.setIfInBounds_toArray,List.set_cons_succ,List.set_cons_zero];exact rfl) ?_
   refine G6 ?_
   rintro v ⟨⟨hgu,hB1,hG1,-⟩,hx33⟩
   have HR2:=Lib.hid (HR.out.grow hgu)
   have Ho2:=Lib.hid (C8 Ho.out hgu)
   clear HR Ho
   have HR:=HR2
   have Ho:=Ho2
   clear HR2 Ho2
   clear hB hG
   have hB:=hB1
   have hG:=hG1
   clear hB1 hG1
   refine hL _ _ ?_
   clear hL L hgu
   obtain ⟨u,rfl⟩ : ∃ x,x = v:=⟨_,rfl⟩
   have r:=hB.r
   simp only [BxR] at r
   refine A7M A9d w.heap.size (.slice A2 i C2) i ((ns.take i).flatMap ndL) x33 (ndL ⟨xr,xc,xl,xt⟩) rfl rfl hx33 rfl rfl Ho.out (by omega) (by omega) hG.sz fun v' w' g1 g2 g3=>?_
   have HR2:=Lib.hid (RowO.own HR.out Ho.out (by decide) (by decide) g2)
   have hB2:=Bx.grown_ hB.tail g2 (fun e he hxe=>by
    have q3:=A0D Ho.out hB.tail.head
    have q1:=A0D Ho.out hB.tail.tail.head
    have q2:=A0D Ho.out hB.tail.tail.tail.head
    simp only [List.mem_cons,List.not_mem_nil,or_false] at he
    rcases he with rfl | rfl | rfl
    ·exact q3 (by decide) hxe.symm
    ·exact q1 (by decide) hxe.symm
    ·exact q2 (by decide) hxe.symm)
   have hG2 : A3 w w':=hG.grown g2 (fun j e=>(Ho.out.lt j e).1)
   clear HR Ho hB hG g2 g3 hx33
   obtain ⟨gA,gC,e9,-,-⟩:=A0J g1 (by omega)
   subst e9
   have HR:=HR2
   have hB:=hB2
   have hG:=hG2
   have Ho:=Lib.hid g1
   clear HR2 hB2 hG2 g1
   replace hF : Fr w [b3,b1,b2]:=⟨fun b hb=>hF.1 b (List.mem_cons_of_mem _ hb),(List.nodup_cons.1 hF.2).2⟩
   have r:=hB.r
   simp only [BxR] at r
   simp only [Act.put,List.setIfInBounds_toArray,List.set_cons_succ,List.set_cons_zero]
   go_wp2_with fail
   clear r
   generalize hu0 : World.setCell w' ⟨b3,1,none⟩ _ = u0
   have hBG:=M5 hB hF hG 0 rfl 1 [_] hu0
   have HR2:=Lib.hid (RowO.put (i:=1) (vs:=[_]) HR.out hB.head (by decide) (by decide) hu0)
   have Ho2:=Lib.hid (Y6 (i:=1) (vs:=[_]) Ho.out hB.head (by decide) hu0)
   clear HR Ho hB hG hu0
   obtain ⟨hB,hG⟩:=hBG
   have HR:=HR2
   have Ho:=Ho2
   clear HR2 Ho2 w'
   obtain ⟨u,rfl⟩ : ∃ x,x = u0:=⟨_,rfl⟩
   clear r
   skip
   refine NoK.norm (hN _ _ ?_)
   clear hN K
   refine C9 ?_
   refine A4 ?_
   refine r0E ?_
   refine A4 ?_
   go_roundw
   case rel=>exact ⟨i + 1,some ⟨gA,0,none⟩,gC,by omega,by go_num,HR.out,by rw [Hxs.out,List.flatMap_append];simpa using Ho.out,hB,hG⟩
   case measure=>simp [intOf];omega
  ·obtain rfl : m = i:=by omega
   have hdec : decide ((m : Int) < (m : Int)) = false:=by simp
   clear hge hi
   refine wp_seq ?_
   refine r0T ?_
   refine wp_cond_false (rfl) ?_
   refine wp_exit ?_
   refine B3 ?_
   refine B3 ?_
   refine E3 ?_
   refine A4 ?_
   refine r0T ?_
   refine sv hB hF hG 2 0 [_,_] ?_
   intro u hu hBG
   have HR2:=Lib.hid (RowO.put HR.out hB.tail.tail.head (by decide) (by decide) hu)
   have Ho2:=Lib.hid (Y6 Ho.out hB.tail.tail.head (by decide) hu)
   clear HR Ho hB hG hu
   have HR:=HR2
   have Ho:=Ho2
   clear HR2 Ho2
   obtain ⟨hB,hG⟩:=hBG
   refine rt Tryz.results31 ?_
   have hn:=A9x Ho.out
   rw [Htk.out] at hn
   exact ⟨(((R1,R1c),(A2,C2)),rs'),rfl,⟨⟨HR.out.lrq,hn⟩,Ht2.out⟩,hG⟩
end Go.Proofs.YtjmopgepnndckaaGreatDoor
