/- Contracts and laws. -/
import Derived.Test.YtjmopgepnndckaaGreatDoorW44
import Derived.Test.YtjmopgepnndckaaGreatDoorW47
import Derived.Laws.EntriesVeiled
set_option linter.unusedSimpArgs false
set_option linter.unusedVariables false
set_option maxHeartbeats 16000000
set_option maxRecDepth 100000
namespace Go.Proofs.YtjmopgepnndckaaGreatDoor
open Go Go.RowKit
structure RowO (B n : Nat) (R : Ax) (rs : List Rq) (W : World) : Prop where
 rows : I8 B W rs
 row : W.ownsRow B 35 1 (.slice R.1 n R.2) n (rs.map V5)
theorem RowO.grow {B n : Nat} {R : Ax} {rs : List Rq} {W W' : World} (h : RowO B n R rs W) (hg : A3 W W') : RowO B n R rs W':=⟨h.rows.grow hg,D3 h.row hg⟩
theorem RowO.mono {B B' n : Nat} {R : Ax} {rs : List Rq} {W : World} (h : RowO B n R rs W) (hb : B' ≤ B) : RowO B' n R rs W:=⟨fun r hr=>(h.rows r hr).mono hb,h.row.mono hb⟩
theorem RowO.put {B n b i : Nat} {R : Ax} {rs : List Rq} {W W' : World} {t : TypeId} {cs : Array Value} {vs : List Value} (h : RowO B n R rs W) (hb : Blk W b t cs) (h1 : 35 ≠ t) (h2 : 49 ≠ t) (hu : E0 W b i vs = W') : RowO B n R rs W' :=
 ⟨fun r hr=>Y3 (h.rows r hr) hb h2 hu,Y3 h.row hb h1 hu⟩
theorem RowO.own {B n B0 k m : Nat} {R : Ax} {rs : List Rq} {W W' : World} {e : TypeId} {v : Value} {xs : List Value} (h : RowO B n R rs W) (ho : W.ownsRow B0 e k v m xs) (h1 : e ≠ 35) (h2 : e ≠ 49) (hg : W.grownBy W' v.ownBlock) : RowO B n R rs W' :=
 ⟨I8.kept' h.rows ho h2 hg,B5d h.row ho h1 hg⟩
theorem RowO.lrq {B n : Nat} {R : Ax} {rs : List Rq} {W : World} (h : RowO B n R rs W) : Lrq W R.1 rs:=by
 obtain ⟨A,c,e,-,hL,-⟩:=A67 h.row h.rows
 cases e
 exact hL
theorem A9X : EI 77 88 4 32:=W6 (by kernel_rfl) (by kernel_rfl) (by omega)
theorem A9G {u : World} {B n c : Nat} {A : Option Addr} {ns : List NdT} (h : u.ownsRow B 88 4 (.slice A n c) n (ns.flatMap ndL)) : Le ndL 4 u A ns:=by
 obtain ⟨A2,c2,e2,-,hN,-⟩:=A4g (enc:=ndL) (k:=4) (fun _=>rfl) (by omega) h
 cases e2
 exact hN
theorem B0i (RA NA : Option Addr) (RC NC N m Lw : Nat) (rs : List Rq) (ns : List NdT) (hok : A0N N Lw rs) (hN : N ≤ 300) (hL : Lw ≤ 20) (hm : ns.length = m) (hm2 : m ≤ 300) (w : World) (h : Lrz w RA rs) (g : Le ndL 4 w NA ns) (HT : Tab w) :
  Calls Tryz.prog 31 #[I6 (RA,RC) N (NA,NC) m] w (G8 (fun x : (Ax × Ax) × List Rq=>I6 x.1.1 N x.1.2 m) (fun x W=>(Lrq W x.1.1.1 x.2 ∧ Le ndL 4 W x.1.2.1 ns) ∧ x.2.map (·.2.2) = rs.map (·.2.2)) w):=by
 have hLIM : LIM = 1099511627760:=rfl
 have hBB : 100000 ≤ BIG:=by unfold BIG;omega
 have hir : ∀ (W : World),A3 w W → Calls Tryz.prog 16 #[.slice RA N RC] W (G8 (fun x : Ax × List Rq=>.slice x.1.1 N x.1.2) (fun x W'=>RowO w.heap.size N x.1 x.2 W' ∧ x.2.map (·.2.2) = rs.map (·.2.2)) W):=fun W hg =>
  (B1x RA rs RC N hok.1.symm (by omega) (fun r hr=>⟨by have := (hok.2 r hr).1;omega,fun x hx=>Nat.le_trans ((hok.2 r hr).2 x hx) (by omega)⟩) W (h.grow hg) (HT.grow hg)).mono fun e w' ⟨v,rs',he,e1,e2,e3,hg'⟩=>by
   obtain ⟨A2,c2,e9⟩:=A5I e3
   subst e9
   exact ⟨((A2,c2),rs'),he,⟨RowO.mono ⟨e2,e3⟩ hg.size,e1⟩,hg'⟩
 have hnd : ∀ i,i < m → ∃ (bN oN : Nat) (x : NdT),NA = some ⟨bN,oN,none⟩ ∧ ns.take (i + 1) = ns.take i ++ [x] ∧ ∀ W,A3 w W → (W.cell? ⟨bN,oN + i * 4,none⟩ = some (.int .i64 x.r) ∧ W.cell? ⟨bN,oN + i * 4 + 1,none⟩ = some (.int .i64 x.c) ∧ W.cell? ⟨bN,oN + i * 4 + 2,none⟩ = some (.int .i64 x.l) ∧ W.cell? ⟨bN,oN + i * 4 + 3,none⟩ = some (.int .i64 x.t)):=fun i hi=>by
  have hil : i < ns.length:=by omega
  obtain ⟨bN,oN,e,h1⟩:=g.at hil
  exact ⟨bN,oN,ns[i],e,by rw [List.take_add_one,List.getElem?_eq_getElem hil];rfl,fun W hg=>⟨h1 W hg 0 _ rfl,h1 W hg 1 _ rfl,h1 W hg 2 _ rfl,h1 W hg 3 _ rfl⟩⟩
 have htk : ns.take m = ns:=List.take_of_length_le (by omega)
 have Hir:=Lib.hid hir
 have Hnd:=Lib.hid hnd
 have Htk:=Lib.hid htk
 clear hir hnd h g HT hok hm htk
 go_enter Tryz.func31,Tryz.ntmps31
 refine en2 ?_
 intro u hG b2 b1 hB hF
 refine wp_seq (rsC F2 [0,0,1,0,2] hB hG fun K L hN hL=>?_)
 refine gs ?_
 refine gxd (X:=(Ax × List Rq)) (fun x : Ax × List Rq=>.slice x.1.1 N x.1.2) (fun x W'=>RowO w.heap.size N x.1 x.2 W' ∧ x.2.map (·.2.2) = rs.map (·.2.2)) (fun x u u' hg h=>⟨h.1.grow hg,h.2⟩) (fun x8=>?_) (C:=by (rintro v ⟨hgu,hB,hG,-⟩;exact Hir.out _ hG))
 refine gs ?_
 refine gaa (A2i _ _ _ _ _) fun b3 hb3 hn3=>?_
 replace hF:=hF.n1 [] hB hG hb3 hn3
 refine geC hL ?_
 clear hB hG hL L
 rintro u ⟨⟨⟨hgu,hB,hG,-⟩,hx8⟩,h3⟩
 replace hB:=hB.cons' h3
 clear h3
 obtain ⟨⟨R1,R1c⟩,rs'⟩:=x8
 obtain ⟨ht1,ht2⟩:=hx8
 simp only at ht1 ht2
 clear hb3 hn3
 clear hgu
 refine gtT ?_
 clear hN K
 refine sv hB hF hG 0 0 [_,_] ?_
 intro u hu hBG
 have ht3:=Lib.hid (RowO.put ht1 hB.head (by decide) (by decide) hu)
 have Ht2:=Lib.hid ht2
 clear ht1 ht2 hB hG hu
 have HR:=ht3
 clear ht3
 obtain ⟨hB,hG⟩:=hBG
 refine wp_seq ?_
 refine r0T ?_
 refine wp_block ?_
 have hlb:=And.intro hB.head.lt (And.intro hB.tail.head.lt hB.tail.tail.head.lt)
 clear hlb
 go_loopw [4] (fun s0 wr=>∃ (i : Nat) (A2 : Option Addr) (C2 : Nat),i ≤ m ∧ s0 = .int .i64 i ∧ RowO w.heap.size N (R1,R1c) rs' wr ∧ wr.ownsRow w.heap.size 88 4 (.slice A2 i C2) i ((ns.take i).flatMap ndL) ∧ Bx wr [(b3,79,#[.slice R1 N R1c,.slice A2 i C2]),(b1,72,#[.slice RA N RC,.slice NA m NC]),(b2,79,#[.slice none 0 0,.slice none 0 0])] ∧ A3 w wr) (fun s0 _=>m - (intOf s0).toNat)
 case atStart=>exact ⟨0,none,0,Nat.zero_le _,rfl,HR.out,World.ownsRow_nil _ _ _ _,hB,hG⟩
 case round =>
  clear hB hG HR
  obtain ⟨i,A2,C2,hi,rfl,hR,ho,hB,hG⟩:=hrel
  obtain ⟨u,rfl⟩ : ∃ x,x = wr:=⟨_,rfl⟩
  have HR:=Lib.hid hR
  have Ho:=Lib.hid ho
  clear hR ho
  rcases Nat.lt_or_ge i m with hlt | hge
  ·have hdec : decide ((i : Int) < (m : Int)) = true:=by simp;omega
   have him : (i : Int) < (m : Int):=by omega
   obtain ⟨bN,oN,x,rfl,hxs,hrd⟩:=Hnd.out i hlt
   obtain ⟨xr,xc,xl,xt⟩:=x
   have Hrd:=Lib.hid hrd
   have Hxs:=Lib.hid hxs
   clear hrd hxs
   refine wp_seq ?_
   refine r0T ?_
   refine wp_cond_true (rfl) ?_
   refine wp_skip ?_
   refine A4 ?_
   refine wp_seq ?_
   refine wp_block ?_
   refine wp_seq (rsC F2 [0,0,0,0,0,2] hB hG fun K L hN hL=>?_)
   repeat first | refine gya ?_ | refine gyr ?_ | refine gna ?_ | refine gyb (by (rintro v ⟨hgu,hB,hG,-⟩ N hN;have r:=hB.r;simp only [BxR] at r;obtain ⟨c0,c1,c2,c3⟩:=Hrd.out v hG;go_simp;exact hN)) ?_
   refine gaa (A5y _ _ _ _ _) fun b5 hb5 hn5=>?_
   replace hF:=hF.n1 [] hB hG hb5 hn5
   refine geC hL ?_
   clear hB hG hL L
   rintro u ⟨⟨hgu,hB,hG,-⟩,h5⟩
   replace hB:=hB.cons' h5
   clear h5
   have HR2:=Lib.hid (HR.out.grow hgu)
   have Ho2:=Lib.hid (D3 Ho.out hgu)
   clear HR Ho
   have HR:=HR2
   have Ho:=Ho2
   clear HR2 Ho2
   clear hb5 hn5
   clear hgu
   refine gtT ?_
   clear hN K
   refine sv hB hF hG 0 0 [_,_,_,_] ?_
   intro u hu hBG
   have HR2:=Lib.hid (RowO.put HR.out hB.head (by decide) (by decide) hu)
   have Ho2:=Lib.hid (Y3 Ho.out hB.head (by decide) hu)
   clear HR Ho hB hG hu
   have HR:=HR2
   have Ho:=Ho2
   clear HR2 Ho2
   obtain ⟨hB,hG⟩:=hBG
   refine P7 (w:=w) F2 12 [0,0,0,0,0,0,0,0,0,0,0,1] (by kernel_rfl) (by simp only [List.drop_succ_cons,List.drop_zero];exact rfl) (fun _=>True) noG hB hG trivial ?_
   intro K L hN hL
   simp only [List.zip_cons_cons,List.zip_nil_left]
   repeat first | refine gya ?_ | refine gyr ?_ | refine gna ?_ | refine gyb (by (rintro v ⟨hgu,hB,hG,-⟩ N hN;have r:=hB.r;simp only [BxR] at r;obtain ⟨c0,c1,c2,c3⟩:=Hrd.out v hG;go_simp;exact hN)) ?_
   refine gx Nat (fun b=>.slice (some ⟨b,0,none⟩) 1 1) (fun b W=>Blk W b 88 (ndL ⟨xr,xc,xl,xt⟩).toArray) (fun b u u' hg h=>h.grow hg) rfl ?_ (fun x33=>?_)
   ·(rintro v ⟨hgu,hB,hG,-⟩ N hN;go_simp;exact hN v.heap.size _ (Blk.new v 88 (ndL ⟨xr,xc,xl,xt⟩).toArray) (A3.alloc _ _))
   refine okf (by simp only [Act.put,List.setIfInBounds_toArray,List.set_cons_succ,List.set_cons_zero];exact rfl) ?_
   refine H7 ?_
   rintro v ⟨⟨hgu,hB1,hG1,-⟩,hx33⟩
   have HR2:=Lib.hid (HR.out.grow hgu)
   have Ho2:=Lib.hid (D3 Ho.out hgu)
   clear HR Ho
   have HR:=HR2
   have Ho:=Ho2
   clear HR2 Ho2
   clear hB hG
   have hB:=hB1
   have hG:=hG1
   clear hB1 hG1
   refine hL _ _ ?_
   clear hL L hgu
   obtain ⟨u,rfl⟩ : ∃ x,x = v:=⟨_,rfl⟩
   have r:=hB.r
   simp only [BxR] at r
   refine A7X A9X w.heap.size (.slice A2 i C2) i ((ns.take i).flatMap ndL) x33 (ndL ⟨xr,xc,xl,xt⟩) rfl rfl hx33 rfl rfl Ho.out (by omega) (by omega) hG.sz fun v' w' g1 g2 g3=>?_
   have HR2:=Lib.hid (RowO.own HR.out Ho.out (by decide) (by decide) g2)
   have hB2:=Bx.grown_ hB.tail g2 (fun e he hxe=>by
    have q3:=A3X Ho.out hB.tail.head
    have q1:=A3X Ho.out hB.tail.tail.head
    have q2:=A3X Ho.out hB.tail.tail.tail.head
    simp only [List.mem_cons,List.not_mem_nil,or_false] at he
    rcases he with rfl | rfl | rfl
    ·exact q3 (by decide) hxe.symm
    ·exact q1 (by decide) hxe.symm
    ·exact q2 (by decide) hxe.symm)
   have hG2 : A3 w w':=hG.grown g2 (fun j e=>(Ho.out.lt j e).1)
   clear HR Ho hB hG g2 g3 hx33
   obtain ⟨gA,gC,e9,-,-⟩:=A0L g1 (by omega)
   subst e9
   have HR:=HR2
   have hB:=hB2
   have hG:=hG2
   have Ho:=Lib.hid g1
   clear HR2 hB2 hG2 g1
   replace hF : Fr w [b3,b1,b2]:=⟨fun b hb=>hF.1 b (List.mem_cons_of_mem _ hb),(List.nodup_cons.1 hF.2).2⟩
   have r:=hB.r
   simp only [BxR] at r
   simp only [Act.put,List.setIfInBounds_toArray,List.set_cons_succ,List.set_cons_zero]
   go_wp2_with fail
   clear r
   generalize hu0 : World.setCell w' ⟨b3,1,none⟩ _ = u0
   have hBG:=N6 hB hF hG 0 rfl 1 [_] hu0
   have HR2:=Lib.hid (RowO.put (i:=1) (vs:=[_]) HR.out hB.head (by decide) (by decide) hu0)
   have Ho2:=Lib.hid (Y3 (i:=1) (vs:=[_]) Ho.out hB.head (by decide) hu0)
   clear HR Ho hB hG hu0
   obtain ⟨hB,hG⟩:=hBG
   have HR:=HR2
   have Ho:=Ho2
   clear HR2 Ho2 w'
   obtain ⟨u,rfl⟩ : ∃ x,x = u0:=⟨_,rfl⟩
   clear r
   skip
   refine NoK.norm (hN _ _ ?_)
   clear hN K
   refine D4 ?_
   refine A4 ?_
   refine r0E ?_
   refine A4 ?_
   go_roundw
   case rel=>exact ⟨i + 1,some ⟨gA,0,none⟩,gC,by omega,by go_num,HR.out,by rw [Hxs.out,List.flatMap_append];simpa using Ho.out,hB,hG⟩
   case measure=>simp [intOf];omega
  ·obtain rfl : m = i:=by omega
   have hdec : decide ((m : Int) < (m : Int)) = false:=by simp
   clear hge hi
   refine wp_seq ?_
   refine r0T ?_
   refine wp_cond_false (rfl) ?_
   refine wp_exit ?_
   refine B1 ?_
   refine B1 ?_
   refine E3 ?_
   refine A4 ?_
   refine r0T ?_
   refine sv hB hF hG 2 0 [_,_] ?_
   intro u hu hBG
   have HR2:=Lib.hid (RowO.put HR.out hB.tail.tail.head (by decide) (by decide) hu)
   have Ho2:=Lib.hid (Y3 Ho.out hB.tail.tail.head (by decide) hu)
   clear HR Ho hB hG hu
   have HR:=HR2
   have Ho:=Ho2
   clear HR2 Ho2
   obtain ⟨hB,hG⟩:=hBG
   refine rt Tryz.results31 ?_
   have hn:=A9G Ho.out
   rw [Htk.out] at hn
   exact ⟨(((R1,R1c),(A2,C2)),rs'),rfl,⟨⟨HR.out.lrq,hn⟩,Ht2.out⟩,hG⟩
end Go.Proofs.YtjmopgepnndckaaGreatDoor
namespace Go.Proofs.YtjmopgepnndckaaGreatDoor
open Go Go.RowKit Go.Shelf
theorem A4u (d : Option Tmp) (ty : TypeId) (pos : String) (af : Array Edge) (gd : Option (Nat × Bool)) : K5 Tryz.prog ⟨d,.alloc 136,ty,pos,af,gd⟩ = .cells #[.slice none 0 0,.slice none 0 0,.slice none 0 0,.int .i64 0,.nilFunc,.slice none 0 0,.int .i64 0] 136:=by kernel_rfl
theorem A0X : ∀ t ∈ [45,47,49,136],K3 Tryz.prog t:=by
 intro t ht
 simp only [List.mem_cons,List.not_mem_nil,or_false] at ht
 rcases ht with rfl | rfl | rfl | rfl
 ·exact fun _ _ _ _ _ _=>by rw [I3];kernel_rfl
 ·exact fun _ _ _ _ _ _=>by rw [A08];kernel_rfl
 ·exact fun _ _ _ _ _ _=>by rw [Q8];kernel_rfl
 ·exact fun _ _ _ _ _ _=>by rw [A4u];kernel_rfl
theorem A60 (b99 keep s n m L t : Nat) (R N Qa : Ax) (rs : List Rq) (ns : List NdT) (q : List Rat) (MF : FuncId) (MC : Array Value) (mf : List Ht → Option Rat) (I : World → Prop) (w0 : World) (hb : w0.heap.size ≤ b99) (hk : keep ≤ 100000) (hn : rs.length = n) (hn2 : n ≤ 300) (hm : ns.length = m) (hm2 : m ≤ 300) (hL2 : L ≤ 20) (hq : q.length = L) (hrl : ∀ r ∈ rs,r.2.2.length = L)
  (hs1 : ∀ r ∈ rs,∀ x ∈ r.2.2,qs x ≤ t) (hs2 : ∀ x ∈ q,qs x ≤ t) (hts : 100 * t + 200 ≤ s) (hBz : 4 * s + 1000 ≤ BIG)
  (HM : MostOK b99 w0.heap.size (.slice R.1 n R.2) (.slice N.1 m N.2) (.slice Qa.1 L Qa.2) (.int .i64 (keep : Nat)) MF MC mf I w0) (hms : ∀ hs m,(∀ x ∈ hs,qs x.2 ≤ s) → mf hs = some m → qs m ≤ s)
  (hLR : Lrq w0 R.1 rs) (hLN : Le ndL 4 w0 N.1 ns) (hLQ : Lq w0 Qa.1 q) (hfine : A2C (rs.map (·.2.2)) L ns) (HT0 : Tab w0) (f : Nat) : A4L b99 keep s (.slice R.1 n R.2) (.slice N.1 m N.2) (.slice Qa.1 L Qa.2) MF MC mf I w0 (rs.map (·.2.2)) q L ns f:=by
 induction f using Nat.strongRecOn with
 | ind f ih=>exact B0W b99 keep s n m L t R N Qa rs ns q MF MC mf I w0 hb hk hn hn2 hm hm2 hL2 hq hrl hs1 hs2 hts hBz HM hms hLR hLN hLQ hfine HT0 f ih
theorem A9b (args : Array Value) (W : World) : Sem.run Tryz.prog (callFunc 72 args) W = .ok (.enter 72 args) W:=by kernel_rfl
theorem B0X {k s : Nat} {hs : List Ht} {m : Rat} (h : ∀ x ∈ hs,qs x.2 ≤ s) (hm : K6 k hs = some m) : qs m ≤ s:=by
 unfold K6 at hm
 split at hm
 ·cases hm
 ·cases hl : hs.getLast? with
  | none=>rw [hl] at hm;cases hm
  | some x =>
   rw [hl] at hm
   cases hm
   exact h x (List.mem_of_getLast? hl)
theorem B4m (b9 b5 n m L k : Nat) (R N Qa : Ax) (w : World) (hk0 : 0 < k) (hk : k ≤ 300) : MostOK b9 w.heap.size (.slice R.1 n R.2) (.slice N.1 m N.2) (.slice Qa.1 L Qa.2) (.int .i64 (k : Nat)) 72 #[.pointer (some ⟨b9,0,none⟩),.pointer (some ⟨b5,0,none⟩)] (K6 k) (fun W=>Blk W b5 3 #[.int .i64 (k : Nat)]) w :=
 ⟨A9b,fun HA HC hs lk W hg hI hl hS=>A9K b9 b5 k hs.length HC HA hs rfl hl (by omega) hk0 W (fun W' hg'=>(hS.blk.grow hg').cell 5) (fun W' hg'=>(hI.grow hg').cell 0) hS.lh.1,fun W W' hk hI=>hk.blk _ _ _ (by decide) (by decide) hI⟩
theorem B3n (R N Qa : Ax) (rs : List Rq) (n L m k : Nat) (ns : List NdT) (q : List Rat) (hn : rs.length = n) (hn1 : 1 ≤ n) (hn2 : n ≤ 300) (hL1 : 1 ≤ L) (hL2 : L ≤ 20) (hrl : ∀ r ∈ rs,r.2.2.length = L) (hm : ns.length = m) (hq : q.length = L) (hk0 : 0 < k) (hk : k ≤ 300) (t : Nat) (hs1 : ∀ r ∈ rs,∀ x ∈ r.2.2,qs x ≤ t) (hs2 : ∀ x ∈ q,qs x ≤ t) (hBz : 400 * t + 2000 ≤ BIG)
  (hc : H6 (rs.map (·.2.2)) L ns = 0) (w : World) (hR : Lrq w R.1 rs) (hN : Le ndL 4 w N.1 ns) (hQ : Lq w Qa.1 q) (HT : Tab w) :
  Calls Tryz.prog 38 #[I6 R n N m,.slice Qa.1 L Qa.2,.int .i64 (k : Nat)] w (G8 (fun x : Ax × Nat=>.tuple #[.slice x.1.1 (min k n) x.1.2,.int .i64 (x.2 : Nat),.int .i64 0]) (fun x W=>Lh W x.1.1 (C9 k (D5 (I4 (rs.map (·.2.2)) q L) n)) ∧ min k n ≤ x.2 ∧ x.2 ≤ n) w):=by
 have hXl : (rs.map (·.2.2)).length = n:=by rw [List.length_map,hn]
 obtain ⟨s,hsz,hlay,hsn,hnl⟩:=A6K hc
 have hmn : m = n:=by omega
 have hck : ∀ W,A3 w W → Calls Tryz.prog 32 #[I6 R n N m] W fun e w'=>e = .returned (.int .i64 0) ∧ A3 W w':=fun W hg=>by
  have h:=A21 R N rs n L m ns hn hn1 hn2 hL1 hL2 hrl hm (by omega) t hs1 (by omega) W (hR.grow hg) (hN.grow hg)
  rw [hc] at h
  exact h
 have hlk:=B1V (q:=q) (keep:=k) (most:=K6 k) hc hsn
 have hbs:=B5K (q:=q) hk0 hc hlay hsn
 rw [hXl] at hlk hbs
 have hbl : (C9 k (D5 (I4 (rs.map (·.2.2)) q L) n)).length = min k n:=by rw [A2A];unfold D5;simp
 have hvi:=fun (b9 b5 : Nat) (hb : w.heap.size ≤ b9)=>A60 b9 k (100 * t + 200) n m L t R N Qa rs ns q 72 #[.pointer (some ⟨b9,0,none⟩),.pointer (some ⟨b5,0,none⟩)] (K6 k) (fun W=>Blk W b5 3 #[.int .i64 (k : Nat)]) w hb (by omega) hn hn2 hm (by omega) hL2 hq hrl hs1 hs2 (Nat.le_refl _) (by omega) (B4m b9 b5 n m L k R N Qa w hk0 hk) (fun hs m h1 h2=>B0X h1 h2) hR hN hQ (A1t hc) HT s.size s 0 [] 0 none 0
 obtain ⟨st,hst⟩ : ∃ x,x = E9 (rs.map (·.2.2)) q L (K6 k) k (toK ns s 0) ([],0):=⟨_,rfl⟩
 rw [← hst] at hlk hbs
 simp only [← hst] at hvi
 obtain ⟨hs9,lk9⟩:=st
 simp only at hlk hbs hvi
 have hvi2 : ∀ (b9 b5 : Nat) (hb : w.heap.size ≤ b9) W,A3 w W → Blk W b5 3 #[.int .i64 (k : Nat)] → SrW b9 w.heap.size (.slice R.1 n R.2) (.slice N.1 m N.2) (.slice Qa.1 L Qa.2) (.int .i64 (k : Nat)) (.func (.func 72) #[] #[.pointer (some ⟨b9,0,none⟩),.pointer (some ⟨b5,0,none⟩)]) none 0 [] 0 W → _:=fun b9 b5 hb W hg hI hS=>hvi b9 b5 hb W hsz (Nat.le_refl _) hlay hg hI ⟨fun x hx=>(by cases hx),List.Pairwise.nil,Nat.le_refl _⟩ (by omega) hS
 have hrow0 : ∃ (bb ob : Nat) (Ar : Option Addr) (cr : Nat),R.1 = some ⟨bb,ob,none⟩ ∧ ∀ W,A3 w W → W.cell? ⟨bb,ob,none⟩ = some (.slice Ar L cr):=by
  obtain ⟨bb,ob,e⟩:=hR.addr (by omega)
  rw [e] at hR
  have hil : 0 < rs.length:=by omega
  refine ⟨bb,ob,rs[0].1,rs[0].2.1,e,fun W hg=>?_⟩
  have h3:=((hR.grow hg).read (List.getElem?_eq_getElem hil)).1
  rw [hrl _ (List.getElem_mem hil),Nat.add_zero] at h3
  exact h3
 obtain ⟨RA,RC⟩:=R
 obtain ⟨NA,NC⟩:=N
 obtain ⟨QA,QC⟩:=Qa
 simp only at hrow0
 obtain ⟨bb,ob,Ar,cr,rfl,hr0⟩:=hrow0
 rw [← hbs]
 rw [← hbs] at hbl
 have f1 : decide ((k : Int) < 1) = false:=by simp;omega
 have f1n : decide (k < 1) = false:=by simp;omega
 have f1z : decide (k = 0) = false:=by simp;omega
 have f2 : decide (300 < (k : Int)) = false:=by simp;omega
 have f2n : decide (300 < k) = false:=by simp;omega
 have hni : (0 : Int) < (n : Int):=by omega
 have hne : ((L : Int) != (L : Int)) = false:=by simp
 have Hck:=Lib.hid hck
 have Hvi:=Lib.hid hvi2
 have Hr0:=Lib.hid hr0
 have Hlk:=Lib.hid hlk
 have Hbl:=Lib.hid hbl
 clear hck hvi hvi2 hr0 hlk hbl hbs hst hc hR hN hQ hlay hsz hsn hnl hXl hs1 hs2 hBz hrl hn hq hm hmn
 go_enter Tryz.func38,Tryz.ntmps38
 refine en2 ?_
 intro u hG b5 b3 hB hF
 refine wp_seq ?_
 refine wp_seq (rsE A0X [0,1,0,0,0,0,0,0,0,0,0] hB hG fun L hL=>?_)
 refine gs ?_
 refine gmd (C:=fun v ⟨hgu,hB,hG,_⟩=>Hck.out _ hG) ?_
 refine gs ?_
 refine geT hL ?_
 clear hB hG hL L
 rintro u ⟨-,hB,hG,-⟩
 refine wp_cond_false (rfl) ?_
 refine wp_skip ?_
 refine A4 ?_
 refine wp_seq ?_
 refine wp_seq ?_
 have q0:=Hr0.out u hG
 refine r0N ?_
 refine wp_cond_false (rfl) ?_
 refine wp_skip ?_
 refine A4 ?_
 refine wp_seq (rsC A0X [0,0,0,2] hB hG fun K L hN hL=>?_)
 refine gs ?_
 refine gaa (A4u _ _ _ _ _) fun b9 hb9 hn9=>?_
 replace hF:=hF.n1 [] hB hG hb9 hn9
 refine geC hL ?_
 clear hB hG hL L
 rintro u ⟨⟨-,hB,hG,-⟩,h9⟩
 replace hB:=hB.cons' h9
 clear h9
 clear hb9 hn9
 refine gtT ?_
 clear hN K
 refine st hB hF hG 0 0 [_,_,_,_,_,_,_] ?_
 clear hB hG
 intro u hB hG
 refine wp_seq ?_
 have q0:=Hr0.out u hG
 refine r0N ?_
 refine st hB hF hG 0 4 [_] ?_
 clear hB hG
 intro u hB hG
 refine wp_seq ?_
 have q0:=Hr0.out u hG
 refine r0N ?_
 refine st hB hF hG 0 3 [_] ?_
 clear hB hG
 intro u hB hG
 refine wp_seq ?_
 have h9w:=hF.1 b9 (by simp)
 have hI:=hB.tail.tail.head
 have hv:=Hvi.out b9 b5 h9w u hG hI ⟨hB.head,World.ownsRow_nil _ _ _ _⟩
 have HV:=Lib.hid hv
 clear hv hI
 refine G6 ?_
 intro K hN
 go_wp2_with (go_at_call 73;refine HV.out.mono ?_;rintro e w5 ⟨rfl,HA5,HC5,q0,q1,q2⟩)
 refine NoK.norm (hN _ _ ?_)
 clear hN K HV hB hG hF
 have hG:=q2
 have hB9:=q0.blk
 rw [Hbl.out] at hB9
 have hB:=Bx.cons hB9 (Bx.nil w5)
 have HL9:=Lib.hid q0.lh.1
 clear hB9 q0 q1 q2 h9w Hvi
 obtain ⟨u,rfl⟩ : ∃ x,x = w5:=⟨_,rfl⟩
 refine A4 ?_
 refine wp_seq (rdC A0X [] [(0,0),(0,1),(0,2),(0,3),(0,4),(0,5)] hB hG fun K L hN hL=>?_)
 refine gs ?_
 refine geC hL ?_
 clear hB hG hL L
 rintro u ⟨hgu,hB,hG,-⟩
 have HL8:=Lib.hid (HL9.out.grow hgu)
 clear hgu
 refine gtT ?_
 clear hN K
 refine rt Tryz.results38 ?_
 exact ⟨((HA5,HC5),lk9),rfl,⟨HL8.out,by have h1:=Hlk.out.2;have h2:=Hbl.out;omega,Hlk.out.1⟩,hG⟩
end Go.Proofs.YtjmopgepnndckaaGreatDoor
namespace Go.Proofs.YtjmopgepnndckaaGreatDoor
open Go Go.RowKit
end Go.Proofs.YtjmopgepnndckaaGreatDoor
namespace Go.Proofs.YtjmopgepnndckaaGreatDoor
open Go Go.RowKit Go.Shelf
theorem B3c (args : Array Value) (W : World) : Sem.run Tryz.prog (callFunc 76 args) W = .ok (.enter 76 args) W:=by kernel_rfl
theorem B3I (b9 b5 n m L : Nat) (R N Qa : Ax) (f : Rat) (w : World) : MostOK b9 w.heap.size (.slice R.1 n R.2) (.slice N.1 m N.2) (.slice Qa.1 L Qa.2) (.int .i64 (n : Nat)) 76 #[.pointer (some ⟨b5,0,none⟩)] (fun _=>some f) (fun W=>Blk W b5 49 (S6 f)) w :=
 ⟨B3c,fun HA HC hs lk W hg hI hl hS=>B20 b5 f W hI,fun W W' hk hI=>hk.blk _ _ _ (by decide) (by decide) hI⟩
theorem A9M (R N Qa : Ax) (rs : List Rq) (n L m : Nat) (f : Rat) (ns : List NdT) (q : List Rat) (hn : rs.length = n) (hn1 : 1 ≤ n) (hn2 : n ≤ 300) (hL1 : 1 ≤ L) (hL2 : L ≤ 20) (hrl : ∀ r ∈ rs,r.2.2.length = L) (hm : ns.length = m) (hq : q.length = L) (hf0 : 0 ≤ f) (t : Nat) (hft : qs f ≤ 100 * t + 200) (hs1 : ∀ r ∈ rs,∀ x ∈ r.2.2,qs x ≤ t) (hs2 : ∀ x ∈ q,qs x ≤ t) (hBz : 400 * t + 2000 ≤ BIG)
  (hc : H6 (rs.map (·.2.2)) L ns = 0) (w : World) (hR : Lrq w R.1 rs) (hN : Le ndL 4 w N.1 ns) (hQ : Lq w Qa.1 q) (HT : Tab w) :
  Calls Tryz.prog 40 #[I6 R n N m,.slice Qa.1 L Qa.2,qV f] w (G8 (fun x : Ax=>.tuple #[.slice x.1 (F5 f (D5 (I4 (rs.map (·.2.2)) q L) n)).length x.2,.int .i64 0]) (fun x W=>Lh W x.1 (F5 f (D5 (I4 (rs.map (·.2.2)) q L) n)) ∧ (F5 f (D5 (I4 (rs.map (·.2.2)) q L) n)).length ≤ x.2) w):=by
 have hXl : (rs.map (·.2.2)).length = n:=by rw [List.length_map,hn]
 obtain ⟨s,hsz,hlay,hsn,hnl⟩:=A6K hc
 have hmn : m = n:=by omega
 have hck : ∀ W,A3 w W → Calls Tryz.prog 32 #[I6 R n N m] W fun e w'=>e = .returned (.int .i64 0) ∧ A3 W w':=fun W hg=>by
  have h:=A21 R N rs n L m ns hn hn1 hn2 hL1 hL2 hrl hm (by omega) t hs1 (by omega) W (hR.grow hg) (hN.grow hg)
  rw [hc] at h
  exact h
 have hbs:=B0y (q:=q) (f:=f) hc hlay hsn
 rw [hXl] at hbs
 have hB40:=J8
 have hsg:=fun W=>R5 f (by have := F1 f;omega) W
 have hvi:=fun (b9 b5 : Nat) (hb : w.heap.size ≤ b9)=>A60 b9 n (100 * t + 200) n m L t R N Qa rs ns q 76 #[.pointer (some ⟨b5,0,none⟩)] (fun _=>some f) (fun W=>Blk W b5 49 (S6 f)) w hb (by omega) hn hn2 hm (by omega) hL2 hq hrl hs1 hs2 (Nat.le_refl _) (by omega) (B3I b9 b5 n m L R N Qa f w) (fun hs m h1 h2=>by cases h2;exact hft) hR hN hQ (A1t hc) HT s.size s 0 [] 0 none 0
 obtain ⟨st,hst⟩ : ∃ x,x = E9 (rs.map (·.2.2)) q L (fun _=>some f) n (toK ns s 0) ([],0):=⟨_,rfl⟩
 rw [← hst] at hbs
 simp only [← hst] at hvi
 obtain ⟨hs9,lk9⟩:=st
 simp only at hbs hvi
 have hvi2 : ∀ (b9 b5 : Nat) (hb : w.heap.size ≤ b9) W,A3 w W → Blk W b5 49 (S6 f) → SrW b9 w.heap.size (.slice R.1 n R.2) (.slice N.1 m N.2) (.slice Qa.1 L Qa.2) (.int .i64 (n : Nat)) (.func (.func 76) #[] #[.pointer (some ⟨b5,0,none⟩)]) none 0 [] 0 W → _:=fun b9 b5 hb W hg hI hS=>hvi b9 b5 hb W hsz (Nat.le_refl _) hlay hg hI ⟨fun x hx=>(by cases hx),List.Pairwise.nil,Nat.le_refl _⟩ (by omega) hS
 have hrow0 : ∃ (bb ob : Nat) (Ar : Option Addr) (cr : Nat),R.1 = some ⟨bb,ob,none⟩ ∧ ∀ W,A3 w W → W.cell? ⟨bb,ob,none⟩ = some (.slice Ar L cr):=by
  obtain ⟨bb,ob,e⟩:=hR.addr (by omega)
  rw [e] at hR
  have hil : 0 < rs.length:=by omega
  refine ⟨bb,ob,rs[0].1,rs[0].2.1,e,fun W hg=>?_⟩
  have h3:=((hR.grow hg).read (List.getElem?_eq_getElem hil)).1
  rw [hrl _ (List.getElem_mem hil),Nat.add_zero] at h3
  exact h3
 obtain ⟨RA,RC⟩:=R
 obtain ⟨NA,NC⟩:=N
 obtain ⟨QA,QC⟩:=Qa
 simp only at hrow0
 obtain ⟨bb,ob,Ar,cr,rfl,hr0⟩:=hrow0
 rw [← hbs]
 obtain ⟨l9,hl9⟩ : ∃ x,x = hs9.length:=⟨_,rfl⟩
 rw [← hl9]
 obtain ⟨S,hS⟩ : ∃ S,S = f.num.sign:=⟨_,rfl⟩
 simp only [← hS] at hsg
 have fS : decide (S < 0) = false:=by
  rw [hS]
  simp only [decide_eq_false_iff_not,Int.not_lt]
  have h1:=Rat.num_nonneg.2 hf0
  exact Int.sign_nonneg_iff.2 h1
 have hni : (0 : Int) < (n : Int):=by omega
 have hne : ((L : Int) != (L : Int)) = false:=by simp
 have Hck:=Lib.hid hck
 have Hvi:=Lib.hid hvi2
 have Hr0:=Lib.hid hr0
 have Hl9:=Lib.hid hl9
 have Hsg:=Lib.hid hsg
 clear hck hvi hvi2 hr0 hl9 hsg hbs hst hc hR hN hQ hlay hsz hsn hnl hXl hs1 hs2 hBz hrl hn hq hm hmn hS hf0 hft hB40
 go_enter Tryz.func40,Tryz.ntmps40
 refine en2 ?_
 intro u hG b5 b3 hB hF
 refine wp_seq ?_
 refine wp_seq (rsE A0X [0,1,0,0,0,1,0,0] hB hG fun L hL=>?_)
 repeat first | refine gya ?_ | refine gyr ?_ | refine gna ?_ | refine gyb (by (rintro v ⟨hgu,hB,hG,-⟩ N hN;have r:=hB.r;simp only [BxR] at r;have q0:=Hr0.out v hG;go_simp;exact hN)) ?_
 refine gmd (C:=fun v ⟨hgu,hB,hG,_⟩=>Hck.out _ hG) ?_
 repeat first | refine gya ?_ | refine gyr ?_ | refine gna ?_ | refine gyb (by (rintro v ⟨hgu,hB,hG,-⟩ N hN;have r:=hB.r;simp only [BxR] at r;have q0:=Hr0.out v hG;go_simp;exact hN)) ?_
 first | refine gmw (C:=fun v=>Hsg.out _) ?_ | refine E4 ?_
 refine gs ?_
 refine geT hL ?_
 clear hB hG hL L
 rintro u ⟨-,hB,hG,-⟩
 refine wp_cond_false (rfl) ?_
 refine wp_skip ?_
 refine A4 ?_
 refine wp_seq ?_
 refine wp_seq ?_
 have q0:=Hr0.out u hG
 refine r0N ?_
 refine wp_cond_false (rfl) ?_
 refine wp_skip ?_
 refine A4 ?_
 refine wp_seq (rsC A0X [0,0,0,0,0,0,2] hB hG fun K L hN hL=>?_)
 repeat first | refine gya ?_ | refine gyr ?_ | refine gna ?_ | refine gyb (by (rintro v ⟨hgu,hB,hG,-⟩ N hN;have r:=hB.r;simp only [BxR] at r;have q0:=Hr0.out v hG;go_simp;exact hN)) ?_
 refine gaa (A4u _ _ _ _ _) fun b8 hb8 hn8=>?_
 replace hF:=hF.n1 [] hB hG hb8 hn8
 refine geC hL ?_
 clear hB hG hL L
 rintro u ⟨⟨-,hB,hG,-⟩,h8⟩
 replace hB:=hB.cons' h8
 clear h8
 clear hb8 hn8
 refine gtT ?_
 clear hN K
 refine st hB hF hG 0 0 [_,_,_,_,_,_,_] ?_
 clear hB hG
 intro u hB hG
 refine wp_seq ?_
 have q0:=Hr0.out u hG
 refine r0N ?_
 refine st hB hF hG 0 4 [_] ?_
 clear hB hG
 intro u hB hG
 refine wp_seq ?_
 have h9w:=hF.1 b8 (by simp)
 have hI:=hB.tail.tail.head
 have hv:=Hvi.out b8 b5 h9w u hG hI ⟨hB.head,World.ownsRow_nil _ _ _ _⟩
 have HV:=Lib.hid hv
 clear hv hI
 refine G6 ?_
 intro K hN
 go_wp2_with (go_at_call 73;refine HV.out.mono ?_;rintro e w5 ⟨rfl,HA5,HC5,q0,q1,q2⟩)
 refine NoK.norm (hN _ _ ?_)
 clear hN K HV hB hG hF
 have hG:=q2
 have hB9:=q0.blk
 rw [← Hl9.out] at hB9
 have hB:=Bx.cons hB9 (Bx.nil w5)
 have HL9:=Lib.hid q0.lh
 clear hB9 q0 q1 q2 h9w Hvi
 obtain ⟨u,rfl⟩ : ∃ x,x = w5:=⟨_,rfl⟩
 refine A4 ?_
 refine wp_seq ?_
 have q0:=Hr0.out u hG
 refine r0N ?_
 refine rt Tryz.results40 ?_
 exact ⟨(HA5,HC5),rfl,⟨HL9.out.1,by have := HL9.out.2.1;have := Hl9.out;omega⟩,hG⟩
theorem A51 (R N Qa : Ax) (rs : List Rq) (n L m LQ : Nat) (f : Rat) (ns : List NdT) (hn : rs.length = n) (hn1 : 1 ≤ n) (hn2 : n ≤ 300) (hL1 : 1 ≤ L) (hL2 : L ≤ 20) (hrl : ∀ r ∈ rs,r.2.2.length = L) (hm : ns.length = m) (hm2 : m ≤ 300) (hf0 : f < 0) (t : Nat) (hft : qs f ≤ 100 * t + 200) (hs1 : ∀ r ∈ rs,∀ x ∈ r.2.2,qs x ≤ t) (hBz : 400 * t + 2000 ≤ BIG)
  (hc : H6 (rs.map (·.2.2)) L ns = 0) (w : World) (hR : Lrq w R.1 rs) (hN : Le ndL 4 w N.1 ns) :
  Calls Tryz.prog 40 #[I6 R n N m,.slice Qa.1 LQ Qa.2,qV f] w fun e w'=>e = .returned (.tuple #[.slice none 0 0,.int .i64 1]) ∧ A3 w w':=by
 have hck : ∀ W,A3 w W → Calls Tryz.prog 32 #[I6 R n N m] W fun e w'=>e = .returned (.int .i64 0) ∧ A3 W w':=fun W hg=>by
  have h:=A21 R N rs n L m ns hn hn1 hn2 hL1 hL2 hrl hm (by omega) t hs1 (by omega) W (hR.grow hg) (hN.grow hg)
  rw [hc] at h
  exact h
 have hB40:=J8
 have hsg:=fun W=>R5 f (by have := F1 f;omega) W
 obtain ⟨S,hS⟩ : ∃ S,S = f.num.sign:=⟨_,rfl⟩
 simp only [← hS] at hsg
 have fS : decide (S < 0) = true:=by
  rw [hS]
  simp only [decide_eq_true_eq]
  have h1 : f.num < 0:=A49 hf0
  exact Int.sign_neg_iff.2 h1
 have Hck:=Lib.hid hck
 have Hsg:=Lib.hid hsg
 clear hck hsg hc hR hN hs1 hBz hrl hn hm hS hf0 hft hB40
 go_enter Tryz.func40,Tryz.ntmps40
 refine en2 ?_
 intro u hG b5 b3 hB hF
 refine wp_seq ?_
 refine wp_seq (rsE A0X [0,1,0,0,0,1,0,0] hB hG fun L hL=>?_)
 refine gs ?_
 refine gmd (C:=fun v ⟨hgu,hB,hG,_⟩=>Hck.out _ hG) ?_
 refine gs ?_
 first | refine gmw (C:=fun v=>Hsg.out _) ?_ | refine E4 ?_
 refine gs ?_
 refine geT hL ?_
 clear hB hG hL L
 rintro u ⟨-,hB,hG,-⟩
 refine wp_cond_true (rfl) ?_
 refine r0T ?_
 refine rt Tryz.results40 ?_
 exact ⟨rfl,hG⟩
theorem A95 (R N Qa : Ax) (rs : List Rq) (n L m LQ : Nat) (f : Rat) (ns : List NdT) (hn : rs.length = n) (hn1 : 1 ≤ n) (hn2 : n ≤ 300) (hL1 : 1 ≤ L) (hL2 : L ≤ 20) (hLQ : LQ ≠ L) (hrl : ∀ r ∈ rs,r.2.2.length = L) (hm : ns.length = m) (hm2 : m ≤ 300) (hf0 : 0 ≤ f) (t : Nat) (hft : qs f ≤ 100 * t + 200) (hs1 : ∀ r ∈ rs,∀ x ∈ r.2.2,qs x ≤ t) (hBz : 400 * t + 2000 ≤ BIG)
  (hc : H6 (rs.map (·.2.2)) L ns = 0) (w : World) (hR : Lrq w R.1 rs) (hN : Le ndL 4 w N.1 ns) :
  Calls Tryz.prog 40 #[I6 R n N m,.slice Qa.1 LQ Qa.2,qV f] w fun e w'=>e = .returned (.tuple #[.slice none 0 0,.int .i64 5]) ∧ A3 w w':=by
 have hck : ∀ W,A3 w W → Calls Tryz.prog 32 #[I6 R n N m] W fun e w'=>e = .returned (.int .i64 0) ∧ A3 W w':=fun W hg=>by
  have h:=A21 R N rs n L m ns hn hn1 hn2 hL1 hL2 hrl hm (by omega) t hs1 (by omega) W (hR.grow hg) (hN.grow hg)
  rw [hc] at h
  exact h
 have hB40:=J8
 have hsg:=fun W=>R5 f (by have := F1 f;omega) W
 obtain ⟨S,hS⟩ : ∃ S,S = f.num.sign:=⟨_,rfl⟩
 simp only [← hS] at hsg
 have fS : decide (S < 0) = false:=by
  rw [hS]
  simp only [decide_eq_false_iff_not,Int.not_lt]
  exact Int.sign_nonneg_iff.2 (Rat.num_nonneg.2 hf0)
 have hrow0 : ∃ (bb ob : Nat) (Ar : Option Addr) (cr : Nat),R.1 = some ⟨bb,ob,none⟩ ∧ ∀ W,A3 w W → W.cell? ⟨bb,ob,none⟩ = some (.slice Ar L cr):=by
  obtain ⟨bb,ob,e⟩:=hR.addr (by omega)
  rw [e] at hR
  have hil : 0 < rs.length:=by omega
  refine ⟨bb,ob,rs[0].1,rs[0].2.1,e,fun W hg=>?_⟩
  have h3:=((hR.grow hg).read (List.getElem?_eq_getElem hil)).1
  rw [hrl _ (List.getElem_mem hil),Nat.add_zero] at h3
  exact h3
 obtain ⟨RA,RC⟩:=R
 simp only at hrow0
 obtain ⟨bb,ob,Ar,cr,rfl,hr0⟩:=hrow0
 have hni : (0 : Int) < (n : Int):=by omega
 have hne : ((LQ : Int) != (L : Int)) = true:=by simp;omega
 have Hck:=Lib.hid hck
 have Hsg:=Lib.hid hsg
 have Hr0:=Lib.hid hr0
 clear hck hsg hr0 hc hR hN hs1 hBz hrl hn hm hS hf0 hft hB40 hLQ
 go_enter Tryz.func40,Tryz.ntmps40
 refine en2 ?_
 intro u hG b5 b3 hB hF
 refine wp_seq ?_
 refine wp_seq (rsE A0X [0,1,0,0,0,1,0,0] hB hG fun L hL=>?_)
 refine gs ?_
 refine gmd (C:=fun v ⟨hgu,hB,hG,_⟩=>Hck.out _ hG) ?_
 refine gs ?_
 first | refine gmw (C:=fun v=>Hsg.out _) ?_ | refine E4 ?_
 refine gs ?_
 refine geT hL ?_
 clear hB hG hL L
 rintro u ⟨-,hB,hG,-⟩
 refine wp_cond_false (rfl) ?_
 refine wp_skip ?_
 refine A4 ?_
 refine wp_seq ?_
 refine wp_seq ?_
 have q0:=Hr0.out u hG
 refine r0N ?_
 refine wp_cond_true (rfl) ?_
 refine r0T ?_
 refine rt Tryz.results40 ?_
 exact ⟨rfl,hG⟩
end Go.Proofs.YtjmopgepnndckaaGreatDoor
