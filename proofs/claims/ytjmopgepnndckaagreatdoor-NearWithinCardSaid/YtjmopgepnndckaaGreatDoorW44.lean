/- Contracts and laws. -/
import Derived.Test.YtjmopgepnndckaaGreatDoorW42
import Derived.Test.YtjmopgepnndckaaGreatDoorW43
set_option linter.unusedSimpArgs false
set_option linter.unusedVariables false
set_option maxHeartbeats 4000000
set_option maxRecDepth 100000
namespace Go.Proofs.YtjmopgepnndckaaGreatDoor
open Go Go.RowKit
theorem B0G (b99 n L : Nat) (RA : Option Addr) (RC : Nat) (rs : List Rq) (w0 : World) (hbw : w0.heap.size ≤ b99) (hn : rs.length = n) (hn0 : 0 < n) (hn2 : n ≤ 100000) (hL1 : 1 ≤ L) (hL2 : L ≤ 100000) (hrl : ∀ r ∈ rs,r.2.2.length = L) (s : Nat) (hs : ∀ r ∈ rs,∀ x ∈ r.2.2,qs x ≤ s) (hBz : 2 * s + 1 ≤ BIG) (hX : Lrz w0 RA rs) (m : Nat) : A46 b99 n L RA RC (rs.map (·.2.2)) w0 m:=by
 induction m using Nat.strongRecOn with
 | ind m ih=>exact B2n b99 n L RA RC rs w0 hbw hn hn0 hn2 hL1 hL2 hrl s hs hBz hX m ih
theorem B3R (i : Nat) : I0 (List.range (i + 1)) = I0 (List.range i) ++ [(i : Int)]:=by
 unfold I0
 rw [List.range_succ,List.map_append]
 rfl
theorem A85 (A : Option Addr) (rs : List Rq) (n Lw c : Nat) (hn : rs.length = n) (hn1 : 1 ≤ n) (hn2 : n ≤ 300) (hL1 : 1 ≤ Lw) (hL2 : Lw ≤ 20) (hrl : ∀ r ∈ rs,r.2.2.length = Lw) (s : Nat) (hs : ∀ r ∈ rs,∀ x ∈ r.2.2,qs x ≤ s) (hBz : 2 * s + 1 ≤ BIG) (w : World) (h : Lrz w A rs) :
  Calls Tryz.prog 28 #[.slice A n c] w (G8 (fun x : Ax=>I6 (A,c) n x n) (fun x W=>W.ownsRow w.heap.size 118 4 (.slice x.1 n x.2) n ((E8 (F6 (rs.map (·.2.2)) Lw (List.range n) 0) 0).flatMap ndL)) w):=by
 have hgr:=fun (b99 : Nat) (h1 : w.heap.size ≤ b99)=>B0G b99 n Lw A c rs w h1 hn hn1 (by omega) hL1 (by omega) hrl s hs hBz h n
 obtain ⟨X,hXe⟩ : ∃ X,X = rs.map (·.2.2):=⟨_,rfl⟩
 rw [← hXe]
 simp only [← hXe] at hgr
 have Hgr:=Lib.hid hgr
 clear hgr h hs hrl hBz hn hXe
 go_enter Tryz.func28,Tryz.ntmps28
 refine en1 ?_
 intro u hG b2 hB hF
 refine wp_seq (rsC F2 [0,0,2] hB hG fun K L hN hL=>?_)
 refine gs ?_
 refine gaa (A7q _ _ _ _ _) fun b3 hb3 hn3=>?_
 replace hF:=hF.n1 [] hB hG hb3 hn3
 have hl2:=hB.head.lt
 refine geC hL ?_
 clear hB hG hL L
 rintro u ⟨⟨hgu,hB,hG,-⟩,h3⟩
 replace hB:=hB.cons' h3
 clear h3
 have hb23 : b2 < b3:=by omega
 clear hl2
 clear hb3 hn3
 clear hgu
 refine gtT ?_
 clear hN K
 refine st hB hF hG 0 0 [_,_] ?_
 clear hB hG
 intro u hB hG
 refine r0T ?_
 refine wp_seq ?_
 refine r0T ?_
 refine wp_block ?_
 have Hb23:=Lib.hid hb23
 clear hb23
 go_loopw [5,4] (fun s0 s1 wr=>∃ i : Nat,i ≤ n ∧ s0 = .int .i64 i ∧ wr.ownsRow w.heap.size 3 1 s1 i (A40 (I0 (List.range i))) ∧ Bx wr [(b3,72,#[.slice A n c,.slice none 0 0]),(b2,72,#[.slice none 0 0,.slice none 0 0])] ∧ A3 w wr) (fun s0 _ _=>n - (intOf s0).toNat)
 case atStart=>exact ⟨0,Nat.zero_le _,rfl,World.ownsRow_nil _ _ _ _,hB,hG⟩
 case round =>
  clear hB hG
  obtain ⟨i,hi,rfl,ho,hB,hG⟩:=hrel
  obtain ⟨u,rfl⟩ : ∃ x,x = wr:=⟨_,rfl⟩
  obtain ⟨A',cc,rfl⟩:=A5I ho
  rcases Nat.lt_or_ge i n with hlt | hge
  ·have hdec : decide ((i : Int) < (n : Int)) = true:=by simp;omega
   have Ho:=Lib.hid ho
   clear ho
   refine wp_seq ?_
   refine r0T ?_
   refine wp_cond_true (rfl) ?_
   refine wp_skip ?_
   refine A4 ?_
   refine wp_seq ?_
   refine wp_block ?_
   refine P7 (w:=w) F2 2 [0,0] (by kernel_rfl) (by simp only [List.drop_succ_cons,List.drop_zero];exact rfl) (fun _=>True) noG hB hG trivial ?_
   intro K L hN hL
   simp only [List.zip_cons_cons,List.zip_nil_left]
   refine gs ?_
   refine H7 ?_
   rintro v ⟨hgu,hB1,hG1,-⟩
   have ROWn:=Lib.hid (D3 Ho.out hgu)
   clear Ho
   have Ho:=ROWn
   clear ROWn
   clear hB hG
   have hB:=hB1
   have hG:=hG1
   clear hB1 hG1
   refine hL _ _ ?_
   clear hL L hgu
   obtain ⟨u,rfl⟩ : ∃ x,x = v:=⟨_,rfl⟩
   refine T6 A8A w.heap.size _ _ _ _ [Value.int .i64 (i : Nat)] rfl rfl (A6C (i : Nat) u) rfl (fun _=>rfl) (fun _=>rfl) (fun _ _=>rfl) Ho.out (by omega) (by omega) hG.sz fun p v' w' g1 g2 g3=>?_
   have hBn:=B4v Ho.out hB (by simp) g2
   have hGn:=R8 Ho.out hG g2
   clear Ho hB hG
   have Ho:=Lib.hid g1
   have hB:=hBn
   have hG:=hGn
   clear g1 g2 g3 hBn hGn
   obtain ⟨u,rfl⟩ : ∃ x,x = w':=⟨_,rfl⟩
   simp only [Act.put,List.setIfInBounds_toArray,List.set_cons_succ,List.set_cons_zero]
   refine NoK.norm (hN _ _ ?_)
   clear hN K
   refine D4 ?_
   refine A4 ?_
   refine r0E ?_
   refine A4 ?_
   go_roundw
   case rel=>exact ⟨i + 1,by omega,by go_num,by have := Ho.out;rw [B3R];simpa [A40] using this,hB,hG⟩
   case measure=>simp [intOf];omega
  ·obtain rfl : n = i:=by omega
   obtain ⟨A2,c2,e9,-,hLi⟩:=A9I ho (by simp [I0])
   cases e9
   have HLi:=Lib.hid hLi
   clear ho hLi hge hi
   have hdec : decide ((n : Int) < (n : Int)) = false:=by simp
   refine wp_seq ?_
   refine r0T ?_
   refine wp_cond_false (rfl) ?_
   refine wp_exit ?_
   refine B1 ?_
   refine B1 ?_
   refine E3 ?_
   refine A4 ?_
   refine wp_seq ?_
   have l3:=hB.head.lt
   have hw3:=hF.1 b3 (by simp)
   refine G6 ?_
   intro K hN
   go_wp2_with (go_at_call 60;refine (Hgr.out b3 hw3 (List.range n) 0 A' cc [] none 0 0 u List.length_range hn1 (fun x hx=>List.mem_range.1 hx) hL1 rfl (by omega) hG HLi.out hB.head (World.ownsRow_nil _ _ _ _) (by simp [nbk])).mono ?_;rintro e w5 ⟨rfl,NA',NC',q1,q2,q3,q4,q5⟩)
   refine NoK.norm (hN _ _ ?_)
   clear hN K
   rw [Nat.zero_add] at q1 q2
   rw [List.nil_append] at q2
   have hb23:=Hb23.out
   have hB2 : Bx w5 [(b3,72,#[.slice A n c,.slice NA' n NC']),(b2,72,#[.slice none 0 0,.slice none 0 0])]:=Bx.cons q1 (Bx.cons (q3.blk hB.tail.head (fun e=>e.elim (fun e=>by omega) (fun e=>by cases e))) (Bx.nil _))
   have l2:=hB.tail.head.lt
   have Hnb:=Lib.hid (show (Value.slice NA' n NC').ownBlock ≠ some b2 from fun e=>by
    rw [A1W] at e
    rcases q4 _ e with h | h
    ·cases h
    ·omega)
   have Ho:=Lib.hid q2
   clear l2 hB hG q1 q2 q3 q4 hb23 l3 hw3 HLi
   have hB:=hB2
   have hG:=q5
   clear hB2 q5
   obtain ⟨u,rfl⟩ : ∃ x,x = w5:=⟨_,rfl⟩
   refine A4 ?_
   refine r0T ?_
   refine sv hB hF hG 1 0 [_,_] ?_
   intro u hu hBG
   have Ho2:=Lib.hid (W8 Ho.out Hnb.out hu)
   clear Ho hB hG hu
   have Ho:=Ho2
   clear Ho2
   obtain ⟨hB,hG⟩:=hBG
   refine rt Tryz.results28 ?_
   exact ⟨(NA',NC'),rfl,Ho.out,hG⟩
structure PartW (bw ge EC n m : Nat) (R N : Ax) (B : Nat) (far : Nat) (es : List Int) (W : World) : Prop where
 blk : Blk W bw 122 #[.slice R.1 n R.2,.slice N.1 m N.2,.slice (some ⟨ge,0,none⟩) m EC,.int .i64 (far : Nat)]
 own : W.ownsRow B 3 1 (.slice (some ⟨ge,0,none⟩) m EC) m (iv es)
theorem PartW.grow {bw ge EC n m : Nat} {R N : Ax} {B : Nat} {far : Nat} {es : List Int} {W W' : World} (h : PartW bw ge EC n m R N B far es W) (hg : A3 W W') : PartW bw ge EC n m R N B far es W':=⟨h.blk.grow hg,D3 h.own hg⟩
theorem KepS.over {S : Nat → Prop} {w1 u u' : World} {b i : Nat} {vs : List Value} (h : KepS S w1 u) (hb : w1.heap.size ≤ b ∨ S b) (hu : E0 u b i vs = u') : KepS S w1 u':=by
 subst hu
 have h1 : KepS (fun k=>k = b) u (E0 u b i vs):=A3O (S:=fun k=>k = b) rfl vs i u
 exact ⟨h1.os.trans h.os,h1.tape.trans h.tape,h1.output.trans h.output,Nat.le_trans h.size h1.size,fun k hk hs=>(h1.block k (Nat.lt_of_lt_of_le hk h.size) (fun e=>hb.elim (fun h=>by omega) (fun h=>hs (e ▸ h)))).trans (h.block k hk hs)⟩
def L9 (B L : Nat) (ws : List Zw) (W : World) : Prop:=∀ r ∈ ws,I1 W r.2 ∧ W.ownsRow B 57 3 (zwV r) r.2.length (r.2.flatMap zrL) ∧ r.2.length = L ∧ ∀ z ∈ r.2,qs z.2 ≤ 50
theorem L9.grow {B L : Nat} {ws : List Zw} {u u' : World} (hg : A3 u u') (h : L9 B L ws u) : L9 B L ws u':=fun r hr=>⟨(h r hr).1.grow hg,D3 (h r hr).2.1 hg,(h r hr).2.2⟩
theorem L9.kept {B0 L : Nat} {ws : List Zw} {u w' : World} {B : Nat} {v : Value} {n : Nat} {xs : List Value} (hl : L9 B0 L ws u) (h : u.ownsRow B 26 1 v n xs) (hg : u.grownBy w' v.ownBlock) : L9 B0 L ws w':=fun r hr=>by
 obtain ⟨h1,h2,h3⟩:=hl r hr
 refine ⟨B5R h1 h (by decide) hg,h2.kept hg ?_,h3⟩
 cases hb : (zwV r).ownBlock with
 | none=>exact .inl rfl
 | some g=>exact .inr fun e1=>A2M h h2 (by decide) g e1.symm hb
theorem A8Q (l : List Int) (n : Nat) : ∀ x ∈ P6 l n,qs x ≤ 50:=fun x hx=>by
 unfold P6 at hx
 obtain ⟨i,-,rfl⟩:=List.mem_map.1 hx
 unfold A3P
 split
 ·exact Nat.le_trans (A8x _) (by omega)
 ·rw [show D6 0 = 0 from rfl,A5e];omega
theorem A87 {B L N : Nat} {W : World} {ws : List Zw} {l : List Int} (h : A1Y ws = A0G l N L) (hR : M7 B W ws) : L9 B L ws W:=fun r hr=>by
 obtain ⟨h1,h2⟩:=hR.1 r hr
 have h3 : r.2.map (·.2) ∈ A0G l N L:=by rw [← h];exact List.mem_map_of_mem (f:=fun r : Zw=>r.2.map (·.2)) hr
 unfold A0G at h3
 obtain ⟨i,-,e⟩:=List.mem_map.1 h3
 refine ⟨h1,h2,?_,fun z hz=>?_⟩
 ·have := congrArg List.length e
  rw [A8d,List.length_map] at this
  exact this.symm
 ·have h4 : z.2 ∈ r.2.map (·.2):=List.mem_map_of_mem hz
  rw [← e] at h4
  exact A8Q _ _ _ h4
theorem L9.set {B L : Nat} {ws : List Zw} {W : World} (h : L9 B L ws W) (i : Nat) {r : Zw} (hr : r ∈ ws) : L9 B L (ws.set i r) W:=fun x hx=>by
 rcases List.mem_or_eq_of_mem_set hx with h1 | rfl
 ·exact h x h1
 ·exact h _ hr
def A0N (N L : Nat) (rs : List Rq) : Prop:=rs.length = N ∧ ∀ r ∈ rs,r.2.2.length = L ∧ ∀ y ∈ r.2.2,qs y ≤ 50
theorem A6x {B L N : Nat} {ws : List Zw} {W : World} (h : L9 B L ws W) (hl : ws.length = N) : A0N N L (ws.map fun r=>(r.1.1,r.1.2,r.2.map (·.2))):=by
 refine ⟨by rw [List.length_map,hl],fun r hr=>?_⟩
 obtain ⟨x,hx,rfl⟩:=List.mem_map.1 hr
 obtain ⟨_,_,h3,h4⟩:=h x hx
 refine ⟨by simpa using h3,fun y hy=>?_⟩
 obtain ⟨z,hz,rfl⟩:=List.mem_map.1 hy
 exact h4 z hz
theorem B5Q (A : Option Addr) (l : List Int) (c p N Lw : Nat) (n wd same : Int) (hp : p = l.length) (hc : p ≤ c) (hN : F8 n 12 = (N : Int)) (hL : F8 wd 3 + 1 = (Lw : Int)) (hpm : p ≤ 9223372036854775807) (hb : ∀ x ∈ l,-9223372036854775808 ≤ x ∧ x ≤ 9223372036854775807) (w : World) (h : Li w A l) :
  Calls Tryz.prog 12 #[.slice A p c,.int .i64 n,.int .i64 wd,.int .i64 same] w (G8 (fun x : Ax × List Rq=>.slice x.1.1 N x.1.2) (fun x W=>A0N N Lw x.2 ∧ Lrz W x.1.1 x.2) w):=by
 have rN:=A0C n (m:=12) (by omega)
 have rL:=A0C wd (m:=3) (by omega)
 have hp1:=fun W=>A0W n 12 (by omega) (by omega) W
 have hp2:=fun W=>A0W wd 3 (by omega) (by omega) W
 have hp3:=fun W=>A0W same 3 (by omega) (by omega) W
 have hN11 : N ≤ 11:=by omega
 have hL3 : Lw ≤ 3:=by omega
 obtain ⟨y,hy⟩ : ∃ y,y = F8 wd 3:=⟨_,rfl⟩
 rw [← hy] at hL rL
 simp only [← hy] at hp2
 have fy : IntKind.i64.wrap (y + 1) = (Lw : Int):=by rw [IntWalk.i64_in _ (by omega)];exact hL
 obtain ⟨t,ht⟩ : ∃ y,y = F8 same 3:=⟨_,rfl⟩
 simp only [← ht] at hp3
 simp only [hN] at hp1
 have hrw : ∀ W,A3 w W → Calls Tryz.prog 47 #[.slice A p c,.int .i64 N,.int .i64 Lw] W (G8 (fun x : Ax × List Zw=>.slice x.1.1 N x.1.2) (fun x W'=>L9 w.heap.size Lw x.2 W' ∧ x.2.length = N ∧ W'.ownsRow w.heap.size 26 1 (.slice x.1.1 N x.1.2) N (x.2.map zwV)) W):=fun W hg =>
  (B32 A l c p N Lw hp hc (by omega) (by omega) hpm hb W (h.grow hg)).mono fun e w' ⟨v,rws,he,e1,e2,e3,hg'⟩=>by
   obtain ⟨A2,c2,rfl,-,-,hkl⟩:=A5D e3 e2.idx
   have hm : M7 w.heap.size w' rws:=⟨fun r hr=>⟨(e2.1 r hr).1,(e2.1 r hr).2.mono hg.size⟩,e2.2⟩
   exact ⟨((A2,c2),rws),he,⟨A87 e1 hm,hkl.symm,e3.mono hg.size⟩,hg'⟩
 have Hp1:=Lib.hid hp1
 have Hp2:=Lib.hid hp2
 have Hp3:=Lib.hid hp3
 have Hrw:=Lib.hid hrw
 clear hp1 hp2 hp3 hrw h hb hp hN hy ht rN hL
 go_enter Tryz.func12,Tryz.ntmps12
 refine en0 ?_
 intro u hG hB hF
 refine wp_seq (rsE A5 [0,0,1,0,1,0,1,0] hB hG fun L hL=>?_)
 refine gs ?_
 refine gmw (C:=fun v=>Hp1.out _) ?_
 refine gs ?_
 refine gmw (C:=fun v=>Hp2.out _) ?_
 refine gs ?_
 refine gxd (X:=(Ax × List Zw)) (fun x : Ax × List Zw=>.slice x.1.1 N x.1.2) (fun x W=>L9 w.heap.size Lw x.2 W ∧ x.2.length = N ∧ W.ownsRow w.heap.size 26 1 (.slice x.1.1 N x.1.2) N (x.2.map zwV)) (fun x u u' hg h=>⟨L9.grow hg h.1,h.2.1,D3 h.2.2 hg⟩) (fun x17=>?_) (C:=by (rintro v ⟨hgu,hB,hG,-⟩;exact Hrw.out _ hG))
 refine gs ?_
 refine geT hL ?_
 clear hB hG hL L
 rintro u ⟨⟨-,hB,hG,-⟩,hx17⟩
 obtain ⟨⟨RA,RC⟩,ws0⟩:=x17
 obtain ⟨hRF,hwl,hro⟩:=hx17
 simp only at hRF hwl hro
 refine wp_seq ?_
 refine r0T ?_
 refine wp_block ?_
 clear hB hF
 go_loopw [10] (fun s0 wr=>∃ (i : Nat) (ws : List Zw),2 ≤ i ∧ s0 = .int .i64 i ∧ ws.length = N ∧ L9 w.heap.size Lw ws wr ∧ wr.ownsRow w.heap.size 26 1 (.slice RA N RC) N (ws.map zwV) ∧ A3 w wr) (fun s0 _=>N - (intOf s0).toNat)
 case atStart=>exact ⟨2,ws0,Nat.le_refl _,rfl,hwl,hRF,hro,hG⟩
 case round =>
  clear hG hRF hwl hro ws0
  obtain ⟨i,ws,hi,rfl,hwl,hRF,hro,hG⟩:=hrel
  obtain ⟨u,rfl⟩ : ∃ x,x = wr:=⟨_,rfl⟩
  have hB:=Bx.nil u
  have hF:=Fr.nil w
  have Ho:=Lib.hid hro
  rcases Nat.lt_or_ge i N with hlt | hge
  ·have hdec : decide ((i : Int) < (N : Int)) = true:=by simp;omega
   have hdecn : decide (i < N) = true:=by simp;omega
   by_cases ht0 : t = 0
   ·have f0 : (t == 0) = true:=by simp [ht0]
    have f0d : decide (t = 0) = true:=by simp [ht0]
    obtain ⟨i1,hi1⟩ : ∃ x,i - 1 = x:=⟨_,rfl⟩
    have fi : IntKind.i64.wrap ((i : Int) - 1) = (i1 : Int):=by rw [IntWalk.i64_in _ (by omega)];omega
    have hii : (i : Int) < (N : Int):=by omega
    have hi1i : (i1 : Int) < (N : Int):=by omega
    have hiw : i1 < ws.length:=by omega
    obtain ⟨g,cap,e9,-,-⟩:=A0L Ho.out (by omega)
    cases e9
    have hgl:=(Ho.out.lt g rfl).2
    have hla : ∀ W,A3 u W → W.cell? ⟨g,i1,none⟩ = some (.slice ws[i1].1.1 Lw ws[i1].1.2):=fun W hg=>by
     refine (hg.cell (p:=⟨g,i1,none⟩) hgl).trans ?_
     rw [Ho.out.cellAt i1 (by omega),List.getElem?_map,List.getElem?_eq_getElem hiw]
     show some (Value.slice ws[i1].1.1 ws[i1].2.length ws[i1].1.2) = _
     rw [(hRF _ (List.getElem_mem hiw)).2.2.1]
    have Hla:=Lib.hid hla
    clear hla hgl hro
    refine wp_seq ?_
    refine wp_seq (rsE A5 [0,0,0,0,0,0,1,0,0] hB hG fun L hL=>?_)
    refine gs ?_
    first | refine gmw (C:=fun v=>Hp3.out _) ?_ | refine E4 ?_
    refine gs ?_
    refine geT hL ?_
    clear hB hG hL L
    rintro u ⟨hgu,hB,hG,-⟩
    have hRF2:=L9.grow hgu hRF
    have Hla2:=Lib.hid (fun W hg=>Hla.out W (hgu.trans hg))
    have Ho2:=Lib.hid (D3 Ho.out hgu)
    clear hRF Ho Hla
    have hRF:=hRF2
    have Ho:=Ho2
    have Hla:=Hla2
    clear hRF2 Ho2 Hla2
    clear hgu
    refine wp_cond_true (rfl) ?_
    refine wp_skip ?_
    refine A4 ?_
    refine wp_seq ?_
    refine wp_block ?_
    have q1:=Hla.out u (A3.refl u)
    have c9:=Ho.out.cellAt i (by omega)
    rw [List.getElem?_map,List.getElem?_eq_getElem (by omega)] at c9
    have f9:=fun j=>Ho.out.frozenAt j
    refine r0E ?_
    clear c9 f9
    generalize hu0 : World.setCell u _ _ = u0
    have hu1 : E0 u g (i * 1) [Value.slice ws[i1].1.1 Lw ws[i1].1.2] = u0:=by rw [Nat.mul_one];exact hu0
    have ho3:=Ho.out
    rw [← A6w (ws.map zwV)] at ho3
    have hP:=A1M (enc:=fun v : Value=>[v]) (size:=1) (fun _=>rfl) ho3 i (.slice ws[i1].1.1 Lw ws[i1].1.2) (by rw [List.length_map];omega)
    rw [A6w,hu1] at hP
    have hRF2:=L9.set (hRF.kept Ho.out hP.2) i (List.getElem_mem hiw)
    have hG2:=A0A Ho.out hG hP.2
    have Ho2 : u0.ownsRow w.heap.size 26 1 (.slice (some ⟨g,0,none⟩) N RC) N ((ws.set i ws[i1]).map zwV):=by
     have e:=hP.1
     rw [List.map_set]
     show u0.ownsRow _ _ _ _ _ ((ws.map zwV).set i (.slice ws[i1].1.1 ws[i1].2.length ws[i1].1.2))
     rw [(hRF _ (List.getElem_mem hiw)).2.2.1]
     exact e
    clear hG hB Ho hP hu1 hu0 ho3 Hla
    have hG:=hG2
    have Ho:=Lib.hid Ho2
    clear hG2 Ho2
    obtain ⟨u,rfl⟩ : ∃ x,x = u0:=⟨_,rfl⟩
    have hB:=Bx.nil u
    refine D4 ?_
    refine A4 ?_
    refine r0E ?_
    refine A4 ?_
    go_roundw
    case rel=>exact ⟨i + 3,ws.set i ws[i1],by omega,by go_num,by rw [List.length_set];exact hwl,hRF2,Ho.out,hG⟩
    case measure=>simp [intOf];omega
   ·have f0 : (t == 0) = false:=by simp [ht0]
    have f0d : decide (t = 0) = false:=by simp [ht0]
    clear hro
    refine wp_seq ?_
    refine wp_seq (rsE A5 [0,0,0,0,0,0,1,0,0] hB hG fun L hL=>?_)
    refine gs ?_
    first | refine gmw (C:=fun v=>Hp3.out _) ?_ | refine E4 ?_
    refine gs ?_
    refine geT hL ?_
    clear hB hG hL L
    rintro u ⟨hgu,hB,hG,-⟩
    have hRF2:=L9.grow hgu hRF
    have Ho2:=Lib.hid (D3 Ho.out hgu)
    clear hRF Ho
    have hRF:=hRF2
    have Ho:=Ho2
    clear hRF2 Ho2
    clear hgu
    refine wp_cond_false (rfl) ?_
    refine wp_exit ?_
    refine B1 ?_
    refine B1 ?_
    refine E3 ?_
    refine A4 ?_
    refine wp_seq ?_
    obtain ⟨A2,c2,e9,-,hL,-⟩:=A5D Ho.out (fun i r hi=>⟨(hRF r (List.mem_of_getElem? hi)).1,(hRF r (List.mem_of_getElem? hi)).2.1⟩)
    cases e9
    have HL:=Lib.hid hL
    have HK:=Lib.hid (A6x hRF hwl)
    clear hL
    refine r0N ?_
    refine rt Tryz.results12 ?_
    exact ⟨((_,_),_),rfl,⟨HK.out,HL.out⟩,hG⟩
  ·have hdec : decide ((i : Int) < (N : Int)) = false:=by simp;omega
   have hdecn : decide (i < N) = false:=by simp;omega
   clear hro
   refine wp_seq ?_
   refine wp_seq (rsE A5 [0,0,0,0,0,0,1,0,0] hB hG fun L hL=>?_)
   refine gs ?_
   first | refine gmw (C:=fun v=>Hp3.out _) ?_ | refine E4 ?_
   refine gs ?_
   refine geT hL ?_
   clear hB hG hL L
   rintro u ⟨hgu,hB,hG,-⟩
   have hRF2:=L9.grow hgu hRF
   have Ho2:=Lib.hid (D3 Ho.out hgu)
   clear hRF Ho
   have hRF:=hRF2
   have Ho:=Ho2
   clear hRF2 Ho2
   clear hgu
   refine wp_cond_false (rfl) ?_
   refine wp_exit ?_
   refine B1 ?_
   refine B1 ?_
   refine E3 ?_
   refine A4 ?_
   refine wp_seq ?_
   obtain ⟨A2,c2,e9,-,hL,-⟩:=A5D Ho.out (fun i r hi=>⟨(hRF r (List.mem_of_getElem? hi)).1,(hRF r (List.mem_of_getElem? hi)).2.1⟩)
   cases e9
   have HL:=Lib.hid hL
   have HK:=Lib.hid (A6x hRF hwl)
   clear hL
   refine r0N ?_
   refine rt Tryz.results12 ?_
   exact ⟨((_,_),_),rfl,⟨HK.out,HL.out⟩,hG⟩
theorem A3V (w : World) (l : List Rat) : Lq (w.alloc (.cells (l.flatMap qL).toArray 49)) (some ⟨w.heap.size,0,none⟩) l:=fun _ =>
 ⟨w.heap.size,0,rfl,by rw [G1];omega,fun i q hi j v hj=>by
  have hj5 : j < 5:=(List.getElem?_eq_some_iff.1 hj).1
  rw [Nat.zero_add,Blk.cell (Blk.new w 49 _),List.getElem?_toArray,A7Y l hi hj5,hj]⟩
theorem B1h (w : World) (rs : List Rq) (h : ∀ r ∈ rs,Lq w r.1 r.2.2) : Lrq (w.alloc (.cells (rs.map V5).toArray 35)) (some ⟨w.heap.size,0,none⟩) rs:=fun _ =>
 ⟨w.heap.size,0,rfl,by rw [G1];omega,fun i r hi=>⟨by rw [Nat.zero_add,Blk.cell (Blk.new w 35 _),List.getElem?_toArray,List.getElem?_map,hi];rfl,(h r (List.mem_of_getElem? hi)).grow (A3.alloc w _)⟩⟩
def A3J (i : Nat) : Rat:=G0 (F7 [[D6 0],[D6 3],[D6 4]] i) [D6 2] 1
theorem B0q : C9 2 (D5 A3J 3) = [(1,E7 1 1),(0,E7 4 1)]:=by
 have e : D5 A3J 3 = [(0,E7 4 1),(1,E7 1 1),(2,E7 4 1)]:=by decide +kernel
 have h : [(1,E7 1 1),(0,E7 4 1),(2,E7 4 1)] = srt (D5 A3J 3):=by
  rw [e]
  refine A0g ?_ ?_
  ·exact List.Perm.swap _ _ _
  ·decide +kernel
 unfold C9
 rw [← h]
 rfl
theorem A2Q (w : World) (HT : Tab w) : Calls Tryz.prog 18 #[] w fun e w'=>e = .returned (.bool true) ∧ A3 w w':=by
 have hBB : 100000 ≤ BIG:=by unfold BIG;omega
 have q0 : qs (D6 0) ≤ 41:=A2h 0 (by omega)
 have q2 : qs (D6 2) ≤ 41:=A2h 2 (by omega)
 have q3 : qs (D6 3) ≤ 41:=A2h 3 (by omega)
 have q4 : qs (D6 4) ≤ 41:=A2h 4 (by omega)
 have hpl : ∀ (W : World) (b1 b2 b3 b4 b5 : Nat),Lrq W (some ⟨b4,0,none⟩) [(some ⟨b1,0,none⟩,1,[D6 0]),(some ⟨b2,0,none⟩,1,[D6 3]),(some ⟨b3,0,none⟩,1,[D6 4])] → Lq W (some ⟨b5,0,none⟩) [D6 2] → Tab W → Calls Tryz.prog 15 #[.slice (some ⟨b4,0,none⟩) 3 3,.slice (some ⟨b5,0,none⟩) 1 1,.int .i64 2] W (G8 (fun x : Ax=>.tuple #[.slice x.1 2 x.2,.int .i64 0]) (fun x W=>Lh W x.1 [(1,E7 1 1),(0,E7 4 1)]) W):=fun W b1 b2 b3 b4 b5 h1 h2 hT=>by
  have h:=B5n (some ⟨b4,0,none⟩) (some ⟨b5,0,none⟩) [(some ⟨b1,0,none⟩,1,[D6 0]),(some ⟨b2,0,none⟩,1,[D6 3]),(some ⟨b3,0,none⟩,1,[D6 4])] 3 1 3 1 2 [D6 2] rfl (by omega) (by omega) (by omega) (by omega) (fun r hr=>by
   simp only [List.mem_cons,List.not_mem_nil,or_false] at hr
   rcases hr with rfl | rfl | rfl <;> rfl) rfl (by omega) (by omega) 41 (fun r hr x hx=>by
   simp only [List.mem_cons,List.not_mem_nil,or_false] at hr
   rcases hr with rfl | rfl | rfl <;> (simp only [List.mem_cons,List.not_mem_nil,or_false] at hx;subst hx;assumption)) (fun x hx=>by
   simp only [List.mem_cons,List.not_mem_nil,or_false] at hx
   subst hx
   assumption) (by omega) W h1 h2 hT
  have e : (fun i=>G0 (F7 ([((some ⟨b1,0,none⟩,1,[D6 0]) : Rq),(some ⟨b2,0,none⟩,1,[D6 3]),(some ⟨b3,0,none⟩,1,[D6 4])].map (·.2.2)) i) [D6 2] 1) = A3J:=rfl
  rw [e,B0q] at h
  exact h
 have z11 : qs (E7 1 1) ≤ LIM:=Nat.le_trans (A3x 0 0 1 1 5 (by omega) (by omega) (by omega)) (by unfold LIM;omega)
 have z41 : qs (E7 4 1) ≤ LIM:=Nat.le_trans (A3x 0 0 4 1 5 (by omega) (by omega) (by omega)) (by unfold LIM;omega)
 have Hpl:=Lib.hid hpl
 clear hpl q0 q2 q3 q4
 go_enter Tryz.func18,Tryz.ntmps18
 refine en0 ?_
 intro u hG hB hF
 refine wp_seq (rsE A5 [1,1,1,1,1,1,1,0] hB hG fun L hL=>?_)
 refine gmw (C:=fun v=>A2m 0 (by omega) (by omega) _) ?_
 refine gx Nat (fun b=>.slice (some ⟨b,0,none⟩) 1 1) (fun b W=>Lq W (some ⟨b,0,none⟩) [D6 0]) (fun _ _ _ hg h=>h.grow hg) rfl ?_ (fun x5=>?_)
 ·(rintro v ⟨hgu,hB,hG,-⟩ N hN;go_simp;exact hN v.heap.size _ (A3V v [D6 0]) (A3.alloc _ _))
 refine okf (by simp only [Act.put,List.setIfInBounds_toArray,List.set_cons_succ,List.set_cons_zero];exact rfl) ?_
 refine gmw (C:=fun v=>A2m 3 (by omega) (by omega) _) ?_
 refine gx Nat (fun b=>.slice (some ⟨b,0,none⟩) 1 1) (fun b W=>Lq W (some ⟨b,0,none⟩) [D6 3]) (fun _ _ _ hg h=>h.grow hg) rfl ?_ (fun x7=>?_)
 ·(rintro v ⟨⟨hgu,hB,hG,-⟩,hx5⟩ N hN;go_simp;exact hN v.heap.size _ (A3V v [D6 3]) (A3.alloc _ _))
 refine okf (by simp only [Act.put,List.setIfInBounds_toArray,List.set_cons_succ,List.set_cons_zero];exact rfl) ?_
 refine gmw (C:=fun v=>A2m 4 (by omega) (by omega) _) ?_
 refine gx Nat (fun b=>.slice (some ⟨b,0,none⟩) 1 1) (fun b W=>Lq W (some ⟨b,0,none⟩) [D6 4]) (fun _ _ _ hg h=>h.grow hg) rfl ?_ (fun x9=>?_)
 ·(rintro v ⟨⟨⟨hgu,hB,hG,-⟩,hx5⟩,hx7⟩ N hN;go_simp;exact hN v.heap.size _ (A3V v [D6 4]) (A3.alloc _ _))
 refine okf (by simp only [Act.put,List.setIfInBounds_toArray,List.set_cons_succ,List.set_cons_zero];exact rfl) ?_
 refine gx Nat (fun b=>.slice (some ⟨b,0,none⟩) 3 3) (fun b W=>Lrq W (some ⟨b,0,none⟩) [(some ⟨x5,0,none⟩,1,[D6 0]),(some ⟨x7,0,none⟩,1,[D6 3]),(some ⟨x9,0,none⟩,1,[D6 4])]) (fun _ _ _ hg h=>h.grow hg) rfl ?_ (fun x10=>?_)
 ·(rintro v ⟨⟨⟨⟨hgu,hB,hG,-⟩,hx5⟩,hx7⟩,hx9⟩ N hN;go_simp;exact hN v.heap.size _ (B1h v [(some ⟨x5,0,none⟩,1,[D6 0]),(some ⟨x7,0,none⟩,1,[D6 3]),(some ⟨x9,0,none⟩,1,[D6 4])] (fun r hr=>by simp only [List.mem_cons,List.not_mem_nil,or_false] at hr;rcases hr with rfl | rfl | rfl <;> assumption)) (A3.alloc _ _))
 refine okf (by simp only [Act.put,List.setIfInBounds_toArray,List.set_cons_succ,List.set_cons_zero];exact rfl) ?_
 refine gs ?_
 refine geT hL ?_
 clear hB hG hL L
 rintro u ⟨⟨⟨⟨⟨hgu,hB,hG,-⟩,hx5⟩,hx7⟩,hx9⟩,hx10⟩
 have HR:=Lib.hid hx10
 clear hx5 hx7 hx9 hx10
 clear hgu
 refine wp_seq (rsE A5 [0,1,1,1,0,0,0,0,0] hB hG fun L hL=>?_)
 refine gs ?_
 refine gmw (C:=fun v=>A2m 2 (by omega) (by omega) _) ?_
 refine gx Nat (fun b=>.slice (some ⟨b,0,none⟩) 1 1) (fun b W=>Lq W (some ⟨b,0,none⟩) [D6 2]) (fun _ _ _ hg h=>h.grow hg) rfl ?_ (fun x14=>?_)
 ·(rintro v ⟨hgu,hB,hG,-⟩ N hN;go_simp;exact hN v.heap.size _ (A3V v [D6 2]) (A3.alloc _ _))
 refine okf (by simp only [Act.put,List.setIfInBounds_toArray,List.set_cons_succ,List.set_cons_zero];exact rfl) ?_
 refine gxd (X:=Ax) (fun x : Ax=>.tuple #[.slice x.1 2 x.2,.int .i64 0]) (fun x W=>Lh W x.1 [(1,E7 1 1),(0,E7 4 1)]) (fun x u u' hg h=>Lh.grow h hg) (fun x15=>?_) (C:=by (rintro v ⟨⟨hgu,hB,hG,-⟩,hx14⟩;exact Hpl.out _ _ _ _ x10 x14 (HR.out.grow hgu) hx14 (HT.grow hG)))
 refine gs ?_
 refine geT hL ?_
 clear hB hG hL L
 rintro u ⟨⟨⟨hgu,hB,hG,-⟩,hx14⟩,hx15⟩
 have HL:=Lib.hid hx15
 clear HR hx14 hx15
 clear hgu
 obtain ⟨A15,c15⟩:=x15
 obtain ⟨g,off,rfl,hgl,hc⟩:=HL.out (by simp)
 have hcl : ∀ W,A3 u W → ∀ i h,[((1,E7 1 1) : Ht),(0,E7 4 1)][i]? = some h → ∀ j v,(htL h)[j]? = some v → W.cell? ⟨g,off + i * 6 + j,none⟩ = some v:=fun W hg i h hi j v hj=>(hg.cell (p:=⟨g,off + i * 6 + j,none⟩) hgl).trans (hc i h hi j v hj)
 have hA : ∀ W,A3 u W → _:=fun W hg=>And.intro (hcl W hg 0 _ rfl 0 _ rfl) (And.intro (hcl W hg 0 _ rfl 1 _ rfl) (And.intro (hcl W hg 0 _ rfl 2 _ rfl) (And.intro (hcl W hg 0 _ rfl 3 _ rfl) (And.intro (hcl W hg 0 _ rfl 4 _ rfl) (hcl W hg 0 _ rfl 5 _ rfl)))))
 have hB' : ∀ W,A3 u W → _:=fun W hg=>And.intro (hcl W hg 1 _ rfl 0 _ rfl) (And.intro (hcl W hg 1 _ rfl 1 _ rfl) (And.intro (hcl W hg 1 _ rfl 2 _ rfl) (And.intro (hcl W hg 1 _ rfl 3 _ rfl) (And.intro (hcl W hg 1 _ rfl 4 _ rfl) (hcl W hg 1 _ rfl 5 _ rfl)))))
 simp only [Nat.zero_mul,Nat.one_mul,Nat.add_zero,Nat.add_assoc,Nat.reduceAdd] at hA hB'
 have HA:=Lib.hid hA
 have HB:=Lib.hid hB'
 clear hcl hc hA hB' HL hgl
 refine wp_seq (rsE A5 [0,0,0,0,0,0,0,0,0,0,0,0,0,0,0,0,0,0,0,1,0,0,0,0,0,0,0,0,0,0,0,0,0,1,0,0] hB hG fun L hL=>?_)
 repeat first | refine gya ?_ | refine gyr ?_ | refine gna ?_ | refine gyb (by (rintro v ⟨hgu,hB,hG,-⟩ N hN;have r:=hB.r;simp only [BxR] at r;obtain ⟨a0,a1,a2,a3,a4,a5⟩:=HA.out v hgu;obtain ⟨b0,b1,b2,b3,b4,b5⟩:=HB.out v hgu;go_simp;exact hN)) ?_
 first | refine gmw (C:=fun v=>A75 1 1 (by omega) (by omega) (by omega) (by omega) (by omega) z11 _) ?_ | refine E4 ?_
 repeat first | refine gya ?_ | refine gyr ?_ | refine gna ?_ | refine gyb (by (rintro v ⟨hgu,hB,hG,-⟩ N hN;have r:=hB.r;simp only [BxR] at r;obtain ⟨a0,a1,a2,a3,a4,a5⟩:=HA.out v hgu;obtain ⟨b0,b1,b2,b3,b4,b5⟩:=HB.out v hgu;go_simp;exact hN)) ?_
 first | refine gmw (C:=fun v=>A75 4 1 (by omega) (by omega) (by omega) (by omega) (by omega) z41 _) ?_ | refine E4 ?_
 refine gs ?_
 refine geT hL ?_
 clear hB hG hL L
 rintro u ⟨-,hB,hG,-⟩
 refine rt Tryz.results18 ?_
 exact ⟨rfl,hG⟩
theorem B4n (g L cap : Nat) (P : List Rat) (hP : P.length = L) (h1 : 1 ≤ L) (hc : L ≤ cap) (w : World) (h : Lz w (some ⟨g,0,none⟩) P) : ∃ A' : Option Addr,(∀ W,(Instr.slice 26 (.slice (some ⟨g,0,none⟩) L cap) (some (.int .i64 1)) none none).run Tryz.prog W = .ok (.slice A' (L - 1) (cap - 1)) W) ∧ Lz w A' (P.drop 1):=by
 refine ⟨if cap = 1 then some ⟨g,0,none⟩ else (some (⟨g,0,none⟩ : Addr)).map (·.add 3),fun W=>?_,fun hne=>?_⟩
 ·have h3 : (1 : Int) ≤ (L : Int):=by omega
  go_simp
 ·have h2 : 2 ≤ L:=by
   rcases Nat.lt_or_ge 1 L with h | h
   ·exact h
   ·exact absurd (List.drop_eq_nil_of_le (by omega)) hne
  rw [if_neg (by omega)]
  obtain ⟨b,off,e,hb,hc⟩:=h (fun e=>by rw [e] at hP;simp at hP;omega)
  cases e
  refine ⟨g,3,by simp [Addr.add],hb,fun i hi=>?_⟩
  rw [List.length_drop] at hi
  obtain ⟨p,h4,h5⟩:=hc (i + 1) (by omega)
  have e : gq (P.drop 1) i = gq P (i + 1):=by unfold gq;rw [List.getElem?_drop,Nat.add_comm]
  rw [e]
  refine ⟨p,h4,?_⟩
  rw [show 3 + i * 3 = 0 + (i + 1) * 3 by omega]
  exact h5
theorem B2z {rs : List (List Rat)} {q : List Rat} {N L : Nat} (hr : rs.length = N) (hrl : ∀ r ∈ rs,r.length = L ∧ ∀ y ∈ r,qs y ≤ 50) (hq : q.length = L) (hs : ∀ x ∈ q,qs x ≤ 50) (hL : L ≤ 3) : ∀ x ∈ D5 (fun i=>G0 (F7 rs i) q L) N,qs x.2 ≤ 1000:=fun x hx=>by
 unfold D5 at hx
 obtain ⟨i,hi,rfl⟩:=List.mem_map.1 hx
 have hil : i < rs.length:=by have := List.mem_range.1 hi;omega
 have e : F7 rs i = rs[i]:=by unfold F7;rw [List.getElem?_eq_getElem hil];rfl
 obtain ⟨h1,h2⟩:=hrl _ (List.getElem_mem hil)
 have h3:=A0M h1 hq h2 hs L (Nat.le_refl _)
 have h4 : L * (4 * 50 + 3) ≤ 3 * (4 * 50 + 3):=Nat.mul_le_mul_right _ hL
 show qs (G0 (F7 rs i) q L) ≤ 1000
 rw [e]
 unfold G0
 omega
theorem B2J {k : Nat} {l : List Ht} {x : Ht} (h : x ∈ C9 k l) : x ∈ l:=(Q3 l).mem_iff.1 (List.mem_of_mem_take h)
theorem B4b {N L : Nat} {rs rs' : List Rq} (h : A0N N L rs) (he : rs'.map (·.2.2) = rs.map (·.2.2)) : A0N N L rs':=by
 refine ⟨by have := congrArg List.length he;rw [List.length_map,List.length_map] at this;rw [this];exact h.1,fun r hr=>?_⟩
 have h1 : r.2.2 ∈ rs.map (·.2.2):=by rw [← he];exact List.mem_map_of_mem (f:=fun r : Rq=>r.2.2) hr
 obtain ⟨z,hz,e⟩:=List.mem_map.1 h1
 rw [← e]
 exact h.2 z hz
theorem TreeO.parts {B n : Nat} {R N : Ax} {rs : List Rq} {ns : List NdT} {W : World} (h : TreeO B n R N rs ns W) : Lrq W R.1 rs ∧ Le ndL 4 W N.1 ns:=by
 obtain ⟨A,c,e,-,hL,-⟩:=A67 h.row h.rows
 obtain ⟨A2,c2,e2,-,hN,-⟩:=A4g (enc:=ndL) (k:=4) (fun _=>rfl) (by omega) h.nodes
 cases e
 cases e2
 exact ⟨hL,hN⟩
theorem A3X {u : World} {B n b k : Nat} {e t : TypeId} {v : Value} {xs : List Value} {cs : Array Value} (h : u.ownsRow B e k v n xs) (hb : Blk u b t cs) (ht : e ≠ t) : v.ownBlock ≠ some b:=fun e1=>by
 obtain ⟨_,h | ⟨g,cap,cur,rfl,_,hh,_⟩⟩:=h
 ·rw [h.1] at e1;cases e1
 ·have e2 : g = b:=Option.some.inj e1
  subst e2
  have hb' : u.heap[g]? = _:=hb
  rw [hh] at hb'
  cases hb'
  exact ht rfl
theorem Y3 {u u' : World} {B n b k i : Nat} {e t : TypeId} {v : Value} {xs vs : List Value} {cs : Array Value} (h : u.ownsRow B e k v n xs) (hb : Blk u b t cs) (ht : e ≠ t) (hu : E0 u b i vs = u') : u'.ownsRow B e k v n xs:=W8 h (A3X h hb ht) hu
theorem TreeO.put {B n b i : Nat} {R N : Ax} {rs : List Rq} {ns : List NdT} {W W' : World} {t : TypeId} {cs : Array Value} {vs : List Value} (h : TreeO B n R N rs ns W) (hb : Blk W b t cs) (h1 : 35 ≠ t) (h2 : 49 ≠ t) (h3 : 88 ≠ t) (hu : E0 W b i vs = W') : TreeO B n R N rs ns W' :=
 ⟨fun r hr=>Y3 (h.rows r hr) hb h2 hu,Y3 h.row hb h1 hu,Y3 h.nodes hb h3 hu⟩
theorem B2N {u : World} {B n : Nat} {N : Ax} {ns : List NdT} (h : u.ownsRow B 118 4 (.slice N.1 n N.2) n (ns.flatMap ndL)) : Le ndL 4 u N.1 ns:=by
 obtain ⟨A2,c2,e2,-,hN,-⟩:=A4g (enc:=ndL) (k:=4) (fun _=>rfl) (by omega) h
 cases e2
 exact hN
def A0E (B : Nat) (A : Option Addr) (ns : List NdT) (W : World) : Prop:=∃ (g N cap : Nat) (l : List NdT),W.ownsRow B 118 4 (.slice (some ⟨g,0,none⟩) N cap) N (l.flatMap ndL) ∧ ∀ W' : World,W'.ownsRow B 118 4 (.slice (some ⟨g,0,none⟩) N cap) N (l.flatMap ndL) → Le ndL 4 W' A ns
theorem A0E.le {B : Nat} {A : Option Addr} {ns : List NdT} {W : World} (h : A0E B A ns W) : Le ndL 4 W A ns:=by
 obtain ⟨g,N,cap,l,h1,h2⟩:=h
 exact h2 W h1
theorem A0E.grow {B : Nat} {A : Option Addr} {ns : List NdT} {W W' : World} (h : A0E B A ns W) (hg : A3 W W') : A0E B A ns W':=by
 obtain ⟨g,N,cap,l,h1,h2⟩:=h
 exact ⟨g,N,cap,l,D3 h1 hg,h2⟩
theorem A0E.put {B b i : Nat} {A : Option Addr} {ns : List NdT} {W W' : World} {t : TypeId} {cs : Array Value} {vs : List Value} (h : A0E B A ns W) (hb : Blk W b t cs) (ht : 118 ≠ t) (hu : E0 W b i vs = W') : A0E B A ns W':=by
 obtain ⟨g,N,cap,l,h1,h2⟩:=h
 exact ⟨g,N,cap,l,Y3 h1 hb ht hu,h2⟩
end Go.Proofs.YtjmopgepnndckaaGreatDoor
