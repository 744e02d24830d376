/-
  The claim's theorem: NearNe NearKn NearKnownZ.
-/
import Derived.Test.YtjmopgepnndckaaGreatDoorK46
import Derived.Test.YtjmopgepnndckaaGreatDoorK48
import Derived.Test.YtjmopgepnndckaaGreatDoorK49
import Derived.Laws.EntriesVeiled
set_option linter.unusedSimpArgs false
set_option linter.unusedVariables false
set_option maxHeartbeats 16000000
set_option maxRecDepth 100000
namespace Go.Proofs.YtjmopgepnndckaaGreatDoor
open Go Go.RowKit Go.Shelf
theorem A6h (d : Option Tmp) (ty : TypeId) (pos : String) (af : Array Edge) (gd : Option (Nat × Bool)) : I1 Tryz.prog ⟨d,.alloc 136,ty,pos,af,gd⟩ = .cells #[.slice none 0 0,.slice none 0 0,.slice none 0 0,.int .i64 0,.nilFunc,.slice none 0 0,.int .i64 0] 136:=by kernel_rfl
theorem A3N : ∀ t ∈ [45,47,49,136],J7 Tryz.prog t:=by
 intro t ht
 simp only [List.mem_cons,List.not_mem_nil,or_false] at ht
 rcases ht with rfl | rfl | rfl | rfl
 ·exact fun _ _ _ _ _ _=>by rw [F8];kernel_rfl
 ·exact fun _ _ _ _ _ _=>by rw [A0E];kernel_rfl
 ·exact fun _ _ _ _ _ _=>by rw [K9];kernel_rfl
 ·exact fun _ _ _ _ _ _=>by rw [A6h];kernel_rfl
theorem B01 (b99 keep s n m L t : Nat) (R N Qa : Ax) (rs : List Rq) (ns : List NdT) (q : List Rat) (MF : FuncId) (MC : Array Value) (mf : List Ht → Option Rat) (I : World → Prop) (w0 : World) (hb : w0.heap.size ≤ b99) (hk : keep ≤ 100000) (hn : rs.length = n) (hn2 : n ≤ 300) (hm : ns.length = m) (hm2 : m ≤ 300) (hL2 : L ≤ 20) (hq : q.length = L) (hrl : ∀ r ∈ rs,r.2.2.length = L)
  (hs1 : ∀ r ∈ rs,∀ x ∈ r.2.2,qs x ≤ t) (hs2 : ∀ x ∈ q,qs x ≤ t) (hts : 100 * t + 200 ≤ s) (hBz : 4 * s + 1000 ≤ BIG)
  (HM : MostOK b99 w0.heap.size (.slice R.1 n R.2) (.slice N.1 m N.2) (.slice Qa.1 L Qa.2) (.int .i64 (keep : Nat)) MF MC mf I w0) (hms : ∀ hs m,(∀ x ∈ hs,qs x.2 ≤ s) → mf hs = some m → qs m ≤ s)
  (hLR : Lrq w0 R.1 rs) (hLN : Le ndL 4 w0 N.1 ns) (hLQ : Lq w0 Qa.1 q) (hfine : A1b (rs.map (·.2.2)) L ns) (HT0 : Tab w0) (f : Nat) : A39 b99 keep s (.slice R.1 n R.2) (.slice N.1 m N.2) (.slice Qa.1 L Qa.2) MF MC mf I w0 (rs.map (·.2.2)) q L ns f:=by
 induction f using Nat.strongRecOn with
 | ind f ih=>exact B29 b99 keep s n m L t R N Qa rs ns q MF MC mf I w0 hb hk hn hn2 hm hm2 hL2 hq hrl hs1 hs2 hts hBz HM hms hLR hLN hLQ hfine HT0 f ih
theorem B1L (args : Array Value) (W : World) : Sem.run Tryz.prog (callFunc 72 args) W = .ok (.enter 72 args) W:=by kernel_rfl
theorem B38 {k s : Nat} {hs : List Ht} {m : Rat} (h : ∀ x ∈ hs,qs x.2 ≤ s) (hm : H9 k hs = some m) : qs m ≤ s:=by
 unfold H9 at hm
 split at hm
 ·cases hm
 ·cases hl : hs.getLast? with
  | none=>rw [hl] at hm;cases hm
  | some x =>
   rw [hl] at hm
   cases hm
   exact h x (List.mem_of_getLast? hl)
theorem B3N (b9 b5 n m L k : Nat) (R N Qa : Ax) (w : World) (hk0 : 0 < k) (hk : k ≤ 300) : MostOK b9 w.heap.size (.slice R.1 n R.2) (.slice N.1 m N.2) (.slice Qa.1 L Qa.2) (.int .i64 (k : Nat)) 72 #[.pointer (some ⟨b9,0,none⟩),.pointer (some ⟨b5,0,none⟩)] (H9 k) (fun W=>Blk W b5 3 #[.int .i64 (k : Nat)]) w :=
 ⟨B1L,fun HA HC hs lk W hg hI hl hS=>A78 b9 b5 k hs.length HC HA hs rfl hl (by omega) hk0 W (fun W' hg'=>(hS.blk.grow hg').cell 5) (fun W' hg'=>(hI.grow hg').cell 0) hS.lh.1,fun W W' hk hI=>hk.blk _ _ _ (by decide) (by decide) hI⟩
theorem A9P (R N Qa : Ax) (rs : List Rq) (n L m k : Nat) (ns : List NdT) (q : List Rat) (hn : rs.length = n) (hn1 : 1 ≤ n) (hn2 : n ≤ 300) (hL1 : 1 ≤ L) (hL2 : L ≤ 20) (hrl : ∀ r ∈ rs,r.2.2.length = L) (hm : ns.length = m) (hq : q.length = L) (hk0 : 0 < k) (hk : k ≤ 300) (t : Nat) (hs1 : ∀ r ∈ rs,∀ x ∈ r.2.2,qs x ≤ t) (hs2 : ∀ x ∈ q,qs x ≤ t) (hBz : 400 * t + 2000 ≤ BIG)
  (hc : G4 (rs.map (·.2.2)) L ns = 0) (w : World) (hR : Lrq w R.1 rs) (hN : Le ndL 4 w N.1 ns) (hQ : Lq w Qa.1 q) (HT : Tab w) :
  Calls Tryz.prog 38 #[M0 R n N m,.slice Qa.1 L Qa.2,.int .i64 (k : Nat)] w (N9 (fun x : Ax × Nat=>.tuple #[.slice x.1.1 (min k n) x.1.2,.int .i64 (x.2 : Nat),.int .i64 0]) (fun x W=>Lh W x.1.1 (D4 k (G0 (I8 (rs.map (·.2.2)) q L) n)) ∧ min k n ≤ x.2 ∧ x.2 ≤ n) w):=by
 have hXl : (rs.map (·.2.2)).length = n:=by rw [List.length_map,hn]
 obtain ⟨s,hsz,hlay,hsn,hnl⟩:=B0r hc
 have hmn : m = n:=by omega
 have hck : ∀ W,A3 w W → Calls Tryz.prog 32 #[M0 R n N m] W fun e w'=>e = .returned (.int .i64 0) ∧ A3 W w':=fun W hg=>by
  have h:=A5W R N rs n L m ns hn hn1 hn2 hL1 hL2 hrl hm (by omega) t hs1 (by omega) W (hR.grow hg) (hN.grow hg)
  rw [hc] at h
  exact h
 have hlk:=B2U (q:=q) (keep:=k) (most:=H9 k) hc hsn
 have hbs:=A9K (q:=q) hk0 hc hlay hsn
 rw [hXl] at hlk hbs
 have hbl : (D4 k (G0 (I8 (rs.map (·.2.2)) q L) n)).length = min k n:=by rw [A1w];unfold G0;simp
 have hvi:=fun (b9 b5 : Nat) (hb : w.heap.size ≤ b9)=>B01 b9 k (100 * t + 200) n m L t R N Qa rs ns q 72 #[.pointer (some ⟨b9,0,none⟩),.pointer (some ⟨b5,0,none⟩)] (H9 k) (fun W=>Blk W b5 3 #[.int .i64 (k : Nat)]) w hb (by omega) hn hn2 hm (by omega) hL2 hq hrl hs1 hs2 (Nat.le_refl _) (by omega) (B3N b9 b5 n m L k R N Qa w hk0 hk) (fun hs m h1 h2=>B38 h1 h2) hR hN hQ (A3t hc) HT s.size s 0 [] 0 none 0
 obtain ⟨st,hst⟩ : ∃ x,x = E4 (rs.map (·.2.2)) q L (H9 k) k (toK ns s 0) ([],0):=⟨_,rfl⟩
 rw [← hst] at hlk hbs
 simp only [← hst] at hvi
 obtain ⟨hs9,lk9⟩:=st
 simp only at hlk hbs hvi
 have hvi2 : ∀ (b9 b5 : Nat) (hb : w.heap.size ≤ b9) W,A3 w W → Blk W b5 3 #[.int .i64 (k : Nat)] → SrW b9 w.heap.size (.slice R.1 n R.2) (.slice N.1 m N.2) (.slice Qa.1 L Qa.2) (.int .i64 (k : Nat)) (.func (.func 72) #[] #[.pointer (some ⟨b9,0,none⟩),.pointer (some ⟨b5,0,none⟩)]) none 0 [] 0 W → _:=fun b9 b5 hb W hg hI hS=>hvi b9 b5 hb W hsz (Nat.le_refl _) hlay hg hI ⟨fun x hx=>(by cases hx),List.Pairwise.nil,Nat.le_refl _⟩ (by omega) hS
 have hrow0 : ∃ (bb ob : Nat) (Ar : Option Addr) (cr : Nat),R.1 = some ⟨bb,ob,none⟩ ∧ ∀ W,A3 w W → W.cell? ⟨bb,ob,none⟩ = some (.slice Ar L cr):=by
  obtain ⟨bb,ob,e⟩:=hR.addr (by omega)
  rw [e] at hR
  have hil : 0 < rs.length:=by omega
  refine ⟨bb,ob,rs[0].1,rs[0].2.1,e,fun W hg=>?_⟩
  have h3:=((hR.grow hg).read (List.getElem?_eq_getElem hil)).1
  rw [hrl _ (List.getElem_mem hil),Nat.add_zero] at h3
  exact h3
 obtain ⟨RA,RC⟩:=R
 obtain ⟨NA,NC⟩:=N
 obtain ⟨QA,QC⟩:=Qa
 simp only at hrow0
 obtain ⟨bb,ob,Ar,cr,rfl,hr0⟩:=hrow0
 rw [← hbs]
 rw [← hbs] at hbl
 have f1 : decide ((k : Int) < 1) = false:=by simp;omega
 have f1n : decide (k < 1) = false:=by simp;omega
 have f1z : decide (k = 0) = false:=by simp;omega
 have f2 : decide (300 < (k : Int)) = false:=by simp;omega
 have f2n : decide (300 < k) = false:=by simp;omega
 have hni : (0 : Int) < (n : Int):=by omega
 have hne : ((L : Int) != (L : Int)) = false:=by simp
 have Hck:=Lib.hid hck
 have Hvi:=Lib.hid hvi2
 have Hr0:=Lib.hid hr0
 have Hlk:=Lib.hid hlk
 have Hbl:=Lib.hid hbl
 clear hck hvi hvi2 hr0 hlk hbl hbs hst hc hR hN hQ hlay hsz hsn hnl hXl hs1 hs2 hBz hrl hn hq hm hmn
 go_enter Tryz.func38,Tryz.ntmps38
 refine en2 ?_
 intro u hG b5 b3 hB hF
 refine wp_seq ?_
 refine wp_seq (rsE A3N [0,1,0,0,0,0,0,0,0,0,0] hB hG fun L hL=>?_)
 refine gs ?_
 refine gmd (C:=fun v ⟨hgu,hB,hG,_⟩=>Hck.out _ hG) ?_
 refine gs ?_
 refine geT hL ?_
 clear hB hG hL L
 rintro u ⟨-,hB,hG,-⟩
 refine wp_cond_false (rfl) ?_
 refine wp_skip ?_
 refine A4 ?_
 refine wp_seq ?_
 refine wp_seq ?_
 have q0:=Hr0.out u hG
 refine r0N ?_
 refine wp_cond_false (rfl) ?_
 refine wp_skip ?_
 refine A4 ?_
 refine wp_seq (rsC A3N [0,0,0,2] hB hG fun K L hN hL=>?_)
 refine gs ?_
 refine gaa (A6h _ _ _ _ _) fun b9 hb9 hn9=>?_
 replace hF:=hF.n1 [] hB hG hb9 hn9
 refine geC hL ?_
 clear hB hG hL L
 rintro u ⟨⟨-,hB,hG,-⟩,h9⟩
 replace hB:=hB.cons' h9
 clear h9
 clear hb9 hn9
 refine gtT ?_
 clear hN K
 refine st hB hF hG 0 0 [_,_,_,_,_,_,_] ?_
 clear hB hG
 intro u hB hG
 refine wp_seq ?_
 have q0:=Hr0.out u hG
 refine r0N ?_
 refine st hB hF hG 0 4 [_] ?_
 clear hB hG
 intro u hB hG
 refine wp_seq ?_
 have q0:=Hr0.out u hG
 refine r0N ?_
 refine st hB hF hG 0 3 [_] ?_
 clear hB hG
 intro u hB hG
 refine wp_seq ?_
 have h9w:=hF.1 b9 (by simp)
 have hI:=hB.tail.tail.head
 have hv:=Hvi.out b9 b5 h9w u hG hI ⟨hB.head,World.ownsRow_nil _ _ _ _⟩
 have HV:=Lib.hid hv
 clear hv hI
 refine F1 ?_
 intro K hN
 go_wp2_with (go_at_call 73;refine HV.out.mono ?_;rintro e w5 ⟨rfl,HA5,HC5,q0,q1,q2⟩)
 refine NoK.norm (hN _ _ ?_)
 clear hN K HV hB hG hF
 have hG:=q2
 have hB9:=q0.blk
 rw [Hbl.out] at hB9
 have hB:=Bx.cons hB9 (Bx.nil w5)
 have HL9:=Lib.hid q0.lh.1
 clear hB9 q0 q1 q2 h9w Hvi
 obtain ⟨u,rfl⟩ : ∃ x,x = w5:=⟨_,rfl⟩
 refine A4 ?_
 refine wp_seq (rdC A3N [] [(0,0),(0,1),(0,2),(0,3),(0,4),(0,5)] hB hG fun K L hN hL=>?_)
 refine gs ?_
 refine geC hL ?_
 clear hB hG hL L
 rintro u ⟨hgu,hB,hG,-⟩
 have HL8:=Lib.hid (HL9.out.grow hgu)
 clear hgu
 refine gtT ?_
 clear hN K
 refine rt Tryz.results38 ?_
 exact ⟨((HA5,HC5),lk9),rfl,⟨HL8.out,by have h1:=Hlk.out.2;have h2:=Hbl.out;omega,Hlk.out.1⟩,hG⟩
abbrev KX : List (List Rat):=[[B3 5],[B3 3],[B3 4]]
abbrev KN : List NdT:=[⟨2,0,1,2⟩,⟨1,0,0,0⟩,⟨0,0,0,0⟩]
theorem A9u : F9 KX 0 [0,1,2] = [1,2,0]:=(A3R (by decide) (by decide +kernel)).symm
theorem A54 : D7 (E3 KX 1 (List.range 3) 0) 0 = KN:=by
 have h1 : ∀ r,E3 KX 1 [r] 0 = .node r 0 .none .none:=fun r=>by
  have hs : F9 KX 0 [r] = [r]:=(A3R (List.Perm.refl _) (List.pairwise_singleton _ _)).symm
  have e : [r].length / 2 = 0:=by simp
  rw [E3,dif_neg (by simp),hs,e,List.take_zero,(A3F (l:=[])).2 rfl,(A3F (l:=List.drop (0 + 1) [r])).2 rfl]
  rfl
 have e : List.range 3 = [0,1,2]:=rfl
 have e2 : [0,1,2].length / 2 = 1:=by simp
 have e3 : List.take 1 [1,2,0] = [1]:=rfl
 have e4 : List.drop (1 + 1) [1,2,0] = [0]:=rfl
 have e5 : (0 + 1) % 1 = 0:=by simp
 rw [e,E3,dif_neg (by simp),A9u,e2,e3,e4,e5,h1,h1]
 rfl
theorem B3T : D4 1 (G0 (I8 KX [B3 9] 1) 3) = [(0,D3 16 1)]:=by
 have e : G0 (I8 KX [B3 9] 1) 3 = [(0,D3 16 1),(1,D3 36 1),(2,D3 25 1)]:=by decide +kernel
 have h : [(0,D3 16 1),(2,D3 25 1),(1,D3 36 1)] = srt (G0 (I8 KX [B3 9] 1) 3):=by
  rw [e]
  refine A1L ?_ ?_
  ·exact (List.Perm.swap _ _ _).cons _
  ·decide +kernel
 unfold D4
 rw [← h]
 rfl
theorem B0F : U7 [2,0,1] [3,1,3] = (3,0):=by decide +kernel
theorem A8Y : U9 [2,0] [B3 1,B3 9,B3 2] = (D3 3 2,0):=by decide +kernel
theorem A7J (w : World) (l : List Int) : Le hvL 6 (w.alloc (.cells (l.flatMap hvL).toArray 51)) (some ⟨w.heap.size,0,none⟩) l:=fun _ =>
 ⟨w.heap.size,0,rfl,by rw [E9];omega,fun i q hi j v hj=>by
  have hj6 : j < 6:=(List.getElem?_eq_some_iff.1 hj).1
  have hil : i < l.length:=(List.getElem?_eq_some_iff.1 hi).1
  have e : l[i] = q:=(List.getElem?_eq_some_iff.1 hi).2
  rw [Nat.zero_add,Blk.cell (Blk.new w 51 _),List.getElem?_toArray,A2l (enc:=hvL) (size:=6) (fun _=>rfl) l i j hil hj6,e,hj]⟩
theorem A8w (w : World) (HT : Tab w) : Calls Tryz.prog 11 #[] w fun e w'=>e = .returned (.bool true) ∧ A3 w w':=by
 have hBB : 100000 ≤ BIG:=by unfold BIG;omega
 have q1 : qs (B3 1) ≤ 41:=T3 1 (by omega)
 have q2 : qs (B3 2) ≤ 41:=T3 2 (by omega)
 have q3 : qs (B3 3) ≤ 41:=T3 3 (by omega)
 have q4 : qs (B3 4) ≤ 41:=T3 4 (by omega)
 have q5 : qs (B3 5) ≤ 41:=T3 5 (by omega)
 have q9 : qs (B3 9) ≤ 41:=T3 9 (by omega)
 have hrow : ∀ rs : List Rq,rs.map (·.2.2) = KX → rs.length = 3 ∧ (∀ r ∈ rs,r.2.2.length = 1) ∧ ∀ r ∈ rs,∀ x ∈ r.2.2,qs x ≤ 41:=fun rs he=>by
  refine ⟨by have := congrArg List.length he;simpa using this,fun r hr=>?_,fun r hr x hx=>?_⟩
  ·have h1 : r.2.2 ∈ KX:=by rw [← he];exact List.mem_map_of_mem (f:=fun r : Rq=>r.2.2) hr
   simp only [List.mem_cons,List.not_mem_nil,or_false] at h1
   rcases h1 with h | h | h <;> rw [h] <;> rfl
  ·have h1 : r.2.2 ∈ KX:=by rw [← he];exact List.mem_map_of_mem (f:=fun r : Rq=>r.2.2) hr
   simp only [List.mem_cons,List.not_mem_nil,or_false] at h1
   rcases h1 with h | h | h <;> (rw [h] at hx;simp only [List.mem_cons,List.not_mem_nil,or_false] at hx;subst hx;assumption)
 have hck : G4 KX 1 KN = 0 ∧ N5 (C4 KN 0) = 1:=by
  have h:=A9B KX 1 (by omega) (by decide)
  have e : KX.length = 3:=rfl
  rw [e,A54] at h
  exact ⟨h.1,by decide +kernel⟩
 have hbu : ∀ (W : World) (A : Option Addr) (rs : List Rq),rs.map (·.2.2) = KX → Lrq W A rs → Calls Tryz.prog 34 #[.slice A 3 3] W (N9 (fun x : (Ax × Ax) × List Rq=>.tuple #[.agg #[.slice x.1.1.1 3 x.1.1.2,.slice x.1.2.1 3 x.1.2.2],.int .i64 0]) (fun x W'=>(∃ B,TreeO B 3 x.1.1 x.1.2 x.2 KN W') ∧ x.2.map (·.2.2) = KX) W):=fun W A rs he h=>by
  obtain ⟨r1,r2,r3⟩:=hrow rs he
  have h2:=A9N A rs 3 1 3 r1 (by omega) (by omega) (by omega) (by omega) r2 41 r3 (by omega) W h
  rw [he,A54] at h2
  exact h2.mono fun e w' ⟨x,g1,⟨g2,g3⟩,g4⟩=>⟨x,g1,⟨⟨_,g2⟩,g3⟩,g4⟩
 have hne : ∀ (W : World) (R1 N1 Q1 : Ax) (rs : List Rq),rs.map (·.2.2) = KX → Lrq W R1.1 rs → Le ndL 4 W N1.1 KN → Lq W Q1.1 [B3 9] → Tab W → Calls Tryz.prog 38 #[M0 R1 3 N1 3,.slice Q1.1 1 Q1.2,.int .i64 1] W (N9 (fun x : {x : Ax × Nat // 1 ≤ x.2 ∧ x.2 ≤ 3}=>.tuple #[.slice x.1.1.1 1 x.1.1.2,.int .i64 (x.1.2 : Nat),.int .i64 0]) (fun x W=>Lh W x.1.1.1 [(0,D3 16 1)]) W):=fun W R1 N1 Q1 rs he h1 h2 h3 hT=>by
  obtain ⟨r1,r2,r3⟩:=hrow rs he
  have h:=A9P R1 N1 Q1 rs 3 1 3 1 KN [B3 9] r1 (by omega) (by omega) (by omega) (by omega) r2 rfl rfl (by omega) (by omega) 41 r3 (fun x hx=>by
   simp only [List.mem_cons,List.not_mem_nil,or_false] at hx
   subst hx
   exact q9) (by omega) (by rw [he];exact hck.1) W h1 h2 h3 hT
  rw [he,B3T] at h
  exact h.mono fun e w' ⟨x,g1,⟨g2,g3,g4⟩,g5⟩=>⟨⟨x,g3,g4⟩,g1,g2,g5⟩
 have hdp : ∀ (W : World) (R1 N1 : Ax) (rs : List Rq),rs.map (·.2.2) = KX → Lrq W R1.1 rs → Le ndL 4 W N1.1 KN → Calls Tryz.prog 30 #[M0 R1 3 N1 3] W fun e w'=>e = .returned (.int .i64 1) ∧ A3 W w':=fun W R1 N1 rs he h1 h2=>by
  obtain ⟨r1,r2,r3⟩:=hrow rs he
  have h:=A9V R1 N1 rs 3 1 3 KN r1 (by omega) (by omega) (by omega) (by omega) r2 rfl (by omega) 41 r3 (by omega) W h1 h2
  rw [he,if_pos hck.1,hck.2] at h
  exact h
 have hvo : ∀ (W : World) (b b' : Nat),Le hvL 6 W (some ⟨b,0,none⟩) [2,0,1] → Li W (some ⟨b',0,none⟩) [3,1,3] → Calls Tryz.prog 22 #[.slice (some ⟨b,0,none⟩) 3 3,.slice (some ⟨b',0,none⟩) 3 3] W fun e w'=>e = .returned (.tuple #[.int .i64 3,.int .i64 0]) ∧ A3 W w':=fun W b b' h1 h2=>by
  have h:=A75 (some ⟨b,0,none⟩) (some ⟨b',0,none⟩) [2,0,1] [3,1,3] 3 3 3 3 rfl rfl (by omega) W h1 h2
  rw [B0F] at h
  exact h
 have hme : ∀ (W : World) (b b' : Nat),Le hvL 6 W (some ⟨b,0,none⟩) [2,0] → Lq W (some ⟨b',0,none⟩) [B3 1,B3 9,B3 2] → Tab W → Calls Tryz.prog 24 #[.slice (some ⟨b,0,none⟩) 2 2,.slice (some ⟨b',0,none⟩) 3 3] W fun e w'=>e = .returned (.tuple #[qV (D3 3 2),.int .i64 0]) ∧ A3 W w':=fun W b b' h1 h2 hT=>by
  have h:=B2C (some ⟨b,0,none⟩) (some ⟨b',0,none⟩) [2,0] [B3 1,B3 9,B3 2] 2 3 2 3 rfl rfl (by omega) (fun x hx=>by
   simp only [List.mem_cons,List.not_mem_nil,or_false] at hx
   rcases hx with rfl | rfl | rfl <;> omega) W h1 h2 hT
  rw [A8Y] at h
  exact h
 have z32 : qs (D3 3 2) ≤ LIM:=Nat.le_trans (A3Q 0 0 3 2 5 (by omega) (by omega) (by omega)) (by unfold LIM;omega)
 have Hbu:=Lib.hid hbu
 have Hne:=Lib.hid hne
 have Hdp:=Lib.hid hdp
 have Hvo:=Lib.hid hvo
 have Hme:=Lib.hid hme
 clear hrow hck hbu hne hdp hvo hme q1 q2 q3 q4 q5 q9
 go_enter Tryz.func11,Tryz.ntmps11
 refine en0 ?_
 intro u hG hB hF
 refine wp_seq (rsE D8 [1,1,1,1,1,1,1,0] hB hG fun L hL=>?_)
 refine gmw (C:=fun v=>Q3 5 (by omega) (by omega) _) ?_
 refine gx Nat (fun b=>.slice (some ⟨b,0,none⟩) 1 1) (fun b W=>Lq W (some ⟨b,0,none⟩) [B3 5]) (fun _ _ _ hg h=>h.grow hg) rfl ?_ (fun x14=>?_)
 ·(rintro v ⟨hgu,hB,hG,-⟩ N hN;go_simp;exact hN v.heap.size _ (X0 v [B3 5]) (A3.alloc _ _))
 refine okf (by simp only [Act.put,List.setIfInBounds_toArray,List.set_cons_succ,List.set_cons_zero];exact rfl) ?_
 refine gmw (C:=fun v=>Q3 3 (by omega) (by omega) _) ?_
 refine gx Nat (fun b=>.slice (some ⟨b,0,none⟩) 1 1) (fun b W=>Lq W (some ⟨b,0,none⟩) [B3 3]) (fun _ _ _ hg h=>h.grow hg) rfl ?_ (fun x16=>?_)
 ·(rintro v ⟨⟨hgu,hB,hG,-⟩,hx14⟩ N hN;go_simp;exact hN v.heap.size _ (X0 v [B3 3]) (A3.alloc _ _))
 refine okf (by simp only [Act.put,List.setIfInBounds_toArray,List.set_cons_succ,List.set_cons_zero];exact rfl) ?_
 refine gmw (C:=fun v=>Q3 4 (by omega) (by omega) _) ?_
 refine gx Nat (fun b=>.slice (some ⟨b,0,none⟩) 1 1) (fun b W=>Lq W (some ⟨b,0,none⟩) [B3 4]) (fun _ _ _ hg h=>h.grow hg) rfl ?_ (fun x18=>?_)
 ·(rintro v ⟨⟨⟨hgu,hB,hG,-⟩,hx14⟩,hx16⟩ N hN;go_simp;exact hN v.heap.size _ (X0 v [B3 4]) (A3.alloc _ _))
 refine okf (by simp only [Act.put,List.setIfInBounds_toArray,List.set_cons_succ,List.set_cons_zero];exact rfl) ?_
 refine gx Nat (fun b=>.slice (some ⟨b,0,none⟩) 3 3) (fun b W=>Lrq W (some ⟨b,0,none⟩) [(some ⟨x14,0,none⟩,1,[B3 5]),(some ⟨x16,0,none⟩,1,[B3 3]),(some ⟨x18,0,none⟩,1,[B3 4])]) (fun _ _ _ hg h=>h.grow hg) rfl ?_ (fun x19=>?_)
 ·(rintro v ⟨⟨⟨⟨hgu,hB,hG,-⟩,hx14⟩,hx16⟩,hx18⟩ N hN;go_simp;exact hN v.heap.size _ (A6u v [(some ⟨x14,0,none⟩,1,[B3 5]),(some ⟨x16,0,none⟩,1,[B3 3]),(some ⟨x18,0,none⟩,1,[B3 4])] (fun r hr=>by simp only [List.mem_cons,List.not_mem_nil,or_false] at hr;rcases hr with rfl | rfl | rfl <;> assumption)) (A3.alloc _ _))
 refine okf (by simp only [Act.put,List.setIfInBounds_toArray,List.set_cons_succ,List.set_cons_zero];exact rfl) ?_
 refine gs ?_
 refine geT hL ?_
 clear hB hG hL L
 rintro u ⟨⟨⟨⟨⟨hgu,hB,hG,-⟩,hx14⟩,hx16⟩,hx18⟩,hx19⟩
 have HR:=Lib.hid hx19
 clear hx14 hx16 hx18 hx19
 clear hgu
 refine wp_seq (rsC D8 [0,1,0,0,0,2] hB hG fun K L hN hL=>?_)
 refine gs ?_
 refine gxd (X:=((Ax × Ax) × List Rq)) (fun x : (Ax × Ax) × List Rq=>.tuple #[.agg #[.slice x.1.1.1 3 x.1.1.2,.slice x.1.2.1 3 x.1.2.2],.int .i64 0]) (fun x W'=>(∃ B,TreeO B 3 x.1.1 x.1.2 x.2 KN W') ∧ x.2.map (·.2.2) = KX) (fun x u u' hg h=>⟨h.1.elim fun B hB=>⟨B,hB.grow hg⟩,h.2⟩) (fun x22=>?_) (C:=by (rintro v ⟨hgu,hB,hG,-⟩;exact Hbu.out _ _ _ rfl (HR.out.grow hgu)))
 refine gs ?_
 refine gaa (A36 _ _ _ _ _) fun b2 hb2 hn2=>?_
 replace hF:=hF.n1 [] hB hG hb2 hn2
 refine geC hL ?_
 clear hB hG hL L
 rintro u ⟨⟨⟨hgu,hB,hG,-⟩,hx22⟩,h2⟩
 replace hB:=hB.cons' h2
 clear h2
 obtain ⟨⟨⟨RA,RC⟩,⟨NA,NC⟩⟩,rs⟩:=x22
 obtain ⟨⟨BB,ht1⟩,ht2⟩:=hx22
 simp only at ht1 ht2
 clear hb2 hn2
 clear hgu
 refine gtT ?_
 clear hN K
 refine sv hB hF hG 0 0 [_,_] ?_
 intro u hu hBG
 have ht4:=(TreeO.put ht1 hB.head (by decide) (by decide) (by decide) hu).parts
 clear ht1 hB hG hu HR
 simp only at ht4
 obtain ⟨bN,oN,rfl,hnd⟩:=ht4.2.at (i:=0) (by decide)
 obtain ⟨hB,hG⟩:=hBG
 have hnd2 : ∀ W,A3 u W → W.cell? ⟨bN,oN,none⟩ = some (.int .i64 2) ∧ W.cell? ⟨bN,oN + 2,none⟩ = some (.int .i64 1) ∧ W.cell? ⟨bN,oN + 3,none⟩ = some (.int .i64 2):=fun W hg=>⟨hnd W hg 0 _ rfl,hnd W hg 2 _ rfl,hnd W hg 3 _ rfl⟩
 have Hnd:=Lib.hid hnd2
 have hb2:=fun W (hg : A3 u W)=>And.intro ((hB.head.grow hg).cell 0) ((hB.head.grow hg).cell 1)
 have Hb2:=Lib.hid hb2
 have HLR:=Lib.hid ht4.1
 have HLN:=Lib.hid ht4.2
 have Hrs:=Lib.hid ht2
 clear ht4 ht2 hnd hnd2 hb2
 have HG0:=Lib.hid hG
 clear hB hF hG
 obtain ⟨w0,rfl⟩ : ∃ x,x = w:=⟨_,rfl⟩
 obtain ⟨w,hwu⟩ : ∃ x,x = u:=⟨_,rfl⟩
 rw [← hwu] at HG0 Hnd HLR HLN Hb2
 have hB:=Bx.nil u
 have hF:=Fr.nil w
 have hG : A3 w u:=hwu ▸ A3.refl u
 clear hwu
 have HT':=HT.grow HG0.out
 clear HT
 have HT:=HT'
 clear HT' Hbu
 refine wp_seq (rdC D8 [] [(0,0),(1,1),(1,2),(1,3),(0,4),(0,5),(0,6),(0,7),(0,8),(0,9)] hB hG fun K L hN hL=>?_)
 repeat first | refine gya ?_ | refine gyr ?_ | refine gna ?_ | refine gyb (by (rintro v ⟨hgu,hB,hG,-⟩ N hN;have r:=hB.r;simp only [BxR] at r;obtain ⟨t0,t1⟩:=Hb2.out v hG;obtain ⟨n0,n2,n3⟩:=Hnd.out v hG;(try have a0:=HA.out v hG);go_simp;exact hN)) ?_
 refine gmw (C:=fun v=>Q3 9 (by omega) (by omega) _) ?_
 refine gx Nat (fun b=>.slice (some ⟨b,0,none⟩) 1 1) (fun b W=>Lq W (some ⟨b,0,none⟩) [B3 9]) (fun _ _ _ hg h=>h.grow hg) rfl ?_ (fun x28=>?_)
 ·(rintro v ⟨hgu,hB,hG,-⟩ N hN;go_simp;exact hN v.heap.size _ (X0 v [B3 9]) (A3.alloc _ _))
 refine okf (by simp only [Act.put,List.setIfInBounds_toArray,List.set_cons_succ,List.set_cons_zero];exact rfl) ?_
 refine gxd (X:={x : Ax × Nat // 1 ≤ x.2 ∧ x.2 ≤ 3}) (fun x : {x : Ax × Nat // 1 ≤ x.2 ∧ x.2 ≤ 3}=>.tuple #[.slice x.1.1.1 1 x.1.1.2,.int .i64 (x.1.2 : Nat),.int .i64 0]) (fun x W=>Lh W x.1.1.1 [(0,D3 16 1)]) (fun x u u' hg h=>Lh.grow h hg) (fun x29=>?_) (C:=by (rintro v ⟨⟨hgu,hB,hG,-⟩,hx28⟩;exact Hne.out _ (RA,RC) (some ⟨bN,oN,none⟩,NC) (some ⟨x28,0,none⟩,1) rs Hrs.out (HLR.out.grow hG) (HLN.out.grow hG) hx28 (HT.grow hG)))
 refine gs ?_
 refine geC hL ?_
 clear hB hG hL L
 rintro u ⟨⟨⟨hgu,hB,hG,-⟩,hx28⟩,hx29⟩
 obtain ⟨⟨⟨A29,c29⟩,lk⟩,hl1,hl2⟩:=x29
 have HL:=Lib.hid (show Lh u A29 [(0,D3 16 1)] from hx29)
 simp only at hl1 hl2
 have fl1 : decide ((1 : Int) ≤ (lk : Int)) = true:=by simp;omega
 have fl1n : decide (1 ≤ lk) = true:=by simp;omega
 have fl2 : decide ((lk : Int) ≤ 3) = true:=by simp;omega
 have fl2n : decide (lk ≤ 3) = true:=by simp;omega
 have fl3n : decide (lk = 0) = false:=by simp;omega
 have HGa:=HG0
 clear hx28 hx29 HG0
 clear hgu
 refine gtT ?_
 clear hN K
 have HG0:=Lib.hid hG
 clear hB hF hG
 obtain ⟨w0,rfl⟩ : ∃ x,x = w:=⟨_,rfl⟩
 obtain ⟨w,hwu⟩ : ∃ x,x = u:=⟨_,rfl⟩
 rw [← hwu] at HG0 HL
 have hB:=Bx.nil u
 have hF:=Fr.nil w
 have hG : A3 w u:=hwu ▸ A3.refl u
 clear hwu
 obtain ⟨g,off,rfl,hgl,hc⟩:=HL.out (by simp)
 have hA : ∀ W,A3 w W → W.cell? ⟨g,off,none⟩ = some (.int .i64 0):=fun W hg=>(hg.cell (p:=⟨g,off,none⟩) hgl).trans (hc 0 _ rfl 0 _ rfl)
 have HT':=HT.grow HG0.out
 have hb2:=fun W (hg : A3 w W)=>Hb2.out W (HG0.out.trans hg)
 have hnd:=fun W (hg : A3 w W)=>Hnd.out W (HG0.out.trans hg)
 have hlr:=HLR.out.grow HG0.out
 have hln:=HLN.out.grow HG0.out
 have HG1:=Lib.hid (HGa.out.trans HG0.out)
 clear HT Hb2 Hnd HLR HLN HGa HG0 HL hc hgl Hne
 have HT:=HT'
 have HA:=Lib.hid hA
 have Hb2:=Lib.hid hb2
 have Hnd:=Lib.hid hnd
 have HLR:=Lib.hid hlr
 have HLN:=Lib.hid hln
 clear HT' hA hb2 hnd hlr hln
 refine wp_seq (rsE D8 [0,0,0,1,1,1,0,0,0,0,0] hB hG fun L hL=>?_)
 refine gs ?_
 refine gx Nat (fun b=>.slice (some ⟨b,0,none⟩) 3 3) (fun b W=>Le hvL 6 W (some ⟨b,0,none⟩) [2,0,1]) (fun _ _ _ hg h=>Le.grow h hg) rfl ?_ (fun x37=>?_)
 ·(rintro v ⟨hgu,hB,hG,-⟩ N hN;go_simp;exact hN v.heap.size _ (A7J v [2,0,1]) (A3.alloc _ _))
 refine okf (by simp only [Act.put,List.setIfInBounds_toArray,List.set_cons_succ,List.set_cons_zero];exact rfl) ?_
 refine gx Nat (fun b=>.slice (some ⟨b,0,none⟩) 3 3) (fun b W=>Li W (some ⟨b,0,none⟩) [3,1,3]) (fun _ _ _ hg h=>h.grow hg) rfl ?_ (fun x38=>?_)
 ·(rintro v ⟨⟨hgu,hB,hG,-⟩,hx37⟩ N hN;go_simp;exact hN v.heap.size _ (A3P v [3,1,3]) (A3.alloc _ _))
 refine okf (by simp only [Act.put,List.setIfInBounds_toArray,List.set_cons_succ,List.set_cons_zero];exact rfl) ?_
 refine gmd (C:=fun v ⟨⟨⟨hgu,hB,hG,_⟩,hx37⟩,hx38⟩=>Hvo.out _ x37 x38 hx37 hx38) ?_
 refine gs ?_
 refine geT hL ?_
 clear hB hG hL L
 rintro u ⟨⟨⟨hgu,hB,hG,-⟩,hx37⟩,hx38⟩
 clear hx37 hx38
 clear hgu
 refine wp_seq (rsC D8 [0,0,1,1,1,1,1,1,0,0,0,2] hB hG fun K L hN hL=>?_)
 refine gs ?_
 refine gx Nat (fun b=>.slice (some ⟨b,0,none⟩) 2 2) (fun b W=>Le hvL 6 W (some ⟨b,0,none⟩) [2,0]) (fun _ _ _ hg h=>Le.grow h hg) rfl ?_ (fun x45=>?_)
 ·(rintro v ⟨hgu,hB,hG,-⟩ N hN;go_simp;exact hN v.heap.size _ (A7J v [2,0]) (A3.alloc _ _))
 refine okf (by simp only [Act.put,List.setIfInBounds_toArray,List.set_cons_succ,List.set_cons_zero];exact rfl) ?_
 refine gmw (C:=fun v=>Q3 1 (by omega) (by omega) _) ?_
 refine gmw (C:=fun v=>Q3 9 (by omega) (by omega) _) ?_
 refine gmw (C:=fun v=>Q3 2 (by omega) (by omega) _) ?_
 refine gx Nat (fun b=>.slice (some ⟨b,0,none⟩) 3 3) (fun b W=>Lq W (some ⟨b,0,none⟩) [B3 1,B3 9,B3 2]) (fun _ _ _ hg h=>h.grow hg) rfl ?_ (fun x49=>?_)
 ·(rintro v ⟨⟨hgu,hB,hG,-⟩,hx45⟩ N hN;go_simp;exact hN v.heap.size _ (X0 v [B3 1,B3 9,B3 2]) (A3.alloc _ _))
 refine okf (by simp only [Act.put,List.setIfInBounds_toArray,List.set_cons_succ,List.set_cons_zero];exact rfl) ?_
 refine gmd (C:=fun v ⟨⟨⟨hgu,hB,hG,_⟩,hx45⟩,hx49⟩=>Hme.out _ x45 x49 hx45 hx49 (HT.grow hG)) ?_
 refine gs ?_
 refine gaa (K9 _ _ _ _ _) fun b9 hb9 hn9=>?_
 replace hF:=hF.n1 [] hB hG hb9 hn9
 refine geC hL ?_
 clear hB hG hL L
 rintro u ⟨⟨⟨⟨hgu,hB,hG,-⟩,hx45⟩,hx49⟩,h9⟩
 replace hB:=hB.cons' h9
 clear h9
 clear hx45 hx49
 clear hb9 hn9
 clear hgu
 refine gtT ?_
 clear hN K
 refine st hB hF hG 0 0 [_,_,_,_,_] ?_
 clear hB hG
 intro u hB hG
 refine wp_seq (rsE D8 [1,0,0,0,0,0] hB hG fun L hL=>?_)
 refine gmw (C:=fun v=>A6C none none 0 0 0 _) ?_
 refine gs ?_
 refine geT hL ?_
 clear hB hG hL L
 rintro u ⟨-,hB,hG,-⟩
 refine wp_seq ?_
 simp only [List.append_eq,List.cons_append,List.nil_append]
 refine rsE D8 [1,0,0,0,0,0,0,0,0,0,0,0,0,0,0,0,0,0,0,0,0,0,0,0,0,0,0,0,0,0,0,0,0,0,0,0,0,1,0,0,0,0,0,0,0,0,0,0,0,0,0,0,0,0,0,0,0,0,0,0,0,0,0,0,0,0,0,0,0,0,0,0,0,0,0,0,0,0,1,0,0,0,0,0,0] hB hG fun L hL=>?_
 refine gmd (C:=fun v ⟨hgu,hB,hG,_⟩=>B4A _ (HT.grow hG)) ?_
 repeat first | refine gya ?_ | refine gyr ?_ | refine gna ?_ | refine gyb (by (rintro v ⟨hgu,hB,hG,-⟩ N hN;have r:=hB.r;simp only [BxR] at r;obtain ⟨t0,t1⟩:=Hb2.out v hG;obtain ⟨n0,n2,n3⟩:=Hnd.out v hG;(try have a0:=HA.out v hG);go_simp;exact hN)) ?_
 first | refine gmd (C:=fun v ⟨hgu,hB,hG,_⟩=>Hdp.out _ (RA,RC) (some ⟨bN,oN,none⟩,NC) rs Hrs.out (HLR.out.grow hG) (HLN.out.grow hG)) ?_ | refine E8 ?_
 repeat first | refine gya ?_ | refine gyr ?_ | refine gna ?_ | refine gyb (by (rintro v ⟨hgu,hB,hG,-⟩ N hN;have r:=hB.r;simp only [BxR] at r;obtain ⟨t0,t1⟩:=Hb2.out v hG;obtain ⟨n0,n2,n3⟩:=Hnd.out v hG;(try have a0:=HA.out v hG);go_simp;exact hN)) ?_
 first | refine gmw (C:=fun v=>A3S 3 2 (by omega) (by omega) (by omega) (by omega) (by omega) z32 _) ?_ | refine E8 ?_
 refine gs ?_
 refine geT hL ?_
 clear hB hG hL L
 rintro u ⟨-,hB,hG,-⟩
 refine rt Tryz.results11 ?_
 exact ⟨rfl,HG1.out.trans hG⟩
end Go.Proofs.YtjmopgepnndckaaGreatDoor
namespace Go.Proofs.YtjmopgepnndckaaGreatDoor.nearKnown
open Go.ChangeShapes Go.WideShapes Go.ChangeAt Go.RowKit
theorem B2O : ∀ t ∈ Tryz.f11.params.toList,Tryz.prog.readableRec t = true ∧ t < Tryz.prog.types.size:=by
 have h : (Tryz.f11.params.toList.all fun t=>Tryz.prog.readableRec t && decide (t < Tryz.prog.types.size)) = true:=by kernel_rfl
 intro t ht
 have := List.all_eq_true.1 h t ht
 simpa using this
theorem A9x (H : Type) (enc : TypeId × Value → H) (W : World) (base : Nat) (args : Array Value) (ds gs : List (DataW H)) (before : List MemPlace)
  (hval : ∀ (j : Nat) t v,Tryz.f11.params[j]? = some t → args[j]? = some v → Value.okWide Tryz.prog W .any base t v)
  (hW : DataW.Whole enc Tryz.prog Tryz.f11.params.toList Rows.nearKnownSpec.vars false W args.toList ds gs before) (hL : laidMetH Tryz.prog Rows.nearKnownRow.laid W) :
  Calls Tryz.prog 11 args W fun e W'=>∃ v,e = .returned v ∧ Rows.nearKnownSpec.post enc Tryz.prog Tryz.f11 false true false false W args v W':=by
 have hW':=hW
 obtain ⟨p,q,hA0,hV,rfl,hfz,hnd⟩:=hW
 have hA : DataW.TrodAll enc Tryz.prog W 0 (fun _=>true) true Tryz.f11.params.toList args.toList ds p:=hA0
 rw [Tryz.params11] at hA
 obtain ⟨hargs,rfl,rfl⟩:=trodAll_nil hA
 obtain rfl : args = #[]:=by cases args;simp_all
 obtain ⟨rfl,rfl⟩:=trodVars_none hV
 refine (A8w  W  (A83 (by kernel_rfl) hL)).mono fun e W' ⟨he,hg⟩=>?_
 exact ⟨_,he,A8A hW' rfl rfl rfl rfl (by kernel_rfl) B2O hg⟩
def wit : Array Value:=#[]
theorem A8u (os : Os) : laidMet Tryz.prog Rows.nearKnownRow.laid ((laidWorld os).forCall (fun _ _=>0) ⟨#[],wit,[]⟩).memory :=
 laidMet_of_run' 8 (by kernel_rfl) (by kernel_rfl)
theorem reads (os : Os) {H : Type} (enc : TypeId × Value → H) : ∃ places,DataW.whole enc Tryz.prog ((laidWorld os).forCall (fun _ _=>0) ⟨#[],wit,[]⟩).memory Tryz.f11.params.toList Rows.nearKnownSpec.vars false wit.toList 8 = some ([],[],places) :=
 ⟨[],by kernel_rfl⟩
theorem B1C (os : Os) (started : os.Started) (H : Type) (enc : TypeId × Value → H) (F : Stop.Interp) :
  ReturnsInHanded {} Tryz.checked os 11 .any ((OpenSpec.ofChange Rows.nearKnownSpec).preRow enc Tryz.prog Tryz.f11 Rows.nearKnownRow.domain false Rows.nearKnownRow.laid) (((OpenSpec.ofChange Rows.nearKnownSpec).at F).post enc Tryz.prog Tryz.f11 false true false false):=by
 obtain ⟨places,hx⟩:=reads os enc
 refine returnsInHanded_of_row (C:=Tryz.checked) (s:=OpenSpec.ofChange Rows.nearKnownSpec) B1X started (by kernel_rfl) Tryz.func11
  (witness_row_at (enc:=enc) (C:=Tryz.checked) false (laidWorld os) wit rfl (by kernel_rfl) (by kernel_rfl) (by kernel_rfl)
   (OpenSpec.preRow_of_cond 8 hx (by kernel_rfl) (fun k hk=>by cases hk) (by kernel_rfl) (A8u os))) ?_
 intro W base args ds gs before hval hW _ _ _ hL _ _
 exact A9x H enc W base args ds gs before hval hW hL
theorem A8d : Rows.NearKnownSaid :=
 OpenClaim.holds_of_cond 11 Tryz.f11 rfl rfl rfl rfl rfl rfl rfl ⟨rfl,rfl,rfl,rfl,rfl⟩ rfl rfl rfl rfl rfl (by kernel_rfl) Tryz.func11 (by kernel_rfl)
  (of_decide_eq_true (by kernel_rfl)) (by unfold Func.isWrapper;first | (rw [if_pos (by decide +kernel)];kernel_rfl) | (rw [if_neg (by decide +kernel)];exact ⟨rfl,rfl⟩))
  (fun os started H enc _ F=>by rw [OpenClaim.pre_eq_preRow];exact B1C os started H enc F)
theorem plain (f : FuncId) (fn : Func) (hf : Tryz.pinned.checked.prog.funcNamed Rows.nearKnownRow.func = some f) (hfn : Tryz.pinned.checked.prog.funcs[f]? = some fn) :
  false = Tryz.pinned.checked.prog.looks [] ∧ ∀ (j : Nat) t,fn.params[j]? = some t → Tryz.pinned.checked.prog.wantsStandIn t = false:=by
 obtain rfl : f = 11:=Option.some.inj ((show Tryz.prog.funcNamed Rows.nearKnownRow.func = some 11 by kernel_rfl).symm.trans hf) |>.symm
 obtain rfl : fn = Tryz.f11:=(Option.some.inj (Tryz.func11.symm.trans hfn)).symm
 refine ⟨by kernel_rfl,fun j t ht=>?_⟩
 have h : (Tryz.f11.params.toList.all fun t=>!Tryz.prog.wantsStandIn t) = true:=by kernel_rfl
 have := List.all_eq_true.1 h t (Array.mem_toList_iff.2 (Array.mem_of_getElem? ht))
 have h2 : Tryz.prog.wantsStandIn t = false:=by simpa using this
 exact h2
theorem card : Rows.NearKnownCardSaid :=
 Claim7.holds_tied_plain_at .later [] _ _ _ _ A8d (fun _ h=>by cases h) (by kernel_rfl) (fun _ h=>by cases h) nearKnown_row_tie rfl ⟨rfl,rfl⟩ (by kernel_rfl) rfl plain (by kernel_rfl)
end Go.Proofs.YtjmopgepnndckaaGreatDoor.nearKnown
namespace Go.Proofs.YtjmopgepnndckaaGreatDoor
theorem nearKnown_holds : Rows.NearKnownCardSaid:=nearKnown.card
#print axioms nearKnown_holds
end Go.Proofs.YtjmopgepnndckaaGreatDoor
