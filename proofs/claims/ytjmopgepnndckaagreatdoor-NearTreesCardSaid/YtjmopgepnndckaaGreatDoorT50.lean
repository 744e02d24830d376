/-
  The claim's theorem: NearNe NearTr NearTreesZ.
-/
import Derived.Test.YtjmopgepnndckaaGreatDoorT47
import Derived.Test.YtjmopgepnndckaaGreatDoorT48
import Derived.Test.YtjmopgepnndckaaGreatDoorT49
import Derived.Laws.EntriesVeiled
set_option linter.unusedSimpArgs false
set_option linter.unusedVariables false
set_option maxHeartbeats 16000000
set_option maxRecDepth 100000
namespace Go.Proofs.YtjmopgepnndckaaGreatDoor
open Go Go.RowKit Go.Shelf
theorem A5x (d : Option Tmp) (ty : TypeId) (pos : String) (af : Array Edge) (gd : Option (Nat × Bool)) : J8 Tryz.prog ⟨d,.alloc 136,ty,pos,af,gd⟩ = .cells #[.slice none 0 0,.slice none 0 0,.slice none 0 0,.int .i64 0,.nilFunc,.slice none 0 0,.int .i64 0] 136:=by kernel_rfl
theorem A3B : ∀ t ∈ [45,47,49,136],K4 Tryz.prog t:=by
 intro t ht
 simp only [List.mem_cons,List.not_mem_nil,or_false] at ht
 rcases ht with rfl | rfl | rfl | rfl
 ·exact fun _ _ _ _ _ _=>by rw [I0];kernel_rfl
 ·exact fun _ _ _ _ _ _=>by rw [A0w];kernel_rfl
 ·exact fun _ _ _ _ _ _=>by rw [S6];kernel_rfl
 ·exact fun _ _ _ _ _ _=>by rw [A5x];kernel_rfl
theorem B2T (b99 keep s n m L t : Nat) (R N Qa : Ax) (rs : List Rq) (ns : List NdT) (q : List Rat) (MF : FuncId) (MC : Array Value) (mf : List Ht → Option Rat) (I : World → Prop) (w0 : World) (hb : w0.heap.size ≤ b99) (hk : keep ≤ 100000) (hn : rs.length = n) (hn2 : n ≤ 300) (hm : ns.length = m) (hm2 : m ≤ 300) (hL2 : L ≤ 20) (hq : q.length = L) (hrl : ∀ r ∈ rs,r.2.2.length = L)
  (hs1 : ∀ r ∈ rs,∀ x ∈ r.2.2,qs x ≤ t) (hs2 : ∀ x ∈ q,qs x ≤ t) (hts : 100 * t + 200 ≤ s) (hBz : 4 * s + 1000 ≤ BIG)
  (HM : MostOK b99 w0.heap.size (.slice R.1 n R.2) (.slice N.1 m N.2) (.slice Qa.1 L Qa.2) (.int .i64 (keep : Nat)) MF MC mf I w0) (hms : ∀ hs m,(∀ x ∈ hs,qs x.2 ≤ s) → mf hs = some m → qs m ≤ s)
  (hLR : Lrq w0 R.1 rs) (hLN : Le ndL 4 w0 N.1 ns) (hLQ : Lq w0 Qa.1 q) (hfine : A10 (rs.map (·.2.2)) L ns) (HT0 : Tab w0) (f : Nat) : A4e b99 keep s (.slice R.1 n R.2) (.slice N.1 m N.2) (.slice Qa.1 L Qa.2) MF MC mf I w0 (rs.map (·.2.2)) q L ns f:=by
 induction f using Nat.strongRecOn with
 | ind f ih=>exact B0r b99 keep s n m L t R N Qa rs ns q MF MC mf I w0 hb hk hn hn2 hm hm2 hL2 hq hrl hs1 hs2 hts hBz HM hms hLR hLN hLQ hfine HT0 f ih
theorem B4v (args : Array Value) (W : World) : Sem.run Tryz.prog (callFunc 72 args) W = .ok (.enter 72 args) W:=by kernel_rfl
theorem B0J {k s : Nat} {hs : List Ht} {m : Rat} (h : ∀ x ∈ hs,qs x.2 ≤ s) (hm : J6 k hs = some m) : qs m ≤ s:=by
 unfold J6 at hm
 split at hm
 ·cases hm
 ·cases hl : hs.getLast? with
  | none=>rw [hl] at hm;cases hm
  | some x =>
   rw [hl] at hm
   cases hm
   exact h x (List.mem_of_getLast? hl)
theorem A9q (b9 b5 n m L k : Nat) (R N Qa : Ax) (w : World) (hk0 : 0 < k) (hk : k ≤ 300) : MostOK b9 w.heap.size (.slice R.1 n R.2) (.slice N.1 m N.2) (.slice Qa.1 L Qa.2) (.int .i64 (k : Nat)) 72 #[.pointer (some ⟨b9,0,none⟩),.pointer (some ⟨b5,0,none⟩)] (J6 k) (fun W=>Blk W b5 3 #[.int .i64 (k : Nat)]) w :=
 ⟨B4v,fun HA HC hs lk W hg hI hl hS=>B4a b9 b5 k hs.length HC HA hs rfl hl (by omega) hk0 W (fun W' hg'=>(hS.blk.grow hg').cell 5) (fun W' hg'=>(hI.grow hg').cell 0) hS.lh.1,fun W W' hk hI=>hk.blk _ _ _ (by decide) (by decide) hI⟩
theorem A9t (R N Qa : Ax) (rs : List Rq) (n L m k : Nat) (ns : List NdT) (q : List Rat) (hn : rs.length = n) (hn1 : 1 ≤ n) (hn2 : n ≤ 300) (hL1 : 1 ≤ L) (hL2 : L ≤ 20) (hrl : ∀ r ∈ rs,r.2.2.length = L) (hm : ns.length = m) (hq : q.length = L) (hk0 : 0 < k) (hk : k ≤ 300) (t : Nat) (hs1 : ∀ r ∈ rs,∀ x ∈ r.2.2,qs x ≤ t) (hs2 : ∀ x ∈ q,qs x ≤ t) (hBz : 400 * t + 2000 ≤ BIG)
  (hc : G8 (rs.map (·.2.2)) L ns = 0) (w : World) (hR : Lrq w R.1 rs) (hN : Le ndL 4 w N.1 ns) (hQ : Lq w Qa.1 q) (HT : Tab w) :
  Calls Tryz.prog 38 #[G9 R n N m,.slice Qa.1 L Qa.2,.int .i64 (k : Nat)] w (G5 (fun x : Ax × Nat=>.tuple #[.slice x.1.1 (min k n) x.1.2,.int .i64 (x.2 : Nat),.int .i64 0]) (fun x W=>Lh W x.1.1 (E0 k (E5 (N4 (rs.map (·.2.2)) q L) n)) ∧ min k n ≤ x.2 ∧ x.2 ≤ n) w):=by
 have hXl : (rs.map (·.2.2)).length = n:=by rw [List.length_map,hn]
 obtain ⟨s,hsz,hlay,hsn,hnl⟩:=B3s hc
 have hmn : m = n:=by omega
 have hck : ∀ W,A3 w W → Calls Tryz.prog 32 #[G9 R n N m] W fun e w'=>e = .returned (.int .i64 0) ∧ A3 W w':=fun W hg=>by
  have h:=A7I R N rs n L m ns hn hn1 hn2 hL1 hL2 hrl hm (by omega) t hs1 (by omega) W (hR.grow hg) (hN.grow hg)
  rw [hc] at h
  exact h
 have hlk:=B3V (q:=q) (keep:=k) (most:=J6 k) hc hsn
 have hbs:=A9R (q:=q) hk0 hc hlay hsn
 rw [hXl] at hlk hbs
 have hbl : (E0 k (E5 (N4 (rs.map (·.2.2)) q L) n)).length = min k n:=by rw [A13];unfold E5;simp
 have hvi:=fun (b9 b5 : Nat) (hb : w.heap.size ≤ b9)=>B2T b9 k (100 * t + 200) n m L t R N Qa rs ns q 72 #[.pointer (some ⟨b9,0,none⟩),.pointer (some ⟨b5,0,none⟩)] (J6 k) (fun W=>Blk W b5 3 #[.int .i64 (k : Nat)]) w hb (by omega) hn hn2 hm (by omega) hL2 hq hrl hs1 hs2 (Nat.le_refl _) (by omega) (A9q b9 b5 n m L k R N Qa w hk0 hk) (fun hs m h1 h2=>B0J h1 h2) hR hN hQ (A38 hc) HT s.size s 0 [] 0 none 0
 obtain ⟨st,hst⟩ : ∃ x,x = F7 (rs.map (·.2.2)) q L (J6 k) k (toK ns s 0) ([],0):=⟨_,rfl⟩
 rw [← hst] at hlk hbs
 simp only [← hst] at hvi
 obtain ⟨hs9,lk9⟩:=st
 simp only at hlk hbs hvi
 have hvi2 : ∀ (b9 b5 : Nat) (hb : w.heap.size ≤ b9) W,A3 w W → Blk W b5 3 #[.int .i64 (k : Nat)] → SrW b9 w.heap.size (.slice R.1 n R.2) (.slice N.1 m N.2) (.slice Qa.1 L Qa.2) (.int .i64 (k : Nat)) (.func (.func 72) #[] #[.pointer (some ⟨b9,0,none⟩),.pointer (some ⟨b5,0,none⟩)]) none 0 [] 0 W → _:=fun b9 b5 hb W hg hI hS=>hvi b9 b5 hb W hsz (Nat.le_refl _) hlay hg hI ⟨fun x hx=>(by cases hx),List.Pairwise.nil,Nat.le_refl _⟩ (by omega) hS
 have hrow0 : ∃ (bb ob : Nat) (Ar : Option Addr) (cr : Nat),R.1 = some ⟨bb,ob,none⟩ ∧ ∀ W,A3 w W → W.cell? ⟨bb,ob,none⟩ = some (.slice Ar L cr):=by
  obtain ⟨bb,ob,e⟩:=hR.addr (by omega)
  rw [e] at hR
  have hil : 0 < rs.length:=by omega
  refine ⟨bb,ob,rs[0].1,rs[0].2.1,e,fun W hg=>?_⟩
  have h3:=((hR.grow hg).read (List.getElem?_eq_getElem hil)).1
  rw [hrl _ (List.getElem_mem hil),Nat.add_zero] at h3
  exact h3
 obtain ⟨RA,RC⟩:=R
 obtain ⟨NA,NC⟩:=N
 obtain ⟨QA,QC⟩:=Qa
 simp only at hrow0
 obtain ⟨bb,ob,Ar,cr,rfl,hr0⟩:=hrow0
 rw [← hbs]
 rw [← hbs] at hbl
 have f1 : decide ((k : Int) < 1) = false:=by simp;omega
 have f1n : decide (k < 1) = false:=by simp;omega
 have f1z : decide (k = 0) = false:=by simp;omega
 have f2 : decide (300 < (k : Int)) = false:=by simp;omega
 have f2n : decide (300 < k) = false:=by simp;omega
 have hni : (0 : Int) < (n : Int):=by omega
 have hne : ((L : Int) != (L : Int)) = false:=by simp
 have Hck:=Lib.hid hck
 have Hvi:=Lib.hid hvi2
 have Hr0:=Lib.hid hr0
 have Hlk:=Lib.hid hlk
 have Hbl:=Lib.hid hbl
 clear hck hvi hvi2 hr0 hlk hbl hbs hst hc hR hN hQ hlay hsz hsn hnl hXl hs1 hs2 hBz hrl hn hq hm hmn
 go_enter Tryz.func38,Tryz.ntmps38
 refine en2 ?_
 intro u hG b5 b3 hB hF
 refine wp_seq ?_
 refine wp_seq (rsE A3B [0,1,0,0,0,0,0,0,0,0,0] hB hG fun L hL=>?_)
 refine gs ?_
 refine gmd (C:=fun v ⟨hgu,hB,hG,_⟩=>Hck.out _ hG) ?_
 refine gs ?_
 refine geT hL ?_
 clear hB hG hL L
 rintro u ⟨-,hB,hG,-⟩
 refine wp_cond_false (rfl) ?_
 refine wp_skip ?_
 refine A4 ?_
 refine wp_seq ?_
 refine wp_seq ?_
 have q0:=Hr0.out u hG
 refine r0N ?_
 refine wp_cond_false (rfl) ?_
 refine wp_skip ?_
 refine A4 ?_
 refine wp_seq (rsC A3B [0,0,0,2] hB hG fun K L hN hL=>?_)
 refine gs ?_
 refine gaa (A5x _ _ _ _ _) fun b9 hb9 hn9=>?_
 replace hF:=hF.n1 [] hB hG hb9 hn9
 refine geC hL ?_
 clear hB hG hL L
 rintro u ⟨⟨-,hB,hG,-⟩,h9⟩
 replace hB:=hB.cons' h9
 clear h9
 clear hb9 hn9
 refine gtT ?_
 clear hN K
 refine st hB hF hG 0 0 [_,_,_,_,_,_,_] ?_
 clear hB hG
 intro u hB hG
 refine wp_seq ?_
 have q0:=Hr0.out u hG
 refine r0N ?_
 refine st hB hF hG 0 4 [_] ?_
 clear hB hG
 intro u hB hG
 refine wp_seq ?_
 have q0:=Hr0.out u hG
 refine r0N ?_
 refine st hB hF hG 0 3 [_] ?_
 clear hB hG
 intro u hB hG
 refine wp_seq ?_
 have h9w:=hF.1 b9 (by simp)
 have hI:=hB.tail.tail.head
 have hv:=Hvi.out b9 b5 h9w u hG hI ⟨hB.head,World.ownsRow_nil _ _ _ _⟩
 have HV:=Lib.hid hv
 clear hv hI
 refine F9 ?_
 intro K hN
 go_wp2_with (go_at_call 73;refine HV.out.mono ?_;rintro e w5 ⟨rfl,HA5,HC5,q0,q1,q2⟩)
 refine NoK.norm (hN _ _ ?_)
 clear hN K HV hB hG hF
 have hG:=q2
 have hB9:=q0.blk
 rw [Hbl.out] at hB9
 have hB:=Bx.cons hB9 (Bx.nil w5)
 have HL9:=Lib.hid q0.lh.1
 clear hB9 q0 q1 q2 h9w Hvi
 obtain ⟨u,rfl⟩ : ∃ x,x = w5:=⟨_,rfl⟩
 refine A4 ?_
 refine wp_seq (rdC A3B [] [(0,0),(0,1),(0,2),(0,3),(0,4),(0,5)] hB hG fun K L hN hL=>?_)
 refine gs ?_
 refine geC hL ?_
 clear hB hG hL L
 rintro u ⟨hgu,hB,hG,-⟩
 have HL8:=Lib.hid (HL9.out.grow hgu)
 clear hgu
 refine gtT ?_
 clear hN K
 refine rt Tryz.results38 ?_
 exact ⟨((HA5,HC5),lk9),rfl,⟨HL8.out,by have h1:=Hlk.out.2;have h2:=Hbl.out;omega,Hlk.out.1⟩,hG⟩
theorem B5o (R N Qa : Ax) (rs : List Rq) (n L m LQ k : Nat) (ns : List NdT) (hn : rs.length = n) (hn1 : 1 ≤ n) (hn2 : n ≤ 300) (hL1 : 1 ≤ L) (hL2 : L ≤ 20) (hrl : ∀ r ∈ rs,r.2.2.length = L) (hm : ns.length = m) (hm2 : m ≤ 300) (t : Nat) (hs1 : ∀ r ∈ rs,∀ x ∈ r.2.2,qs x ≤ t) (hBz : 400 * t + 2000 ≤ BIG)
  (hc : G8 (rs.map (·.2.2)) L ns ≠ 0) (w : World) (hR : Lrq w R.1 rs) (hN : Le ndL 4 w N.1 ns) :
  Calls Tryz.prog 38 #[G9 R n N m,.slice Qa.1 LQ Qa.2,.int .i64 (k : Nat)] w fun e w'=>e = .returned (.tuple #[.slice none 0 0,.int .i64 0,.int .i64 1]) ∧ A3 w w':=by
 have hck:=fun W (hg : A3 w W)=>A7I R N rs n L m ns hn hn1 hn2 hL1 hL2 hrl hm hm2 t hs1 (by omega) W (hR.grow hg) (hN.grow hg)
 obtain ⟨C,hC⟩ : ∃ C,C = G8 (rs.map (·.2.2)) L ns:=⟨_,rfl⟩
 rw [← hC] at hc
 simp only [← hC] at hck
 have f0 : ((C : Int) != 0) = true:=by simp;omega
 have Hck:=Lib.hid hck
 clear hck hc hC hR hN hs1 hBz hrl hn hm
 go_enter Tryz.func38,Tryz.ntmps38
 refine en2 ?_
 intro u hG b5 b3 hB hF
 refine wp_seq ?_
 refine wp_seq (rsE A3B [0,1,0,0,0,0,0,0,0,0,0] hB hG fun L hL=>?_)
 refine gs ?_
 refine gmd (C:=fun v ⟨hgu,hB,hG,_⟩=>Hck.out _ hG) ?_
 refine gs ?_
 refine geT hL ?_
 clear hB hG hL L
 rintro u ⟨-,hB,hG,-⟩
 refine wp_cond_true (rfl) ?_
 refine r0T ?_
 refine rt Tryz.results38 ?_
 exact ⟨rfl,hG⟩
end Go.Proofs.YtjmopgepnndckaaGreatDoor
namespace Go.Proofs.YtjmopgepnndckaaGreatDoor
open Go Go.RowKit
theorem B5O (A : Option Addr) (la : List Int) (ca : Nat) (B : Option Addr) (lb : List Int) (cb : Nat) (n wd same k way at0 by0 : Int) (hla : la.length ≤ 9223372036854775807) (hac : la.length ≤ ca) (hba : ∀ x ∈ la,-9223372036854775808 ≤ x ∧ x ≤ 9223372036854775807) (hlb : lb.length ≤ 9223372036854775807) (hbb : ∀ x ∈ lb,-9223372036854775808 ≤ x ∧ x ≤ 9223372036854775807) (lo2 : -9223372036854775808 ≤ n) (hi2 : n ≤ 9223372036854775807) (lo3 : -9223372036854775808 ≤ wd) (hi3 : wd ≤ 9223372036854775807) (lo4 : -9223372036854775808 ≤ same) (hi4 : same ≤ 9223372036854775807) (lo5 : -9223372036854775808 ≤ k) (hi5 : k ≤ 9223372036854775807) (lo6 : -9223372036854775808 ≤ way) (hi6 : way ≤ 9223372036854775807) (lo7 : -9223372036854775808 ≤ at0) (hi7 : at0 ≤ 9223372036854775807) (lo8 : -9223372036854775808 ≤ by0) (hi8 : by0 ≤ 9223372036854775807)
  (w : World) (h1 : Li w A la) (h2 : Li w B lb) (HT : Tab w) :
  Calls Tryz.prog 8 #[.slice A la.length ca,.slice B lb.length cb,.int .i64 n,.int .i64 wd,.int .i64 same,.int .i64 k,.int .i64 way,.int .i64 at0,.int .i64 by0] w fun e w'=>e = .returned (.bool true) ∧ A3 w w':=by
 clear lo2 hi2 lo3 hi3 lo4 hi4 lo5 hi5 lo6 hi6 lo7 hi7 lo8 hi8
 obtain ⟨pa,hpa⟩ : ∃ p,p = la.length:=⟨_,rfl⟩
 obtain ⟨pb,hpb⟩ : ∃ p,p = lb.length:=⟨_,rfl⟩
 rw [← hpa] at hac ⊢
 rw [← hpb]
 have hBB : 100000 ≤ BIG:=by unfold BIG;omega
 have hLIM : LIM = 1099511627760:=rfl
 have rN:=U6 n (m:=12) (by omega)
 have rL:=U6 wd (m:=3) (by omega)
 have rK:=U6 k (m:=13) (by omega)
 obtain ⟨N,hN⟩ : ∃ N : Nat,F3 n 12 = (N : Int):=⟨(F3 n 12).toNat,by omega⟩
 obtain ⟨Lw,hLw⟩ : ∃ Lw : Nat,F3 wd 3 + 1 = (Lw : Int):=⟨(F3 wd 3 + 1).toNat,by omega⟩
 have hN11 : N ≤ 11:=by omega
 have hL1 : 1 ≤ Lw:=by omega
 have hL3 : Lw ≤ 3:=by omega
 have hr : ∀ W,A3 w W → Calls Tryz.prog 12 #[.slice A pa ca,.int .i64 n,.int .i64 wd,.int .i64 same] W (G5 (fun x : Ax × List Rq=>.slice x.1.1 N x.1.2) (fun x W=>A0T N Lw x.2 ∧ Lrz W x.1.1 x.2) W):=fun W hg=>A88 A la ca pa N Lw n wd same hpa hac hN hLw (by omega) hba W (h1.grow hg)
 have hp3:=fun W=>X7 k 13 (by omega) (by omega) W
 obtain ⟨kp,hkp⟩ : ∃ y,y = F3 k 13:=⟨_,rfl⟩
 rw [← hkp] at rK
 simp only [← hkp] at hp3
 obtain ⟨K,hK⟩ : ∃ K : Nat,kp + 1 = (K : Int):=⟨(kp + 1).toNat,by omega⟩
 have fk : IntKind.i64.wrap (kp + 1) = (K : Int):=by rw [IntWalk.i64_in _ (by omega)];exact hK
 have hK1 : 1 ≤ K:=by omega
 have hK2 : K ≤ 13:=by omega
 have hq : ∀ W,A3 w W → Calls Tryz.prog 13 #[.slice B pb cb,.int .i64 Lw] W (G5 (fun x : Ax=>.slice x.1 Lw x.2) (fun x W'=>Lz W' x.1 (O5 lb Lw)) W):=fun W hg =>
  (A8Z B lb cb pb Lw hpb (by omega) (by omega) hbb W (h2.grow hg)).mono fun e w' ⟨v,ps,he,e1,e2,e3,hg'⟩=>by
   obtain ⟨A2,c2,rfl,-,-,hLz,-⟩:=A4U e3 e2
   rw [e1] at hLz
   exact ⟨(A2,c2),he,hLz,hg'⟩
 have lP:=A6R lb Lw
 have sP:=A6Y lb Lw
 generalize O5 lb Lw = P at *
 have hip : ∀ (W : World) (X : Ax),Lz W X.1 P → Tab W → Calls Tryz.prog 17 #[.slice X.1 Lw X.2] W (G5 (fun x : Ax=>.slice x.1 Lw x.2) (fun x W=>Lq W x.1 P) W):=fun W X hX hT =>
  (B4J X.1 P X.2 Lw lP.symm (by omega) (fun x hx=>Nat.le_trans (sP x hx) (by omega)) W hX hT).mono fun e w' ⟨A',c',he,h,hg'⟩=>⟨(A',c'),he,h,hg'⟩
 have Hr:=Lib.hid hr
 have Hq:=Lib.hid hq
 have Hip:=Lib.hid hip
 have Hp3:=Lib.hid hp3
 have LP:=Lib.hid lP
 have SP:=Lib.hid sP
 clear hLw hr hq hip hp3 lP sP h1 h2 hba hbb hpa hpb hla hlb hac rN rL rK hN hK hkp
 go_enter Tryz.func8,Tryz.ntmps8
 refine en0 ?_
 intro u hG hB hF
 refine wp_seq (rsE B6 [0,0,0,0,1,0] hB hG fun L hL=>?_)
 refine gs ?_
 refine gxd (X:=(Ax × List Rq)) (fun x : Ax × List Rq=>.slice x.1.1 N x.1.2) (fun x W=>A0T N Lw x.2 ∧ Lrz W x.1.1 x.2) (fun x u u' hg h=>⟨h.1,h.2.grow hg⟩) (fun x29=>?_) (C:=by (rintro v ⟨hgu,hB,hG,-⟩;exact Hr.out _ hG))
 refine gs ?_
 refine geT hL ?_
 clear hB hG hL L
 rintro u ⟨⟨hgu,hB,hG,-⟩,hx29⟩
 have HX:=Lib.hid hx29
 clear hx29
 clear hgu
 have HG0:=Lib.hid hG
 clear hB hF hG
 obtain ⟨w0,rfl⟩ : ∃ x,x = w:=⟨_,rfl⟩
 obtain ⟨w,hwu⟩ : ∃ x,x = u:=⟨_,rfl⟩
 rw [← hwu] at HG0 HX
 have hB:=Bx.nil u
 have hF:=Fr.nil w
 have hG : A3 w u:=hwu ▸ A3.refl u
 clear hwu
 obtain ⟨⟨RA,RC⟩,rs⟩:=x29
 obtain ⟨hok,hLx⟩:=HX.out
 simp only at hok hLx
 have HT':=HT.grow HG0.out
 have Hq2:=Lib.hid (fun W (hg : A3 w W)=>Hq.out W (HG0.out.trans hg))
 have HRZ:=Lib.hid hLx
 have Hok:=Lib.hid hok
 clear HT HX Hr hLx hok Hq
 have HT:=HT'
 clear HT'
 refine wp_seq ?_
 rcases Nat.eq_zero_or_pos N with hN0 | hN0
 ·subst hN0
  have Hle:=Lib.hid (fun W=>B0j RA RC W)
  refine wp_seq (rsE B6 [0,1,0] hB hG fun L hL=>?_)
  refine gs ?_
  refine gmw (C:=fun v=>Hle.out _) ?_
  refine gs ?_
  refine geT hL ?_
  clear hB hG hL L
  rintro u ⟨-,hB,hG,-⟩
  refine wp_cond_true (rfl) ?_
  refine wp_seq (rsE B6 [1,0] hB hG fun L hL=>?_)
  refine gmd (C:=fun v ⟨hgu,hB,hG,_⟩=>A4B _ (HT.grow hG)) ?_
  refine gs ?_
  refine geT hL ?_
  clear hB hG hL L
  rintro u ⟨-,hB,hG,-⟩
  refine rt Tryz.results8 ?_
  exact ⟨rfl,HG0.out.trans hG⟩
 ·have hok:=Hok.out
  obtain ⟨X,hXe⟩ : ∃ X,X = rs.map (·.2.2):=⟨_,rfl⟩
  have hXl : X.length = N:=by rw [hXe,List.length_map];exact hok.1
  have hfl : (P4 (K6 X Lw (List.range N) 0) 0).length = N:=by rw [A2J,A1l,List.length_range]
  obtain ⟨ns,hns⟩ : ∃ l,l = P4 (K6 X Lw (List.range N) 0) 0:=⟨_,rfl⟩
  rw [← hns] at hfl
  have hle:=fun W (hg : A3 w W)=>A5z RA rs N Lw RC hok.1 hN0 (by omega) hL1 (by omega) (fun r hr=>(hok.2 r hr).1) W (HRZ.out.grow hg)
  have hrb : ∀ W,A3 w W → Calls Tryz.prog 28 #[.slice RA N RC] W (G5 (fun x : Ax=>G9 (RA,RC) N x N) (fun x W=>Le ndL 4 W x.1 ns) W):=fun W hg=>by
   have h:=B3j RA rs N Lw RC hok.1 hN0 (by omega) hL1 (by omega) (fun r hr=>(hok.2 r hr).1) 50 (fun r hr=>(hok.2 r hr).2) (by omega) W (HRZ.out.grow hg)
   rw [← hXe,← hns] at h
   exact h.mono fun e w' ⟨x,h1,h2,h3⟩=>⟨x,h1,A8K h2,h3⟩
  have hsp : ∀ W (N2 : Ax),Le ndL 4 W N2.1 ns → Calls Tryz.prog 27 #[G9 (RA,RC) N N2 N,.int .i64 way,.int .i64 at0,.int .i64 by0] W (G5 (fun x : (Ax × Nat) × List NdT=>G9 (RA,RC) N x.1.1 x.1.2) (fun x W=>(∃ B,T7 B x.1.1.1 x.2 W) ∧ x.2.length = x.1.2 ∧ x.1.2 ≤ N) W):=fun W N2 h =>
   (B4B RA N2.1 RC N2.2 N N ns hfl hN0 (by omega) way at0 by0 W h).mono fun e w' ⟨x,h1,h2,h3⟩=>⟨x,h1,⟨⟨_,h2.1⟩,h2.2⟩,h3⟩
  have Hle:=Lib.hid hle
  have Hrb:=Lib.hid hrb
  have Hsp:=Lib.hid hsp
  have HXe:=Lib.hid hXe
  have HXl:=Lib.hid hXl
  clear hle hrb hsp hns hfl hXe hXl hok
  refine wp_seq (rsE B6 [0,1,0] hB hG fun L hL=>?_)
  refine gs ?_
  refine gmd (C:=fun v ⟨hgu,hB,hG,_⟩=>Hle.out _ hG) ?_
  refine gs ?_
  refine geT hL ?_
  clear hB hG hL L
  rintro u ⟨-,hB,hG,-⟩
  refine wp_cond_false (rfl) ?_
  refine wp_skip ?_
  refine A4 ?_
  refine wp_seq (rsC B6 [0,1,0,0,0,1,2] hB hG fun K L hN hL=>?_)
  refine gs ?_
  refine gxd (X:=Ax) (fun x : Ax=>G9 (RA,RC) N x N) (fun x W=>Le ndL 4 W x.1 ns) (fun x u u' hg h=>Le.grow h hg) (fun x35=>?_) (C:=by (rintro v ⟨hgu,hB,hG,-⟩;exact Hrb.out _ hG))
  refine gs ?_
  refine gxd (X:=((Ax × Nat) × List NdT)) (fun x : (Ax × Nat) × List NdT=>G9 (RA,RC) N x.1.1 x.1.2) (fun x W=>(∃ B,T7 B x.1.1.1 x.2 W) ∧ x.2.length = x.1.2 ∧ x.1.2 ≤ N) (fun x u u' hg h=>⟨h.1.elim fun B hB=>⟨B,hB.grow hg⟩,h.2⟩) (fun x39=>?_) (C:=by (rintro v ⟨⟨hgu,hB,hG,-⟩,hx35⟩;exact Hsp.out _ x35 hx35))
  refine gaa (A5Q _ _ _ _ _) fun b20 hb20 hn20=>?_
  replace hF:=hF.n1 [] hB hG hb20 hn20
  refine geC hL ?_
  clear hB hG hL L
  rintro u ⟨⟨⟨⟨hgu,hB,hG,-⟩,hx35⟩,hx39⟩,h20⟩
  replace hB:=hB.cons' h20
  clear h20
  obtain ⟨⟨⟨M1,M1c⟩,m⟩,ns2⟩:=x39
  obtain ⟨⟨BB,ht1⟩,ht2,ht3⟩:=hx39
  simp only at ht1 ht2 ht3
  clear hb20 hn20
  clear hgu
  refine gtT ?_
  clear hN K
  refine sv hB hF hG 0 0 [_,_] ?_
  intro u hu hBG
  have ht4:=T7.put ht1 hB.head (by decide) hu
  clear ht1 hB hG hu hx35
  have Hn2:=Lib.hid ht4.le
  have Hm2:=Lib.hid (And.intro ht2 ht3)
  clear ht4 ht2 ht3
  obtain ⟨hB,hG⟩:=hBG
  have hb20:=fun W (hg : A3 u W)=>And.intro ((hB.head.grow hg).cell 0) ((hB.head.grow hg).cell 1)
  have HG1:=Lib.hid (HG0.out.trans hG)
  have hRZ2:=HRZ.out.grow hG
  have HT':=HT.grow hG
  have hok:=Hok.out
  obtain ⟨hm2,hmN⟩:=Hm2.out
  have hrow0 : ∃ (bb ob : Nat) (Ar : Option Addr) (cr : Nat),RA = some ⟨bb,ob,none⟩ ∧ ∀ W,A3 u W → W.cell? ⟨bb,ob,none⟩ = some (.slice Ar Lw cr):=by
   obtain ⟨bb,ob,e⟩:=hRZ2.addr (by have := Hok.out.1;omega)
   subst e
   have hil : 0 < rs.length:=by have := Hok.out.1;omega
   refine ⟨bb,ob,rs[0].1,rs[0].2.1,rfl,fun W hg=>?_⟩
   have h3:=((hRZ2.grow hg).read (List.getElem?_eq_getElem hil)).1
   rw [(Hok.out.2 _ (List.getElem_mem hil)).1,Nat.add_zero] at h3
   exact h3
  have hcn:=fun W (hg : A3 u W)=>B5E (RA,RC) (M1,M1c) rs N Lw m ns2 hok.1 hN0 (by omega) hL1 (by omega) (fun r hr=>(hok.2 r hr).1) hm2 (by omega) 50 (fun r hr=>(hok.2 r hr).2) (by omega) W (hRZ2.grow hg) (Hn2.out.grow hg)
  have hof:=fun W (hg : A3 u W)=>A9k RA M1 RC M1c N m Lw rs ns2 hok (by omega) (by omega) hm2 (by omega) W (hRZ2.grow hg) (Hn2.out.grow hg) (HT'.grow hg)
  have hqr:=fun W (hg : A3 u W)=>Hq2.out W (hG.trans hg)
  obtain ⟨HL,hHL⟩ : ∃ l,l = E0 K (E5 (fun i=>H6 (G1 (rs.map (·.2.2)) i) P Lw) N):=⟨_,rfl⟩
  obtain ⟨M,hM⟩ : ∃ M,M = min K N:=⟨_,rfl⟩
  have hne1 : G8 (rs.map (·.2.2)) Lw ns2 = 0 → ∀ W (R1 N1 Q1 : Ax) (rs' : List Rq),rs'.map (·.2.2) = rs.map (·.2.2) → Lrq W R1.1 rs' → Le ndL 4 W N1.1 ns2 → Lq W Q1.1 P → Tab W → Calls Tryz.prog 38 #[G9 R1 N N1 m,.slice Q1.1 Lw Q1.2,.int .i64 (K : Nat)] W (G5 (fun x : {x : Ax × Nat // M ≤ x.2 ∧ x.2 ≤ N}=>.tuple #[.slice x.1.1.1 M x.1.1.2,.int .i64 (x.1.2 : Nat),.int .i64 0]) (fun x W=>Lh W x.1.1.1 HL) W):=fun h0 W R1 N1 Q1 rs' he h1 h2 h3 hT=>by
   have hk:=A7x hok (rs':=rs') he
   have h:=A9t R1 N1 Q1 rs' N Lw m K ns2 P hk.1 hN0 (by omega) hL1 (by omega) (fun r hr=>(hk.2 r hr).1) hm2 LP.out hK1 (by omega) 50 (fun r hr=>(hk.2 r hr).2) SP.out (by omega) (by rw [he];exact h0) W h1 h2 h3 hT
   have e : N4 (rs.map (·.2.2)) P Lw = fun i=>H6 (G1 (rs.map (·.2.2)) i) P Lw:=funext fun i=>A5X _ _ _ _
   rw [he,e,← hHL,← hM] at h
   exact h.mono fun e w' ⟨x,g1,⟨g2,g3,g4⟩,g5⟩=>⟨⟨x,g3,g4⟩,g1,g2,g5⟩
  have hne0 : G8 (rs.map (·.2.2)) Lw ns2 ≠ 0 → ∀ W (R1 N1 Q1 : Ax) (rs' : List Rq),rs'.map (·.2.2) = rs.map (·.2.2) → Lrq W R1.1 rs' → Le ndL 4 W N1.1 ns2 → Calls Tryz.prog 38 #[G9 R1 N N1 m,.slice Q1.1 Lw Q1.2,.int .i64 (K : Nat)] W fun e w'=>e = .returned (.tuple #[.slice none 0 0,.int .i64 0,.int .i64 1]) ∧ A3 W w':=fun h0 W R1 N1 Q1 rs' he h1 h2=>by
   have hk:=A7x hok (rs':=rs') he
   exact B5o R1 N1 Q1 rs' N Lw m Lw K ns2 hk.1 hN0 (by omega) hL1 (by omega) (fun r hr=>(hk.2 r hr).1) hm2 (by omega) 50 (fun r hr=>(hk.2 r hr).2) (by omega) (by rw [he];exact h0) W h1 h2
  have hrp : ∀ W (Q1 : Ax),A3 u W → Lz W Q1.1 P → Calls Tryz.prog 21 #[.slice RA N RC,.slice Q1.1 Lw Q1.2,.int .i64 (K : Nat)] W (G5 (fun x : Ax=>.slice x.1 M x.2) (fun x W=>Lhz W x.1 HL) W):=fun W Q1 hg h3=>by
   have h:=B5H RA Q1.1 rs N Lw RC Q1.2 K P hok.1 hN0 (by omega) (by omega) (by omega) (fun r hr=>(hok.2 r hr).1) LP.out 50 (fun r hr=>(hok.2 r hr).2) SP.out (by omega) W (hRZ2.grow hg) h3
   rw [← hHL,← hM] at h
   exact h
  have hll : M = HL.length:=by rw [hM,hHL,A13];unfold E5;simp
  have hls : ∀ x ∈ HL,qs x.2 ≤ LIM:=fun x hx=>by
   rw [hHL] at hx
   have := B2h (rs:=rs.map (·.2.2)) (by rw [List.length_map];exact hok.1) (fun r hr=>by obtain ⟨z,hz,rfl⟩:=List.mem_map.1 hr;exact hok.2 z hz) LP.out SP.out hL3 x (B48 hx)
   omega
  have hsm:=fun W (X Y : Ax) hX hY=>B0h X.1 Y.1 HL M X.2 Y.2 hll (by omega) hls W hX hY
  obtain ⟨C,hC⟩ : ∃ C,C = G8 (rs.map (·.2.2)) Lw ns2:=⟨_,rfl⟩
  simp only [← hC] at hcn hne1 hne0
  obtain ⟨bb,ob,Ar,cr,rfl,hr0⟩:=hrow0
  have hNi : (0 : Int) < (N : Int):=by omega
  have Hcn:=Lib.hid hcn
  have Hof:=Lib.hid hof
  have Hne1:=Lib.hid hne1
  have Hne0:=Lib.hid hne0
  have Hrp:=Lib.hid hrp
  have Hsm:=Lib.hid hsm
  have Hqr:=Lib.hid hqr
  have Hr0:=Lib.hid hr0
  have Hb20:=Lib.hid hb20
  clear hB hF hG hRZ2 HT hok hm2 hmN hcn hof hne1 hne0 hrp hll hls hsm hqr hr0 hb20 hHL hM hC HG0 Hn2 Hm2 HRZ Hok Hrb Hsp Hle HXe HXl Hq2 LP SP
  obtain ⟨w0,rfl⟩ : ∃ x,x = w:=⟨_,rfl⟩
  obtain ⟨w,hwu⟩ : ∃ x,x = u:=⟨_,rfl⟩
  rw [← hwu] at HG1 Hb20 HT' Hcn Hof Hrp Hqr Hr0
  have hB:=Bx.nil u
  have hF:=Fr.nil w
  have hG : A3 w u:=hwu ▸ A3.refl u
  have HT:=HT'
  clear hwu HT'
  refine wp_seq (rsE B6 [0,0,0,0,0,1,0] hB hG fun L hL=>?_)
  repeat first | refine gya ?_ | refine gyr ?_ | refine gna ?_ | refine gyb (by (rintro v ⟨hgu,hB,hG,-⟩ N hN;have r:=hB.r;simp only [BxR] at r;obtain ⟨q0,q1⟩:=Hb20.out v hG;have q2:=Hr0.out v hG;go_simp;exact hN)) ?_
  refine gxd (X:=Ax) (fun x : Ax=>.slice x.1 Lw x.2) (fun x W=>Lz W x.1 P) (fun x u u' hg h=>Lz.grow h hg) (fun x45=>?_) (C:=by (rintro v ⟨hgu,hB,hG,-⟩;exact Hqr.out _ hG))
  refine gs ?_
  refine geT hL ?_
  clear hB hG hL L
  rintro u ⟨⟨-,hB,hG,-⟩,hx45⟩
  refine wp_seq (rsE B6 [0,1,0,0] hB hG fun L hL=>?_)
  refine gs ?_
  refine gmw (C:=fun v=>Hp3.out _) ?_
  refine gs ?_
  refine geT hL ?_
  clear hB hG hL L
  rintro u ⟨hgu,hB,hG,-⟩
  replace hx45:=hx45.grow hgu
  clear hgu
  by_cases hC0 : C = 0
  ·subst hC0
   have Hcn2:=Lib.hid (fun W hg=>(Hcn.out W hg : Calls Tryz.prog 29 #[G9 (some ⟨bb,ob,none⟩,RC) N (M1,M1c) m] W fun e w'=>e = .returned (.int .i64 0) ∧ A3 W w'))
   have Hne:=Lib.hid (Hne1.out rfl)
   clear Hcn Hne1 Hne0
   refine wp_seq (rsE B6 [0,1,0,1,0,1,0,0,0,0,0,0,0] hB hG fun L hL=>?_)
   repeat first | refine gya ?_ | refine gyr ?_ | refine gna ?_ | refine gyb (by (rintro v ⟨hgu,hB,hG,-⟩ N hN;have r:=hB.r;simp only [BxR] at r;obtain ⟨q0,q1⟩:=Hb20.out v hG;have q2:=Hr0.out v hG;go_simp;exact hN)) ?_
   refine gxd (X:=((Ax × Ax) × List Rq)) (fun x : (Ax × Ax) × List Rq=>G9 x.1.1 N x.1.2 m) (fun x W=>(Lrq W x.1.1.1 x.2 ∧ Le ndL 4 W x.1.2.1 ns2) ∧ x.2.map (·.2.2) = rs.map (·.2.2)) (fun x u u' hg h=>⟨⟨h.1.1.grow hg,h.1.2.grow hg⟩,h.2⟩) (fun x51=>?_) (C:=by (rintro v ⟨hgu,hB,hG,-⟩;exact Hof.out _ hG))
   refine gs ?_
   refine gxd (X:=Ax) (fun x : Ax=>.slice x.1 Lw x.2) (fun x W=>Lq W x.1 P) (fun x u u' hg h=>Lq.grow h hg) (fun x53=>?_) (C:=by (rintro v ⟨⟨hgu,hB,hG,-⟩,hx51⟩;exact Hip.out _ x45 (hx45.grow hgu) (HT.grow hG)))
   refine gs ?_
   refine gxd (X:={x : Ax × Nat // M ≤ x.2 ∧ x.2 ≤ N}) (fun x : {x : Ax × Nat // M ≤ x.2 ∧ x.2 ≤ N}=>.tuple #[.slice x.1.1.1 M x.1.1.2,.int .i64 (x.1.2 : Nat),.int .i64 0]) (fun x W=>Lh W x.1.1.1 HL) (fun x u u' hg h=>Lh.grow h hg) (fun x55=>?_) (C:=by (rintro v ⟨⟨⟨hgu,hB,hG,-⟩,hx51⟩,hx53⟩;exact Hne.out _ x51.1.1 x51.1.2 x53 x51.2 hx51.2 hx51.1.1 hx51.1.2 hx53 (HT.grow hG)))
   refine gs ?_
   refine geT hL ?_
   clear hB hG hL L
   rintro u ⟨⟨⟨⟨hgu,hB,hG,-⟩,hx51⟩,hx53⟩,hx55⟩
   replace hx45:=hx45.grow hgu
   have fl1 : decide ((M : Int) ≤ (x55.1.2 : Int)) = true:=by have := x55.2.1;simp;omega
   have fl1n : decide (M ≤ x55.1.2) = true:=by have := x55.2.1;simp;omega
   have fl2 : decide ((x55.1.2 : Int) ≤ (N : Int)) = true:=by have := x55.2.2;simp;omega
   have fl2n : decide (x55.1.2 ≤ N) = true:=by have := x55.2.2;simp;omega
   clear hx51 hx53
   clear hgu
   refine wp_seq ?_
   refine wp_seq (rsE B6 [0,1,0] hB hG fun L hL=>?_)
   repeat first | refine gya ?_ | refine gyr ?_ | refine gna ?_ | refine gyb (by (rintro v ⟨hgu,hB,hG,-⟩ N hN;have r:=hB.r;simp only [BxR] at r;obtain ⟨q0,q1⟩:=Hb20.out v hG;have q2:=Hr0.out v hG;go_simp;exact hN)) ?_
   refine gmd (C:=fun v ⟨hgu,hB,hG,_⟩=>Hcn2.out _ hG) ?_
   refine gs ?_
   refine geT hL ?_
   clear hB hG hL L
   rintro u ⟨hgu,hB,hG,-⟩
   replace hx45:=hx45.grow hgu
   replace hx55:=hx55.grow hgu
   clear hgu
   refine wp_cond_false (rfl) ?_
   refine wp_skip ?_
   refine A4 ?_
   refine wp_seq (rsE B6 [1,0,0,0,0,0,0,0,0,0,1,1,0,0,0,0,0,0,0,0,0,0,0,0,0,0] hB hG fun L hL=>?_)
   refine gmd (C:=fun v ⟨hgu,hB,hG,_⟩=>A4B _ (HT.grow hG)) ?_
   refine gs ?_
   refine gxd (X:=Ax) (fun x : Ax=>.slice x.1 M x.2) (fun x W=>Lhz W x.1 HL) (fun x u u' hg h=>Lhz.grow h hg) (fun x86=>?_) (C:=by (rintro v ⟨hgu,hB,hG,-⟩;exact Hrp.out _ x45 hG (hx45.grow hgu)))
   first | refine gmd (C:=fun v ⟨⟨hgu,hB,hG,_⟩,hx86⟩=>Hsm.out _ x55.1.1 x86 (Lh.grow hx55 hgu) hx86) ?_ | refine E9 ?_
   refine gs ?_
   refine geT hL ?_
   clear hB hG hL L
   rintro u ⟨⟨hgu,hB,hG,-⟩,hx86⟩
   replace hx45:=hx45.grow hgu
   replace hx55:=hx55.grow hgu
   clear hgu
   refine rt Tryz.results8 ?_
   exact ⟨rfl,HG1.out.trans hG⟩
  ·have Hcn2:=Hcn
   have Hne:=Lib.hid (Hne0.out hC0)
   have f0 : ((C : Int) != 0) = true:=by simp;omega
   clear Hcn Hne1 Hne0 hC0
   refine wp_seq (rsE B6 [0,1,0,1,0,1,0,0,0,0,0,0,0] hB hG fun L hL=>?_)
   repeat first | refine gya ?_ | refine gyr ?_ | refine gna ?_ | refine gyb (by (rintro v ⟨hgu,hB,hG,-⟩ N hN;have r:=hB.r;simp only [BxR] at r;obtain ⟨q0,q1⟩:=Hb20.out v hG;have q2:=Hr0.out v hG;go_simp;exact hN)) ?_
   refine gxd (X:=((Ax × Ax) × List Rq)) (fun x : (Ax × Ax) × List Rq=>G9 x.1.1 N x.1.2 m) (fun x W=>(Lrq W x.1.1.1 x.2 ∧ Le ndL 4 W x.1.2.1 ns2) ∧ x.2.map (·.2.2) = rs.map (·.2.2)) (fun x u u' hg h=>⟨⟨h.1.1.grow hg,h.1.2.grow hg⟩,h.2⟩) (fun x51=>?_) (C:=by (rintro v ⟨hgu,hB,hG,-⟩;exact Hof.out _ hG))
   refine gs ?_
   refine gxd (X:=Ax) (fun x : Ax=>.slice x.1 Lw x.2) (fun x W=>Lq W x.1 P) (fun x u u' hg h=>Lq.grow h hg) (fun x53=>?_) (C:=by (rintro v ⟨⟨hgu,hB,hG,-⟩,hx51⟩;exact Hip.out _ x45 (hx45.grow hgu) (HT.grow hG)))
   refine gs ?_
   refine gmd (C:=fun v ⟨⟨⟨hgu,hB,hG,_⟩,hx51⟩,hx53⟩=>Hne.out _ x51.1.1 x51.1.2 x53 x51.2 hx51.2 hx51.1.1 hx51.1.2) ?_
   refine gs ?_
   refine geT hL ?_
   clear hB hG hL L
   rintro u ⟨⟨⟨hgu,hB,hG,-⟩,hx51⟩,hx53⟩
   replace hx45:=hx45.grow hgu
   clear hx51 hx53
   clear hgu
   refine wp_seq ?_
   refine wp_seq (rsE B6 [0,1,0] hB hG fun L hL=>?_)
   repeat first | refine gya ?_ | refine gyr ?_ | refine gna ?_ | refine gyb (by (rintro v ⟨hgu,hB,hG,-⟩ N hN;have r:=hB.r;simp only [BxR] at r;obtain ⟨q0,q1⟩:=Hb20.out v hG;have q2:=Hr0.out v hG;go_simp;exact hN)) ?_
   refine gmd (C:=fun v ⟨hgu,hB,hG,_⟩=>Hcn2.out _ hG) ?_
   refine gs ?_
   refine geT hL ?_
   clear hB hG hL L
   rintro u ⟨hgu,hB,hG,-⟩
   replace hx45:=hx45.grow hgu
   clear hgu
   refine wp_cond_true (rfl) ?_
   refine wp_seq (rsE B6 [1,0,0,0,0,0,0,0,0,0,0,0,0,0,0] hB hG fun L hL=>?_)
   refine gmd (C:=fun v ⟨hgu,hB,hG,_⟩=>A4B _ (HT.grow hG)) ?_
   refine gs ?_
   refine geT hL ?_
   clear hB hG hL L
   rintro u ⟨hgu,hB,hG,-⟩
   replace hx45:=hx45.grow hgu
   clear hgu
   refine rt Tryz.results8 ?_
   exact ⟨rfl,HG1.out.trans hG⟩
end Go.Proofs.YtjmopgepnndckaaGreatDoor
namespace Go.Proofs.YtjmopgepnndckaaGreatDoor.nearTrees
open Go.ChangeShapes Go.WideShapes Go.ChangeAt Go.RowKit
theorem B0x : ∀ t ∈ Tryz.f8.params.toList,Tryz.prog.readableRec t = true ∧ t < Tryz.prog.types.size:=by
 have h : (Tryz.f8.params.toList.all fun t=>Tryz.prog.readableRec t && decide (t < Tryz.prog.types.size)) = true:=by kernel_rfl
 intro t ht
 have := List.all_eq_true.1 h t ht
 simpa using this
theorem B5l (H : Type) (enc : TypeId × Value → H) (W : World) (base : Nat) (args : Array Value) (ds gs : List (DataW H)) (before : List MemPlace)
  (hval : ∀ (j : Nat) t v,Tryz.f8.params[j]? = some t → args[j]? = some v → Value.okWide Tryz.prog W .any base t v)
  (hW : DataW.Whole enc Tryz.prog Tryz.f8.params.toList Rows.nearTreesSpec.vars false W args.toList ds gs before) (hL : laidMetH Tryz.prog Rows.nearTreesRow.laid W) :
  Calls Tryz.prog 8 args W fun e W'=>∃ v,e = .returned v ∧ Rows.nearTreesSpec.post enc Tryz.prog Tryz.f8 false true false false W args v W':=by
 have hW':=hW
 obtain ⟨p,q,hA0,hV,rfl,hfz,hnd⟩:=hW
 have hA : DataW.TrodAll enc Tryz.prog W 0 (fun _=>true) true Tryz.f8.params.toList args.toList ds p:=hA0
 rw [Tryz.params8] at hA hval
 obtain ⟨v0,vs0,d0,ds0,p0,q0,ha0,rfl,rfl,h0,hA1⟩:=trodAll_cons hA
 obtain ⟨v1,vs1,d1,ds1,p1,q1,rfl,rfl,rfl,h1,hA2⟩:=trodAll_cons hA1
 obtain ⟨v2,vs2,d2,ds2,p2,q2,rfl,rfl,rfl,h2,hA3⟩:=trodAll_cons hA2
 obtain ⟨v3,vs3,d3,ds3,p3,q3,rfl,rfl,rfl,h3,hA4⟩:=trodAll_cons hA3
 obtain ⟨v4,vs4,d4,ds4,p4,q4,rfl,rfl,rfl,h4,hA5⟩:=trodAll_cons hA4
 obtain ⟨v5,vs5,d5,ds5,p5,q5,rfl,rfl,rfl,h5,hA6⟩:=trodAll_cons hA5
 obtain ⟨v6,vs6,d6,ds6,p6,q6,rfl,rfl,rfl,h6,hA7⟩:=trodAll_cons hA6
 obtain ⟨v7,vs7,d7,ds7,p7,q7,rfl,rfl,rfl,h7,hA8⟩:=trodAll_cons hA7
 obtain ⟨v8,vs8,d8,ds8,p8,q8,rfl,rfl,rfl,h8,hA9⟩:=trodAll_cons hA8
 obtain ⟨rfl,rfl,rfl⟩:=trodAll_nil hA9
 obtain rfl : args = #[v0,v1,v2,v3,v4,v5,v6,v7,v8]:=by
  cases args
  simp_all
 obtain ⟨rfl,rfl⟩:=trodVars_none hV
 obtain ⟨A0,l0,c0,rfl,hl0,hn0,hb0,hc0⟩:=B10 (hval 0 22 v0 rfl rfl) h0
 obtain ⟨A1,l1,c1,rfl,hl1,hn1,hb1⟩:=B1I (hval 1 22 v1 rfl rfl) h1
 obtain ⟨n2,rfl,rfl,rfl,w2⟩:=open_int Tryz.underlying3 (hval 2 3 v2 rfl rfl) h2
 obtain ⟨lo2,hi2⟩:=bounds_i64 w2
 obtain ⟨n3,rfl,rfl,rfl,w3⟩:=open_int Tryz.underlying3 (hval 3 3 v3 rfl rfl) h3
 obtain ⟨lo3,hi3⟩:=bounds_i64 w3
 obtain ⟨n4,rfl,rfl,rfl,w4⟩:=open_int Tryz.underlying3 (hval 4 3 v4 rfl rfl) h4
 obtain ⟨lo4,hi4⟩:=bounds_i64 w4
 obtain ⟨n5,rfl,rfl,rfl,w5⟩:=open_int Tryz.underlying3 (hval 5 3 v5 rfl rfl) h5
 obtain ⟨lo5,hi5⟩:=bounds_i64 w5
 obtain ⟨n6,rfl,rfl,rfl,w6⟩:=open_int Tryz.underlying3 (hval 6 3 v6 rfl rfl) h6
 obtain ⟨lo6,hi6⟩:=bounds_i64 w6
 obtain ⟨n7,rfl,rfl,rfl,w7⟩:=open_int Tryz.underlying3 (hval 7 3 v7 rfl rfl) h7
 obtain ⟨lo7,hi7⟩:=bounds_i64 w7
 obtain ⟨n8,rfl,rfl,rfl,w8⟩:=open_int Tryz.underlying3 (hval 8 3 v8 rfl rfl) h8
 obtain ⟨lo8,hi8⟩:=bounds_i64 w8
 refine (B5O A0 l0 c0 A1 l1 c1 n2 n3 n4 n5 n6 n7 n8 hn0 hc0 hb0 hn1 hb1 lo2 hi2 lo3 hi3 lo4 hi4 lo5 hi5 lo6 hi6 lo7 hi7 lo8 hi8 W hl0 hl1 (B23 (by kernel_rfl) hL)).mono fun e W' ⟨he,hg⟩=>?_
 exact ⟨_,he,B1Z hW' rfl rfl rfl rfl (by kernel_rfl) B0x hg⟩
def wit : Array Value:=#[.slice none 0 0,.slice none 0 0,.int .i64 0,.int .i64 0,.int .i64 0,.int .i64 0,.int .i64 0,.int .i64 0,.int .i64 0]
theorem B4q (os : Os) : laidMet Tryz.prog Rows.nearTreesRow.laid ((laidWorld os).forCall (fun _ _=>0) ⟨#[],wit,[]⟩).memory :=
 laidMet_of_run' 8 (by kernel_rfl) (by kernel_rfl)
theorem reads (os : Os) {H : Type} (enc : TypeId × Value → H) : ∃ places,DataW.whole enc Tryz.prog ((laidWorld os).forCall (fun _ _=>0) ⟨#[],wit,[]⟩).memory Tryz.f8.params.toList Rows.nearTreesSpec.vars false wit.toList 8 = some ([.nil,.nil,.lit (.int .i64 0),.lit (.int .i64 0),.lit (.int .i64 0),.lit (.int .i64 0),.lit (.int .i64 0),.lit (.int .i64 0),.lit (.int .i64 0)],[],places) :=
 ⟨[],by kernel_rfl⟩
theorem B3o (os : Os) (started : os.Started) (H : Type) (enc : TypeId × Value → H) (F : Stop.Interp) :
  ReturnsInHanded {} Tryz.checked os 8 .any ((OpenSpec.ofChange Rows.nearTreesSpec).preRow enc Tryz.prog Tryz.f8 Rows.nearTreesRow.domain false Rows.nearTreesRow.laid) (((OpenSpec.ofChange Rows.nearTreesSpec).at F).post enc Tryz.prog Tryz.f8 false true false false):=by
 obtain ⟨places,hx⟩:=reads os enc
 refine returnsInHanded_of_row (C:=Tryz.checked) (s:=OpenSpec.ofChange Rows.nearTreesSpec) B16 started (by kernel_rfl) Tryz.func8
  (witness_row_at (enc:=enc) (C:=Tryz.checked) false (laidWorld os) wit rfl (by kernel_rfl) (by kernel_rfl) (by kernel_rfl)
   (OpenSpec.preRow_of_cond 8 hx (by kernel_rfl) (fun k hk=>by cases hk) (by kernel_rfl) (B4q os))) ?_
 intro W base args ds gs before hval hW _ _ _ hL _ _
 exact B5l H enc W base args ds gs before hval hW hL
theorem B4n : Rows.NearTreesSaid :=
 OpenClaim.holds_of_cond 8 Tryz.f8 rfl rfl rfl rfl rfl rfl rfl ⟨rfl,rfl,rfl,rfl,rfl⟩ rfl rfl rfl rfl rfl (by kernel_rfl) Tryz.func8 (by kernel_rfl)
  (of_decide_eq_true (by kernel_rfl)) (by unfold Func.isWrapper;first | (rw [if_pos (by decide +kernel)];kernel_rfl) | (rw [if_neg (by decide +kernel)];exact ⟨rfl,rfl⟩))
  (fun os started H enc _ F=>by rw [OpenClaim.pre_eq_preRow];exact B3o os started H enc F)
theorem plain (f : FuncId) (fn : Func) (hf : Tryz.pinned.checked.prog.funcNamed Rows.nearTreesRow.func = some f) (hfn : Tryz.pinned.checked.prog.funcs[f]? = some fn) :
  false = Tryz.pinned.checked.prog.looks [] ∧ ∀ (j : Nat) t,fn.params[j]? = some t → Tryz.pinned.checked.prog.wantsStandIn t = false:=by
 obtain rfl : f = 8:=Option.some.inj ((show Tryz.prog.funcNamed Rows.nearTreesRow.func = some 8 by kernel_rfl).symm.trans hf) |>.symm
 obtain rfl : fn = Tryz.f8:=(Option.some.inj (Tryz.func8.symm.trans hfn)).symm
 refine ⟨by kernel_rfl,fun j t ht=>?_⟩
 have h : (Tryz.f8.params.toList.all fun t=>!Tryz.prog.wantsStandIn t) = true:=by kernel_rfl
 have := List.all_eq_true.1 h t (Array.mem_toList_iff.2 (Array.mem_of_getElem? ht))
 have h2 : Tryz.prog.wantsStandIn t = false:=by simpa using this
 exact h2
theorem card : Rows.NearTreesCardSaid :=
 Claim7.holds_tied_plain_at .later [] _ _ _ _ B4n (fun _ h=>by cases h) (by kernel_rfl) (fun _ h=>by cases h) nearTrees_row_tie rfl ⟨rfl,rfl⟩ (by kernel_rfl) rfl plain (by kernel_rfl)
end Go.Proofs.YtjmopgepnndckaaGreatDoor.nearTrees
namespace Go.Proofs.YtjmopgepnndckaaGreatDoor
theorem nearTrees_holds : Rows.NearTreesCardSaid:=nearTrees.card
#print axioms nearTrees_holds
end Go.Proofs.YtjmopgepnndckaaGreatDoor
