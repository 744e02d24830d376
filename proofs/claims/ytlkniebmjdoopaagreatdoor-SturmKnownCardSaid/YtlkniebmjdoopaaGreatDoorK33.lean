/- Contracts and laws. -/
import Derived.Test.YtlkniebmjdoopaaGreatDoorK32
set_option linter.unusedSimpArgs false
set_option linter.unusedVariables false
set_option maxHeartbeats 32000000
set_option maxRecDepth 100000
namespace Go.Proofs.YtlkniebmjdoopaaGreatDoor
open Go Go.RowKit
def I6 (r b : List Rat) (q : Rat) (i : Nat) : Nat → List Rat
 | 0=>r
 | j + 1=>(I6 r b q i j).set (i + j) (A0e (gq (I6 r b q i j) (i + j)) (H9 q (gq b j)))
theorem A25 (r b : List Rat) (q : Rat) (i : Nat) : ∀ j,(I6 r b q i j).length = r.length
 | 0=>rfl
 | j + 1=>by unfold I6;rw [List.length_set,A25 r b q i j]
def dvX (r b : List Rat) (i : Nat) : Rat:=J5 (gq r (i + b.length - 1)) (gq b (b.length - 1))
def D0 (r b : List Rat) (k : Nat) : Nat → List Rat × List Rat
 | 0=>(List.replicate k 0,r)
 | s + 1=>((D0 r b k s).1.set (k - 1 - s) (dvX (D0 r b k s).2 b (k - 1 - s)),if dvX (D0 r b k s).2 b (k - 1 - s) = 0 then (D0 r b k s).2 else I6 (D0 r b k s).2 b (dvX (D0 r b k s).2 b (k - 1 - s)) (k - 1 - s) b.length)
theorem A0h (r b : List Rat) (k : Nat) : ∀ s,(D0 r b k s).1.length = k ∧ (D0 r b k s).2.length = r.length
 | 0=>⟨by unfold D0;simp,rfl⟩
 | s + 1=>by
  obtain ⟨h1,h2⟩:=A0h r b k s
  unfold D0
  refine ⟨by rw [List.length_set];exact h1,?_⟩
  show (if _ then _ else _ : List Rat).length = _
  split
  ·exact h2
  ·rw [A25];exact h2
def dvK (r b : List Rat) : Nat:=r.length + 1 - b.length
def B7 (a b : List Rat) : List Rat × List Rat:=(trL (D0 (trL a) (trL b) (dvK (trL a) (trL b)) (dvK (trL a) (trL b))).1,trL (D0 (trL a) (trL b) (dvK (trL a) (trL b)) (dvK (trL a) (trL b))).2)
def DvZ (r b : List Rat) (Z : Nat) : Prop:=(∀ x ∈ b,qs x ≤ Z) ∧ (∀ s,s ≤ dvK r b → ∀ x ∈ (D0 r b (dvK r b) s).2,qs x ≤ Z) ∧ ∀ s,s < dvK r b → ∀ j,j ≤ b.length → ∀ x ∈ I6 (D0 r b (dvK r b) s).2 b (dvX (D0 r b (dvK r b) s).2 b (dvK r b - 1 - s)) (dvK r b - 1 - s) j,qs x ≤ Z
structure DvW (B k n g1 g2 : Nat) (q r : List Rat) (W : World) : Prop where
 q : W.ownsRow B 39 5 (.slice (some ⟨g2,0,none⟩) k k) k (q.flatMap qL)
 r : W.ownsRow B 39 5 (.slice (some ⟨g1,0,none⟩) n n) n (r.flatMap qL)
 ne : g1 ≠ g2
section
variable {B k n g1 g2 b i : Nat} {q r : List Rat} {W W' : World} {vs : List Value}
theorem DvW.grow (h : DvW B k n g1 g2 q r W) (hg : A3 W W') : DvW B k n g1 g2 q r W':=⟨F3 h.q hg,F3 h.r hg,h.ne⟩
theorem DvW.over (h : DvW B k n g1 g2 q r W) (h1 : b ≠ g1) (h2 : b ≠ g2) (hu : E9 W b i vs = W') : DvW B k n g1 g2 q r W' :=
 ⟨A2r h.q (fun e=>h2 (Option.some.inj e).symm) hu,A2r h.r (fun e=>h1 (Option.some.inj e).symm) hu,h.ne⟩
theorem DvW.putQ (h : DvW B k n g1 g2 q r W) (hq : q.length = k) {j : Nat} (hj : j < k) (x : Rat) (hu : E9 W g2 (j * 5) (qL x) = W') : DvW B k n g1 g2 (q.set j x) r W' ∧ W.grownBy W' (some g2):=by
 obtain ⟨h1,h2⟩:=A1J (enc:=qL) (size:=5) (ps:=q) (fun _=>rfl) h.q j x (by omega)
 rw [hu] at h1 h2
 exact ⟨⟨h1,h.r.kept h2 (.inr fun e=>h.ne (Option.some.inj e)),h.ne⟩,h2⟩
theorem DvW.putR (h : DvW B k n g1 g2 q r W) (hr : r.length = n) {j : Nat} (hj : j < n) (x : Rat) (hu : E9 W g1 (j * 5) (qL x) = W') : DvW B k n g1 g2 q (r.set j x) W' ∧ W.grownBy W' (some g1):=by
 obtain ⟨h1,h2⟩:=A1J (enc:=qL) (size:=5) (ps:=r) (fun _=>rfl) h.r j x (by omega)
 rw [hu] at h1 h2
 exact ⟨⟨h.q.kept h2 (.inr fun e=>h.ne (Option.some.inj e).symm),h1,h.ne⟩,h2⟩
theorem DvW.lt1 (h : DvW B k n g1 g2 q r W) : B ≤ g1 ∧ g1 < W.heap.size:=h.r.lt g1 rfl
theorem DvW.lt2 (h : DvW B k n g1 g2 q r W) : B ≤ g2 ∧ g2 < W.heap.size:=h.q.lt g2 rfl
theorem DvW.readR (h : DvW B k n g1 g2 q r W) {j : Nat} (hj : j < r.length) : Cq W g1 (j * 5) (gq r j):=by
 obtain ⟨A,c,e,-,-,hL,-⟩:=Z8 h.r
 cases e
 have h9:=hL.read hj
 rw [Nat.zero_add] at h9
 exact h9
theorem DvW.readQ (h : DvW B k n g1 g2 q r W) {j : Nat} (hj : j < q.length) : Cq W g2 (j * 5) (gq q j):=by
 obtain ⟨A,c,e,-,-,hL,-⟩:=Z8 h.q
 cases e
 have h9:=hL.read hj
 rw [Nat.zero_add] at h9
 exact h9
end
theorem A9q {l : List Rat} {i j : Nat} {x : Rat} (hi : i < l.length) : gq (l.set i x) j = if j = i then x else gq l j:=by
 unfold gq
 rw [List.getElem?_set]
 by_cases h : i = j
 ·subst h
  simp [hi]
 ·rw [if_neg h,if_neg (fun e=>h e.symm)]
theorem B4B (A1 A2 : Option Addr) (l m : List Rat) (nl nm c1 c2 : Nat) (hl : l.length = nl) (hml : m.length = nm) (hc1 : nl ≤ c1) (hc2 : nm ≤ c2) (hb1 : nl ≤ 1000) (hb2 : nm ≤ 1000) (s : Nat) (hs1 : ∀ x ∈ l,qs x ≤ s) (hs2 : ∀ x ∈ m,qs x ≤ s) (Z : Nat) (hsZ : s ≤ Z) (hZ : DvZ (trL l) (trL m) Z) (hBZ : 8 * Z + 10 ≤ BIG) (hn0 : 0 < trN m) (w : World) (h1 : Lq w A1 l) (h2 : Lq w A2 m) (HT : Tab w) :
  Calls Tryz.prog 129 #[.slice A1 nl c1,.slice A2 nm c2] w (I1 (fun x : Ax × Ax=>.tuple #[.slice x.1.1 (B7 l m).1.length x.1.2,.slice x.2.1 (B7 l m).2.length x.2.2,.bool true]) (fun x W=>PR (B7 l m).1 x.1 W ∧ PR (B7 l m).2 x.2 W) w):=by
 have hBm:=K9
 have htr:=fun W (hg : A3 w W)=>A2P A2 m nm c2 hml hc2 (by omega) (fun x hx=>Nat.le_trans (hs2 x hx) (by omega)) W (h2.grow hg)
 have hTr:=fun W (hg : A3 w W)=>A1B A1 l nl c1 hl hc1 (by omega) (fun x hx=>Nat.le_trans (hs1 x hx) (by omega)) W (h1.grow hg)
 have hn1 : trN m ≤ nm:=by have := G4 m;omega
 have hr1 : trN l ≤ nl:=by have := G4 l;omega
 have hBl:=F4 m
 have hRl:=F4 l
 have hLB:=fun W (hg : A3 w W)=>A3W (h2.grow hg) (trN m)
 have hte : m.take (trN m) = trL m:=rfl
 rw [hte] at hLB
 unfold B7
 obtain ⟨Bp,hBp⟩ : ∃ P,P = trL m:=⟨_,rfl⟩
 obtain ⟨Rp,hRp⟩ : ∃ P,P = trL l:=⟨_,rfl⟩
 rw [← hBp] at hBl hZ ⊢
 rw [← hRp] at hRl hZ ⊢
 simp only [← hBp] at hLB
 simp only [← hRp] at hTr
 obtain ⟨n,hn⟩ : ∃ n,n = trN m:=⟨_,rfl⟩
 obtain ⟨rl,hrl⟩ : ∃ n,n = trN l:=⟨_,rfl⟩
 rw [← hn] at hn0 hn1 hBl
 rw [← hrl] at hr1 hRl
 simp only [← hn] at htr
 simp only [← hrl] at hTr
 obtain ⟨k,hk⟩ : ∃ k,k = dvK Rp Bp:=⟨_,rfl⟩
 have hkv : k = rl + 1 - n:=by rw [hk];unfold dvK;rw [hRl,hBl]
 obtain ⟨z1,z2,z3⟩:=hZ
 rw [← hk] at z2 z3 ⊢
 rw [hBl] at z3
 obtain ⟨b,o,e2⟩ : ∃ b o,A2 = some ⟨b,o,none⟩:=(hLB w (A3.refl w)).addr (by omega)
 subst e2
 have hrd : ∀ j,j < n → ∀ W,A3 w W → Cq W b (o + j * 5) (gq Bp j):=fun j hj W hg=>(hLB W hg).read (by omega)
 have zB:=fun j (hj : j < n)=>P8 z1 (i:=j) (by omega)
 obtain ⟨top,htop⟩ : ∃ t,t = gq Bp (n - 1):=⟨_,rfl⟩
 have ztop : qs top ≤ Z:=by rw [htop];exact zB _ (by omega)
 have hDX : ∀ r i,dvX r Bp i = J5 (gq r (i + n - 1)) top:=fun r i=>by unfold dvX;rw [hBl,htop]
 have hOl:=A0h Rp Bp k
 simp only [hRl] at hOl
 have hO1 : ∀ s,D0 Rp Bp k (s + 1) = ((D0 Rp Bp k s).1.set (k - 1 - s) (dvX (D0 Rp Bp k s).2 Bp (k - 1 - s)),if dvX (D0 Rp Bp k s).2 Bp (k - 1 - s) = 0 then (D0 Rp Bp k s).2 else I6 (D0 Rp Bp k s).2 Bp (dvX (D0 Rp Bp k s).2 Bp (k - 1 - s)) (k - 1 - s) n):=fun s=>by rw [← hBl];rfl
 have hO0 : D0 Rp Bp k 0 = (List.replicate k 0,Rp):=rfl
 have zX : ∀ s,s < k → qs (dvX (D0 Rp Bp k s).2 Bp (k - 1 - s)) ≤ 2 * Z:=fun s hs=>by
  rw [hDX]
  have h9:=A4T (gq (D0 Rp Bp k s).2 (k - 1 - s + n - 1)) top
  have h8:=P8 (z2 s (by omega)) (i:=k - 1 - s + n - 1) (by rw [(hOl s).2];omega)
  unfold J5
  omega
 have hzq : ∀ s,s ≤ k → ∀ x ∈ (D0 Rp Bp k s).1,qs x ≤ 2 * Z + 1:=fun s=>by
  induction s with
  | zero =>
   intro _ x hx
   rw [hO0] at hx
   have := List.eq_of_mem_replicate hx
   rw [this,A5t]
   omega
  | succ s ih =>
   intro hs x hx
   rw [hO1] at hx
   rcases List.mem_or_eq_of_mem_set hx with h | h
   ·exact ih (by omega) x h
   ·rw [h]
    have := zX s (by omega)
    omega
 have htq:=fun (W : World) (g : Nat) (hL : Lq W (some ⟨g,0,none⟩) (D0 Rp Bp k k).1)=>(A1B (some ⟨g,0,none⟩) (D0 Rp Bp k k).1 k k (hOl k).1 (Nat.le_refl _) (by omega) (fun x hx=>Nat.le_trans (hzq k (Nat.le_refl _) x hx) (by omega)) W hL).mono fun e w' g=>E7.of (F4 _).symm g
 have htw:=fun (W : World) (g : Nat) (hL : Lq W (some ⟨g,0,none⟩) (D0 Rp Bp k k).2)=>(A1B (some ⟨g,0,none⟩) (D0 Rp Bp k k).2 rl rl (hOl k).2 (Nat.le_refl _) (by omega) (fun x hx=>Nat.le_trans (z2 k (Nat.le_refl _) x hx) (by omega)) W hL).mono fun e w' g=>E7.of (F4 _).symm g
 obtain ⟨TQ,hTQ⟩ : ∃ T,T = trL (D0 Rp Bp k k).1:=⟨_,rfl⟩
 obtain ⟨TR,hTR⟩ : ∃ T,T = trL (D0 Rp Bp k k).2:=⟨_,rfl⟩
 rw [← hTQ,← hTR]
 simp only [← hTQ] at htq
 simp only [← hTR] at htw
 obtain ⟨m1,hm1⟩ : ∃ m,m = TQ.length:=⟨_,rfl⟩
 obtain ⟨m2,hm2⟩ : ∃ m,m = TR.length:=⟨_,rfl⟩
 unfold E7 at htq htw
 rw [← hm1,← hm2]
 simp only [← hm1] at htq
 simp only [← hm2] at htw
 have hmk:=A1V k (by omega) (k : Int) rfl
 obtain ⟨n1,hn1e⟩ : ∃ n1,n1 = n - 1:=⟨_,rfl⟩
 have fw1 : IntKind.i64.wrap ((n : Int) - 1) = (n1 : Int):=by rw [IntWalk.i64_in _ (by omega)];omega
 have hn1n : (n1 : Int) < (n : Int):=by omega
 have f15 : ((n : Int) == 0) = false:=by simp;omega
 have f15n : decide (n = 0) = false:=by simp;omega
 have fw2 : IntKind.i64.wrap ((rl : Int) - (n : Int)) = (rl : Int) - (n : Int):=IntWalk.i64_in _ (by omega)
 have fw3 : IntKind.i64.wrap ((rl : Int) - (n : Int) + 1) = (rl : Int) - (n : Int) + 1:=IntWalk.i64_in _ (by omega)
 have fmx : max (0 : Int) ((rl : Int) - (n : Int) + 1) = (k : Int):=by omega
 have fw4 : IntKind.i64.wrap ((k : Int) - 1) = (k : Int) - 1:=IntWalk.i64_in _ (by omega)
 have hrt : ∀ W,A3 w W → Cq W b (o + n1 * 5) top:=fun W hg=>by rw [hn1e,htop];exact hrd _ (by omega) W hg
 have Htr:=Lib.hid htr
 have HTr:=Lib.hid hTr
 have Hrd:=Lib.hid hrd
 have Hrt:=Lib.hid hrt
 have HzB:=Lib.hid zB
 have Hz2:=Lib.hid z2
 have Hz3:=Lib.hid z3
 have HDX:=Lib.hid hDX
 have HOl:=Lib.hid hOl
 have HO1:=Lib.hid hO1
 have HO0:=Lib.hid hO0
 have HzX:=Lib.hid zX
 have Htq:=Lib.hid htq
 have Htw:=Lib.hid htw
 have Hmk:=Lib.hid hmk
 have HRl:=Lib.hid hRl
 have HBl:=Lib.hid hBl
 have Hkv:=Lib.hid hkv
 clear htr hTr hrd hrt zB z1 z2 z3 hDX hOl hO1 hO0 zX hzq htq htw hmk hLB hte hBp hRp hn hrl hk hkv hTQ hTR hm1 hm2 hRl hBl htop hn1e hs1 hs2 hl hml hc1 hc2 h1 h2
 go_enter Tryz.func129,Tryz.ntmps129
 refine en0 ?_
 intro u hG hB hF
 refine wp_seq (rsE A5 [0,1,0] hB hG fun L hL=>?_)
 refine gs ?_
 refine gmd (C:=fun v ⟨hgu,hB,hG,_⟩=>Htr.out _ hG) ?_
 refine gs ?_
 refine geT hL ?_
 clear hB hG hL L
 rintro u ⟨-,hB,hG,-⟩
 refine wp_seq ?_
 refine r0T ?_
 refine wp_cond_false (rfl) ?_
 refine wp_skip ?_
 refine A4 ?_
 refine wp_seq (rsE A5 [0,1,0] hB hG fun L hL=>?_)
 refine gs ?_
 refine gxd (X:=Nat) (fun x : Nat=>.slice (some ⟨x,0,none⟩) rl rl) (fun x W=>PQ w.heap.size x Rp W) (fun x u u' hg h=>h.grow hg) (fun x17=>?_) (C:=by (rintro v ⟨hgu,hB,hG,-⟩;exact (HTr.out _ hG).mono fun e W ⟨x,g1,g2,g3⟩=>⟨x,g1,g2.mono hG.size,g3⟩))
 refine gs ?_
 refine geT hL ?_
 clear hB hG hL L
 rintro u ⟨⟨hgu,hB,hG,-⟩,hx17⟩
 have hr9 : u.ownsRow w.heap.size 39 5 (.slice (some ⟨x17,0,none⟩) rl rl) rl (Rp.flatMap qL):=by
  have h9:=hx17
  unfold PQ at h9
  rw [HRl.out] at h9
  exact h9
 have HR:=Lib.hid hr9
 clear hx17 hr9
 clear hgu
 refine wp_seq (rsC A5 [0,0,0,0,0,0,2] hB hG fun K L hN hL=>?_)
 repeat first | refine gya ?_ | refine gyr ?_ | refine gna ?_ | refine gyb (by (rintro v ⟨hgu,hB,hG,-⟩ N hN;have r:=hB.r;simp only [BxR] at r;(first | obtain ⟨t1,t2,t3,t4,t5⟩:=Hrt.out v hG | skip);go_simp;exact hN)) ?_
 refine gaa (N0 _ _ _ _ _) fun b7 hb7 hn7=>?_
 replace hF:=hF.n1 [] hB hG hb7 hn7
 refine geC hL ?_
 clear hB hG hL L
 rintro u ⟨⟨hgu,hB,hG,-⟩,h7⟩
 replace hB:=hB.cons' h7
 clear h7
 have h7x : b7 ≠ x17:=Nat.ne_of_gt (Nat.lt_of_lt_of_le (HR.out.lt x17 rfl).2 hb7)
 have HR2:=Lib.hid (F3 HR.out hgu)
 clear HR
 have HR:=HR2
 clear HR2
 clear hb7 hn7
 clear hgu
 refine gtT ?_
 clear hN K
 refine sv hB hF hG 0 0 [_,_,_,_,_] ?_
 intro u hu hBG
 have HR2:=Lib.hid (A2r HR.out (fun e=>h7x (Option.some.inj e).symm) hu)
 clear hB hG hu HR
 obtain ⟨hB,hG⟩:=hBG
 have HR:=HR2
 clear HR2
 refine wp_seq ?_
 have hmk:=Hmk.out
 have r:=hB.r
 simp only [BxR] at r
 refine M9 ?_
 intro K hN
 go_wp2_with fail
 clear r
 generalize hv : World.alloc u _ = v
 have hrow:=A2q (B:=w.heap.size) hG.sz (by omega) hv
 have hgv : A3 u v:=hv ▸ A3.alloc u _
 have hG2:=hG.trans hgv
 have hB2:=hB.grow hgv
 have hg7 : b7 ≠ u.heap.size:=Nat.ne_of_lt hB.head.lt
 have hgx : x17 ≠ u.heap.size:=Nat.ne_of_lt (HR.out.lt x17 rfl).2
 have h7w:=hF.1 b7 (by simp)
 have hr2:=F3 HR.out hgv
 clear hv hG hB hmk hgv HR
 generalize u.heap.size = g at hrow hg7 hgx ⊢
 have HD:=Lib.hid (show DvW w.heap.size k rl x17 g (D0 Rp Bp k 0).1 (D0 Rp Bp k 0).2 v from by rw [HO0.out];exact ⟨hrow,hr2,hgx⟩)
 have hG:=hG2
 have hB:=hB2
 clear hrow hr2 hG2 hB2
 obtain ⟨u,rfl⟩ : ∃ x,x = v:=⟨_,rfl⟩
 refine NoK.norm (hN _ _ ?_)
 clear hN K
 refine A4 ?_
 refine wp_seq ?_
 refine r0T ?_
 refine wp_block ?_
 clear hF
 go_loopw [8] (fun s0 wr=>∃ s : Nat,s ≤ k ∧ s0 = .int .i64 ((k : Int) - 1 - (s : Int)) ∧ DvW w.heap.size k rl x17 g (D0 Rp Bp k s).1 (D0 Rp Bp k s).2 wr ∧ Bx wr [(b7,39,G5 top)] ∧ A3 w wr) (fun s0 _=>(intOf s0 + 1).toNat)
 case atStart=>exact ⟨0,Nat.zero_le _,by simp,HD.out,hB,hG⟩
 case round =>
  clear hG HD hB
  obtain ⟨s,hs,rfl,hd,hB,hG⟩:=hrel
  obtain ⟨u,rfl⟩ : ∃ x,x = wr:=⟨_,rfl⟩
  have hF : Fr w [b7]:=⟨fun b hb=>by
   simp only [List.mem_cons,List.not_mem_nil,or_false] at hb
   subst hb
   exact h7w,by simp⟩
  have HD:=Lib.hid hd
  clear hd
  rcases Nat.lt_or_ge s k with hlt | hge
  ·obtain ⟨I,hI⟩ : ∃ I,I = k - 1 - s:=⟨_,rfl⟩
   have hIi : (k : Int) - 1 - (s : Int) = (I : Int):=by omega
   rw [hIi]
   have hIk : I < k:=by omega
   have hIki : (I : Int) < (k : Int):=by omega
   have hkr : k + n ≤ rl + 1:=by have := Hkv.out;omega
   have hO1:=HO1.out s
   rw [← hI] at hO1
   have hz2:=Hz2.out s (by omega)
   have hz3:=Hz3.out s hlt
   have hzx:=HzX.out s hlt
   rw [← hI] at hz3 hzx
   obtain ⟨l1,l2⟩:=HOl.out s
   obtain ⟨q0,hq0⟩ : ∃ q0,q0 = (D0 Rp Bp k s).1:=⟨_,rfl⟩
   obtain ⟨r0,hr0⟩ : ∃ r0,r0 = (D0 Rp Bp k s).2:=⟨_,rfl⟩
   rw [← hq0,← hr0] at hO1
   rw [← hr0] at hz2 hz3 hzx l2
   rw [← hq0] at l1
   have hd:=HD.out
   rw [← hq0,← hr0] at hd
   have hdx:=HDX.out r0 I
   obtain ⟨X,hX⟩ : ∃ X,X = dvX r0 Bp I:=⟨_,rfl⟩
   rw [← hX] at hO1 hz3 hzx hdx
   obtain ⟨J1,hJ1⟩ : ∃ J,J = I + n:=⟨_,rfl⟩
   obtain ⟨J2,hJ2⟩ : ∃ J,J = J1 - 1:=⟨_,rfl⟩
   have fj1 : IntKind.i64.wrap ((I : Int) + (n : Int)) = (J1 : Int):=by rw [IntWalk.i64_in _ (by omega)];omega
   have fj2 : IntKind.i64.wrap ((J1 : Int) - 1) = (J2 : Int):=by rw [IntWalk.i64_in _ (by omega)];omega
   have hj2 : J2 < rl:=by omega
   have hj2i : (J2 : Int) < (rl : Int):=by omega
   rw [show I + n - 1 = J2 by omega] at hdx
   have zY:=P8 hz2 (i:=J2) (by omega)
   have hdv:=fun (W : World) (hT : Tab W)=>A2v (a:=gq r0 J2) (b:=top) (w:=W) (by omega) hT
   rw [← hdx] at hdv
   obtain ⟨Y,hY⟩ : ∃ Y,Y = gq r0 J2:=⟨_,rfl⟩
   simp only [← hY] at hdv
   obtain ⟨ok,hok⟩ : ∃ x,x = nzq top:=⟨_,rfl⟩
   simp only [← hok] at hdv
   have hsg:=fun (W : World)=>Q7 X (by have := F8 X;omega) W
   have hs0:=@A9R X
   obtain ⟨S,hS⟩ : ∃ S,S = X.num.sign:=⟨_,rfl⟩
   rw [← hS] at hs0
   simp only [← hS] at hsg
   have hq9 : gq (q0.set I X) I = X:=by rw [A9q (by omega),if_pos rfl]
   have Hdv:=Lib.hid hdv
   have Hsg:=Lib.hid hsg
   have HY:=Lib.hid hY
   have Hl:=Lib.hid (And.intro l1 l2)
   have Hz4:=Lib.hid hz3
   have Hq9:=Lib.hid hq9
   have HzX1:=Lib.hid hzx
   have HI:=Lib.hid hI
   clear HD
   have HD:=Lib.hid hd
   by_cases hx : X = 0
   ·have f60 : (S == 0) = true:=by rw [hs0];simp [hx]
    have HN:=Lib.hid (show D0 Rp Bp k (s + 1) = (q0.set I X,r0) by rw [hO1,if_pos hx])
    clear hd hdx hX hdv hY hok hsg hs0 hS hq9 l1 l2 hz2 hz3 hzx hO1 hq0 hr0 hx zY hI hJ1 hJ2
    refine wp_seq ?_
    refine r0T ?_
    refine wp_cond_true (rfl) ?_
    refine wp_skip ?_
    refine A4 ?_
    refine wp_seq ?_
    refine wp_block ?_
    refine wp_seq (rdC A5 [14] [(0,0),(0,1),(0,2),(0,3),(0,4),(0,5),(0,6),(0,7),(0,8),(0,9),(0,10),(1,11),(0,12),(0,13),(0,14),(0,15)] hB hG fun K L hN hL=>?_)
    repeat first | refine gya ?_ | refine gyr ?_ | refine gna ?_ | refine gyb (by (rintro v ⟨hgu,hB,hG,-⟩ N hN;have r:=hB.r;simp only [BxR] at r;(first | obtain ⟨q1,q2,q3,q4,q5⟩:=Hrq.out v (hG10.trans hgu) | skip);(first | obtain ⟨y1,y2,y3,y4,y5⟩ : Cq v x17 (J2 * 5) Y:=(by have h9:=(HD.out.grow hgu).readR (j:=J2) (by rw [Hl.out.2];exact hj2);rw [← HY.out] at h9;exact h9) | skip);go_simp;exact hN)) ?_
    refine gmd (C:=fun v ⟨hgu,hB,hG,_⟩=>Hdv.out _ (HT.grow hG)) ?_
    refine gs ?_
    refine geC hL ?_
    clear hB hG hL L
    rintro u ⟨hgu,hB,hG,-⟩
    have HD2:=Lib.hid (HD.out.grow hgu)
    clear HD
    have HD:=HD2
    clear HD2
    obtain ⟨z0,z1,z2,z3,z4,o0,o1,o2,o3,o4,hfz⟩:=A1X (enc:=qL) (fun _=>rfl) HD.out.q Hl.out.1.symm I (by rw [Hl.out.1];exact hIk)
    clear hgu
    refine gtT ?_
    clear hN K
    clear o0 o1 o2 o3 o4 hfz
    generalize hu0 : World.setCell (World.setCell (World.setCell (World.setCell (World.setCell u _ _) _ _) _ _) _ _) _ _ = u0
    have hu1 : E9 u g (I * 5) (qL X) = u0:=hu0
    obtain ⟨hP,hPg⟩:=HD.out.putQ Hl.out.1 hIk X hu1
    have hG2:=hG.grown hPg (fun k hk=>by have e:=Option.some.inj hk;have := HD.out.lt2.1;omega)
    have hB2:=hB.grown_ hPg (fun e he hxe=>by
     have e2:=Option.some.inj hxe
     simp only [List.mem_cons,List.not_mem_nil,or_false] at he
     subst he
     exact hg7 e2)
    have HD2:=Lib.hid hP
    clear hG hB hF HD hP hPg hu1 hu0
    have hG:=hG2
    have hB:=hB2
    have HD:=HD2
    clear hG2 HD2 hB2
    obtain ⟨u,rfl⟩ : ∃ x,x = u0:=⟨_,rfl⟩
    have hF : Fr w [b7]:=⟨fun b hb=>by
     simp only [List.mem_cons,List.not_mem_nil,or_false] at hb
     subst hb
     exact h7w,by simp⟩
    have hrq : ∀ v,A3 u v → Cq v g (I * 5) X:=fun v hgv=>by
     have h9:=(HD.out.grow hgv).readQ (j:=I) (by rw [List.length_set,Hl.out.1];exact hIk)
     rw [Hq9.out] at h9
     exact h9
    obtain ⟨w10,hw10⟩ : ∃ x,x = u:=⟨_,rfl⟩
    rw [← hw10] at hrq
    have hG10 : A3 w10 u:=hw10 ▸ A3.refl u
    have Hrq:=Lib.hid hrq
    clear hrq hw10
    refine wp_seq ?_
    refine wp_seq (rsE A5 [0,0,0,0,1,0] hB hG fun L hL=>?_)
    repeat first | refine gya ?_ | refine gyr ?_ | refine gna ?_ | refine gyb (by (rintro v ⟨hgu,hB,hG,-⟩ N hN;have r:=hB.r;simp only [BxR] at r;(first | obtain ⟨q1,q2,q3,q4,q5⟩:=Hrq.out v (hG10.trans hgu) | skip);(first | obtain ⟨y1,y2,y3,y4,y5⟩ : Cq v x17 (J2 * 5) Y:=(by have h9:=(HD.out.grow hgu).readR (j:=J2) (by rw [Hl.out.2];exact hj2);rw [← HY.out] at h9;exact h9) | skip);go_simp;exact hN)) ?_
    refine gmw (C:=fun v=>Hsg.out _) ?_
    refine gs ?_
    refine geT hL ?_
    clear hB hG hL L
    rintro u ⟨hgu,hB,hG,-⟩
    have HD2:=Lib.hid (HD.out.grow hgu)
    clear HD
    have HD:=HD2
    clear HD2
    replace hG10:=hG10.trans hgu
    clear hgu
    refine wp_cond_true (rfl) ?_
    refine wp_exit ?_
    refine D7 ?_
    refine G8 ?_
    refine A4 ?_
    refine r0E ?_
    refine A4 ?_
    go_roundw
    case rel=>exact ⟨s + 1,by omega,by have e9:=HI.out;have e8 : IntKind.i64.wrap ((I : Int) - 1) = (I : Int) - 1:=IntWalk.i64_in _ (by omega);congr 1;omega,by rw [HN.out];exact HD.out,hB,hG⟩
    case measure=>simp [intOf] <;> omega
   ·have f60 : (S == 0) = false:=by rw [hs0];simp [hx]
    have HN:=Lib.hid (show D0 Rp Bp k (s + 1) = (q0.set I X,I6 r0 Bp X I n) by rw [hO1,if_neg hx])
    clear hd hdx hX hdv hY hok hsg hs0 hS hq9 l1 l2 hz2 hz3 hzx hO1 hq0 hr0 hx zY hI hJ1 hJ2
    refine wp_seq ?_
    refine r0T ?_
    refine wp_cond_true (rfl) ?_
    refine wp_skip ?_
    refine A4 ?_
    refine wp_seq ?_
    refine wp_block ?_
    refine wp_seq (rdC A5 [14] [(0,0),(0,1),(0,2),(0,3),(0,4),(0,5),(0,6),(0,7),(0,8),(0,9),(0,10),(1,11),(0,12),(0,13),(0,14),(0,15)] hB hG fun K L hN hL=>?_)
    repeat first | refine gya ?_ | refine gyr ?_ | refine gna ?_ | refine gyb (by (rintro v ⟨hgu,hB,hG,-⟩ N hN;have r:=hB.r;simp only [BxR] at r;(first | obtain ⟨q1,q2,q3,q4,q5⟩:=Hrq.out v (hG10.trans hgu) | skip);(first | obtain ⟨y1,y2,y3,y4,y5⟩ : Cq v x17 (J2 * 5) Y:=(by have h9:=(HD.out.grow hgu).readR (j:=J2) (by rw [Hl.out.2];exact hj2);rw [← HY.out] at h9;exact h9) | skip);go_simp;exact hN)) ?_
    refine gmd (C:=fun v ⟨hgu,hB,hG,_⟩=>Hdv.out _ (HT.grow hG)) ?_
    refine gs ?_
    refine geC hL ?_
    clear hB hG hL L
    rintro u ⟨hgu,hB,hG,-⟩
    have HD2:=Lib.hid (HD.out.grow hgu)
    clear HD
    have HD:=HD2
    clear HD2
    obtain ⟨z0,z1,z2,z3,z4,o0,o1,o2,o3,o4,hfz⟩:=A1X (enc:=qL) (fun _=>rfl) HD.out.q Hl.out.1.symm I (by rw [Hl.out.1];exact hIk)
    clear hgu
    refine gtT ?_
    clear hN K
    clear o0 o1 o2 o3 o4 hfz
    generalize hu0 : World.setCell (World.setCell (World.setCell (World.setCell (World.setCell u _ _) _ _) _ _) _ _) _ _ = u0
    have hu1 : E9 u g (I * 5) (qL X) = u0:=hu0
    obtain ⟨hP,hPg⟩:=HD.out.putQ Hl.out.1 hIk X hu1
    have hG2:=hG.grown hPg (fun k hk=>by have e:=Option.some.inj hk;have := HD.out.lt2.1;omega)
    have hB2:=hB.grown_ hPg (fun e he hxe=>by
     have e2:=Option.some.inj hxe
     simp only [List.mem_cons,List.not_mem_nil,or_false] at he
     subst he
     exact hg7 e2)
    have HD2:=Lib.hid hP
    clear hG hB hF HD hP hPg hu1 hu0
    have hG:=hG2
    have hB:=hB2
    have HD:=HD2
    clear hG2 HD2 hB2
    obtain ⟨u,rfl⟩ : ∃ x,x = u0:=⟨_,rfl⟩
    have hF : Fr w [b7]:=⟨fun b hb=>by
     simp only [List.mem_cons,List.not_mem_nil,or_false] at hb
     subst hb
     exact h7w,by simp⟩
    have hrq : ∀ v,A3 u v → Cq v g (I * 5) X:=fun v hgv=>by
     have h9:=(HD.out.grow hgv).readQ (j:=I) (by rw [List.length_set,Hl.out.1];exact hIk)
     rw [Hq9.out] at h9
     exact h9
    obtain ⟨w10,hw10⟩ : ∃ x,x = u:=⟨_,rfl⟩
    rw [← hw10] at hrq
    have hG10 : A3 w10 u:=hw10 ▸ A3.refl u
    have Hrq:=Lib.hid hrq
    clear hrq hw10
    refine wp_seq ?_
    refine wp_seq (rsE A5 [0,0,0,0,1,0] hB hG fun L hL=>?_)
    repeat first | refine gya ?_ | refine gyr ?_ | refine gna ?_ | refine gyb (by (rintro v ⟨hgu,hB,hG,-⟩ N hN;have r:=hB.r;simp only [BxR] at r;(first | obtain ⟨q1,q2,q3,q4,q5⟩:=Hrq.out v (hG10.trans hgu) | skip);(first | obtain ⟨y1,y2,y3,y4,y5⟩ : Cq v x17 (J2 * 5) Y:=(by have h9:=(HD.out.grow hgu).readR (j:=J2) (by rw [Hl.out.2];exact hj2);rw [← HY.out] at h9;exact h9) | skip);go_simp;exact hN)) ?_
    refine gmw (C:=fun v=>Hsg.out _) ?_
    refine gs ?_
    refine geT hL ?_
    clear hB hG hL L
    rintro u ⟨hgu,hB,hG,-⟩
    have HD2:=Lib.hid (HD.out.grow hgu)
    clear HD
    have HD:=HD2
    clear HD2
    replace hG10:=hG10.trans hgu
    clear hgu
    refine wp_cond_false (rfl) ?_
    refine wp_skip ?_
    refine A4 ?_
    refine r0T ?_
    refine wp_block ?_
    clear hF
    go_loopw [63] (fun s0 wr=>∃ j : Nat,j ≤ n ∧ s0 = .int .i64 j ∧ DvW w.heap.size k rl x17 g (q0.set I X) (I6 r0 Bp X I j) wr ∧ Bx wr [(b7,39,G5 top)] ∧ A3 w wr) (fun s0 _=>n - (intOf s0).toNat)
    case atStart=>exact ⟨0,Nat.zero_le _,rfl,HD.out,hB,hG⟩
    case round =>
     clear hG HD hB hG10 Hrq
     obtain ⟨j,hj,rfl,hd,hB,hG⟩:=hrel
     obtain ⟨u,rfl⟩ : ∃ x,x = wr:=⟨_,rfl⟩
     have hF : Fr w [b7]:=⟨fun b hb=>by
      simp only [List.mem_cons,List.not_mem_nil,or_false] at hb
      subst hb
      exact h7w,by simp⟩
     have HD:=Lib.hid hd
     clear hd
     rcases Nat.lt_or_ge j n with hjl | hjg
     ·have hdec : decide ((j : Int) < (n : Int)) = true:=by simp;omega
      have hjn : (j : Int) < (n : Int):=by omega
      obtain ⟨J3,hJ3⟩ : ∃ J,J = I + j:=⟨_,rfl⟩
      have fj3 : IntKind.i64.wrap ((I : Int) + (j : Int)) = (J3 : Int):=by rw [IntWalk.i64_in _ (by omega)];omega
      have hj3 : J3 < rl:=by omega
      have hj3i : (J3 : Int) < (rl : Int):=by omega
      have hrb:=Hrd.out j hjl
      have zb:=HzB.out j hjl
      have hzj:=Hz4.out j (by omega)
      have hin : I6 r0 Bp X I (j + 1) = (I6 r0 Bp X I j).set J3 (A0e (gq (I6 r0 Bp X I j) J3) (H9 X (gq Bp j))):=by rw [hJ3];rfl
      have hln : (I6 r0 Bp X I j).length = rl:=by rw [A25];exact Hl.out.2
      obtain ⟨r1,hr1⟩ : ∃ r1,r1 = I6 r0 Bp X I j:=⟨_,rfl⟩
      rw [← hr1] at hzj hin hln
      have hd:=HD.out
      rw [← hr1] at hd
      have zr:=P8 hzj (i:=J3) (by omega)
      obtain ⟨V,hV⟩ : ∃ V,V = gq Bp j:=⟨_,rfl⟩
      rw [← hV] at hin zb
      simp only [← hV] at hrb
      obtain ⟨U,hU⟩ : ∃ U,U = gq r1 J3:=⟨_,rfl⟩
      rw [← hU] at hin zr
      have zx:=HzX1.out
      have hml:=fun (W : World) (hT : Tab W)=>A2I X V W (by omega) hT
      have zm:=A2s X V
      obtain ⟨E,hE⟩ : ∃ E,E = H9 X V:=⟨_,rfl⟩
      have zE : qs E ≤ 3 * Z:=by rw [hE];unfold H9;omega
      rw [← hE] at hin
      simp only [← hE] at hml
      have hsu:=fun (W : World) (hT : Tab W)=>A8h U E W (by omega) hT
      obtain ⟨Q,hQ⟩ : ∃ Q,Q = A0e U E:=⟨_,rfl⟩
      rw [← hQ] at hin
      simp only [← hQ] at hsu
      have Hrb:=Lib.hid hrb
      have Hml:=Lib.hid hml
      have Hsu:=Lib.hid hsu
      have Hin:=Lib.hid hin
      have Hln:=Lib.hid hln
      have HU:=Lib.hid hU
      have HJ3:=Lib.hid hJ3
      clear HD
      have HD:=Lib.hid hd
      clear hrb hml hsu hin hln hU hd hr1 hzj hV hE hQ zb zr zx zm zE hJ3
      refine r0T ?_
      refine wp_seq ?_
      refine wp_cond_true (rfl) ?_
      refine wp_skip ?_
      refine A4 ?_
      refine wp_seq ?_
      refine wp_block ?_
      refine wp_seq (rsC A5 [0,0,0,2,0] hB hG fun K L hN hL=>?_)
      repeat first | refine gya ?_ | refine gyr ?_ | refine gna ?_ | refine gyb (by (rintro v ⟨hgu,hB,hG,-⟩ N hN;have r:=hB.r;simp only [BxR] at r;(first | obtain ⟨b1,b2,b3,b4,b5⟩:=Hrb.out v hG | skip);(first | obtain ⟨y1,y2,y3,y4,y5⟩ : Cq v x17 (J3 * 5) U:=(by have h9:=(HD.out.grow hgu).readR (j:=J3) (by rw [Hln.out];exact hj3);rw [← HU.out] at h9;exact h9) | skip);(first | obtain ⟨q1,q2,q3,q4,q5⟩ : Cq v g (I * 5) X:=(by have h9:=(HD.out.grow hgu).readQ (j:=I) (by rw [List.length_set,Hl.out.1];exact hIk);rw [Hq9.out] at h9;exact h9) | skip);go_simp;exact hN)) ?_
      refine gaa (N0 _ _ _ _ _) fun b10 hb10 hn10=>?_
      refine gs ?_
      replace hF:=hF.n1 [] hB hG hb10 hn10
      refine geC hL ?_
      clear hB hG hL L
      rintro u ⟨⟨hgu,hB,hG,-⟩,h10⟩
      replace hB:=hB.cons' h10
      clear h10
      have hax : b10 ≠ x17:=Nat.ne_of_gt (Nat.lt_of_lt_of_le HD.out.lt1.2 hb10)
      have hag : b10 ≠ g:=Nat.ne_of_gt (Nat.lt_of_lt_of_le HD.out.lt2.2 hb10)
      have HD2:=Lib.hid (HD.out.grow hgu)
      clear HD
      have HD:=HD2
      clear HD2
      clear hb10 hn10
      clear hgu
      refine gtT ?_
      clear hN K
      refine sv hB hF hG 0 0 [_,_,_,_,_] ?_
      intro u hu hBG
      have HD2:=Lib.hid (HD.out.over hax hag hu)
      clear hB hG hu HD
      obtain ⟨hB,hG⟩:=hBG
      have HD:=HD2
      clear HD2
      refine rdC A5 [] [(0,0),(0,1),(0,2),(0,3),(0,4),(0,5),(0,6),(0,7),(0,8),(0,9),(0,10),(0,11),(0,12),(0,13),(0,14),(1,15),(1,16),(0,17)] hB hG fun K L hN hL=>?_
      repeat first | refine gya ?_ | refine gyr ?_ | refine gna ?_ | refine gyb (by (rintro v ⟨hgu,hB,hG,-⟩ N hN;have r:=hB.r;simp only [BxR] at r;(first | obtain ⟨b1,b2,b3,b4,b5⟩:=Hrb.out v hG | skip);(first | obtain ⟨y1,y2,y3,y4,y5⟩ : Cq v x17 (J3 * 5) U:=(by have h9:=(HD.out.grow hgu).readR (j:=J3) (by rw [Hln.out];exact hj3);rw [← HU.out] at h9;exact h9) | skip);(first | obtain ⟨q1,q2,q3,q4,q5⟩ : Cq v g (I * 5) X:=(by have h9:=(HD.out.grow hgu).readQ (j:=I) (by rw [List.length_set,Hl.out.1];exact hIk);rw [Hq9.out] at h9;exact h9) | skip);go_simp;exact hN)) ?_
      refine gmd (C:=fun v ⟨hgu,hB,hG,_⟩=>Hml.out _ (HT.grow hG)) ?_
      refine gmd (C:=fun v ⟨hgu,hB,hG,_⟩=>Hsu.out _ (HT.grow hG)) ?_
      refine gs ?_
      refine geC hL ?_
      clear hB hG hL L
      rintro u ⟨hgu,hB,hG,-⟩
      have HD2:=Lib.hid (HD.out.grow hgu)
      clear HD
      have HD:=HD2
      clear HD2
      obtain ⟨z0,z1,z2,z3,z4,o0,o1,o2,o3,o4,hfz⟩:=A1X (enc:=qL) (fun _=>rfl) HD.out.r Hln.out.symm J3 (by rw [Hln.out];exact hj3)
      clear hgu
      refine gt ?_
      clear hN K
      clear o0 o1 o2 o3 o4 hfz
      generalize hu0 : World.setCell (World.setCell (World.setCell (World.setCell (World.setCell u _ _) _ _) _ _) _ _) _ _ = u0
      have hu1 : E9 u x17 (J3 * 5) (qL Q) = u0:=hu0
      obtain ⟨hP,hPg⟩:=HD.out.putR Hln.out hj3 Q hu1
      have hG2:=hG.grown hPg (fun k hk=>by have e:=Option.some.inj hk;have := HD.out.lt1.1;omega)
      have hB2:=hB.tail.grown_ hPg (fun e he hxe=>by
       have e2:=Option.some.inj hxe
       simp only [List.mem_cons,List.not_mem_nil,or_false] at he
       subst he
       exact h7x e2)
      have HD2:=Lib.hid hP
      clear hG hB hF HD hP hPg hu1 hu0
      have hG:=hG2
      have hB:=hB2
      have HD:=HD2
      clear hG2 HD2 hB2
      obtain ⟨u,rfl⟩ : ∃ x,x = u0:=⟨_,rfl⟩
      refine F0 ?_
      refine A4 ?_
      refine r0E ?_
      refine A4 ?_
      go_roundw
      case rel=>exact ⟨j + 1,by omega,by go_num,by rw [Hin.out];exact HD.out,hB,hG⟩
      case measure=>simp [intOf] <;> omega
     ·obtain rfl : n = j:=by omega
      have hdec : decide ((n : Int) < (n : Int)) = false:=by simp
      clear hjg hj
      refine r0T ?_
      refine wp_seq ?_
      refine wp_cond_false (rfl) ?_
      refine wp_exit ?_
      refine D7 ?_
      refine D7 ?_
      refine G8 ?_
      refine F0 ?_
      refine A4 ?_
      refine r0E ?_
      refine A4 ?_
      go_roundw
      case rel=>exact ⟨s + 1,by omega,by have e9:=HI.out;have e8 : IntKind.i64.wrap ((I : Int) - 1) = (I : Int) - 1:=IntWalk.i64_in _ (by omega);congr 1;omega,by rw [HN.out];exact HD.out,hB,hG⟩
      case measure=>simp [intOf] <;> omega
  ·obtain rfl : k = s:=by omega
   have f35 : (k : Int) - 1 - (k : Int) = -1:=by omega
   rw [f35]
   clear f35 hge hs
   refine wp_seq ?_
   refine r0T ?_
   refine wp_cond_false (rfl) ?_
   refine wp_exit ?_
   refine D7 ?_
   refine D7 ?_
   refine G8 ?_
   refine A4 ?_
   refine wp_seq (rsE A5 [0,1,0,1,0,0,0] hB hG fun L hL=>?_)
   refine gs ?_
   refine gxd (X:=Ax) (fun x : Ax=>.slice x.1 m1 x.2) (fun x W=>PR TQ x W) (fun x u u' hg h=>h.grow hg) (fun x88=>?_) (C:=by (rintro v ⟨hgu,hB,hG,-⟩;exact Htq.out _ g (by obtain ⟨A9,c9,e9,-,-,hL,-⟩:=Z8 (HD.out.grow hgu).q;cases e9;exact hL)))
   refine gs ?_
   refine gxd (X:=Ax) (fun x : Ax=>.slice x.1 m2 x.2) (fun x W=>PR TR x W) (fun x u u' hg h=>h.grow hg) (fun x90=>?_) (C:=by (rintro v ⟨⟨hgu,hB,hG,-⟩,hx88⟩;exact Htw.out _ x17 (by obtain ⟨A9,c9,e9,-,-,hL,-⟩:=Z8 (HD.out.grow hgu).r;cases e9;exact hL)))
   refine gs ?_
   refine geT hL ?_
   clear hB hG hL L
   rintro u ⟨⟨⟨hgu,hB,hG,-⟩,hx88⟩,hx90⟩
   have HP:=Lib.hid (And.intro hx88 hx90)
   clear hx88 hx90
   clear hgu
   refine rt Tryz.results129 ?_
   exact ⟨(x88,x90),rfl,HP.out,hG⟩
end Go.Proofs.YtlkniebmjdoopaaGreatDoor
