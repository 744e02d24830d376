/- Contracts and laws. -/
import Derived.Test.YtgpglgbcobeogaaGreatDoorT32
set_option linter.unusedSimpArgs false
set_option linter.unusedVariables false
set_option maxHeartbeats 8000000
set_option maxRecDepth 100000
namespace Go.Proofs.YtgpglgbcobeogaaGreatDoor
open Go Go.RowKit
abbrev Mx:=Nat → Nat → Rat
def S7 (M : Mx) (a b : Nat) : Mx:=fun i=>if i = a then M b else if i = b then M a else M i
def P9 (M : Mx) (t : Nat) (k : Rat) (n : Nat) : Mx:=fun i j=>if i = t ∧ j < n then C2 (M i j) k else M i j
def J6 (M : Mx) (i t : Nat) (k : Rat) (n : Nat) : Mx:=fun i' j=>if i' = i ∧ j < n then G5 (M i' j) (C2 k (M t j)) else M i' j
def J8 (M : Mx) (t c L : Nat) : Nat → Mx
 | 0=>M
 | i + 1=>if i = t then J8 M t c L i else J6 (J8 M t c L i) i t (J8 M t c L i i c) L
def N3 (M : Mx) (n top col : Nat) : Nat:=W8 (fun i=>decide (M i col = 0)) (n - top) top
abbrev Gs:=Mx × List Nat
def A17 (n : Nat) (s : Gs) (col : Nat) : Nat:=N3 s.1 n s.2.length col
def A67 (n L : Nat) (s : Gs) (col : Nat) : Mx:=P9 (S7 s.1 s.2.length (A17 n s col)) s.2.length (K3 (B9 1) (S7 s.1 s.2.length (A17 n s col) s.2.length col)) L
def A0D (n L : Nat) (s : Gs) (col : Nat) : Gs:=if A17 n s col < n then (J8 (A67 n L s col) s.2.length col L n,s.2 ++ [col]) else s
def F7 (n L : Nat) (s : Gs) : Nat → Gs
 | 0=>s
 | c + 1=>A0D n L (F7 n L s c) c
def szM (M : Mx) (n L s : Nat) : Prop:=∀ i,i < n → ∀ j,j < L → qs (M i j) ≤ s
theorem szM.mono {M : Mx} {n L s t : Nat} (h : szM M n L s) (hs : s ≤ t) : szM M n L t:=fun i hi j hj=>Nat.le_trans (h i hi j hj) hs
theorem A2a (M : Mx) (n top col : Nat) : (N3 M n top col < n → top ≤ N3 M n top col ∧ M (N3 M n top col) col ≠ 0) ∧ ∀ i,top ≤ i → i < N3 M n top col → M i col = 0:=by
 obtain ⟨h1,h2,h3,h4⟩:=A3Q (fun i=>decide (M i col = 0)) (n - top) top
 refine ⟨fun h=>⟨h1,fun e=>?_⟩,fun i hi hp=>of_decide_eq_true (h3 i hi hp)⟩
 have h5:=h4 (by unfold N3 at h;omega)
 simp only [decide_eq_false_iff_not] at h5
 exact h5 e
theorem A6q {M : Mx} {n L s a b : Nat} (h : szM M n L s) (ha : a < n) (hb : b < n) : szM (S7 M a b) n L s:=fun i hi j hj=>by
 unfold S7
 split
 ·exact h b hb j hj
 ·split
  ·exact h a ha j hj
  ·exact h i hi j hj
theorem A6P {M : Mx} {n L s t m : Nat} {k : Rat} {r : Nat} (h : szM M n L s) (hk : qs k ≤ r) : szM (P9 M t k m) n L (s + r):=fun i hi j hj=>by
 unfold P9
 have h1:=h i hi j hj
 split
 ·have := S8 (M i j) k
  unfold C2
  omega
 ·omega
theorem A5D {M : Mx} {t c L : Nat} : ∀ i k,i ≤ k → J8 M t c L i k = M k
 | 0,_,_=>rfl
 | i + 1,k,h=>by
  have ih:=A5D (M:=M) (t:=t) (c:=c) (L:=L) i k (by omega)
  unfold J8
  split
  ·exact ih
  ·funext j
   unfold J6
   rw [if_neg (by omega),ih]
theorem A5j {M : Mx} {t c L : Nat} : ∀ i,J8 M t c L i t = M t
 | 0=>rfl
 | i + 1=>by
  have ih:=A5j (M:=M) (t:=t) (c:=c) (L:=L) i
  unfold J8
  split
  ·exact ih
  ·funext j
   unfold J6
   rw [if_neg (by omega),ih]
theorem A8G {M : Mx} {n L s t c : Nat} (h : szM M n L s) (ht : t < n) (hc : c < L) : ∀ i,i ≤ n → szM (J8 M t c L i) n L (3 * s + 1)
 | 0,_=>h.mono (by omega)
 | i + 1,hi=>by
  have ih:=A8G h ht hc i (by omega)
  unfold J8
  split
  ·exact ih
  ·intro i' hi' j hj
   unfold J6
   split
   ·rename_i e
    obtain ⟨rfl,-⟩:=e
    rw [A5D i' i' (Nat.le_refl _),A5j]
    have h1:=h i' hi' j hj
    have h2:=h i' hi' c hc
    have h3:=h t ht j hj
    have h4:=S8 (M i' c) (M t j)
    have h5:=A47 (M i' j) (C2 (M i' c) (M t j))
    unfold G5
    unfold C2 at h5 ⊢
    omega
   ·exact ih i' hi' j hj
theorem A9K {M : Mx} {le : List Nat} {n L s col : Nat} (h : szM M n L s) (hc : col < L) (hp : A17 n (M,le) col < n) : le.length < n ∧ szM (A67 n L (M,le) col) n L (2 * s + 1):=by
 have h1:=(A2a M n le.length col).1 hp
 have ht : le.length < n:=by
  have : N3 M n le.length col < n:=hp
  omega
 have h2:=A6q h ht hp
 refine ⟨ht,(A6P (r:=s + 1) h2 ?_).mono (by omega)⟩
 have h4 : qs (S7 M le.length (A17 n (M,le) col) le.length col) ≤ s:=h2 le.length ht col hc
 have h3:=A2u (B9 1) (S7 M le.length (A17 n (M,le) col) le.length col)
 have h5 : qs (B9 1) ≤ 1:=by decide
 exact Nat.le_trans h3 (by omega)
theorem A97 {s : Gs} {n L k col : Nat} (h : szM s.1 n L k) (hc : col < L) : szM (A0D n L s col).1 n L (6 * k + 4):=by
 unfold A0D
 split
 ·rename_i hp
  obtain ⟨ht,h1⟩:=A9K (M:=s.1) (le:=s.2) h hc hp
  exact (A8G h1 ht hc n (Nat.le_refl _)).mono (by omega)
 ·exact h.mono (by omega)
theorem A4h {s : Gs} {n L k : Nat} (h : szM s.1 n L k) (hk : 1 ≤ k) : ∀ c,c ≤ L → szM (F7 n L s c).1 n L (k * 10 ^ c)
 | 0,_=>by rw [Nat.pow_zero,Nat.mul_one];exact h
 | c + 1,hc=>by
  have h1:=A97 (A4h h hk c (by omega)) (col:=c) (by omega)
  refine h1.mono ?_
  have h2 : 1 ≤ k * 10 ^ c:=Nat.mul_pos hk (Nat.pow_pos (by omega))
  have h3 : k * 10 ^ (c + 1) = k * 10 ^ c * 10:=by rw [Nat.pow_succ,Nat.mul_assoc]
  rw [h3]
  omega
theorem A7s {s : Gs} {n L : Nat} (h : s.2.length ≤ n) (hl : ∀ x ∈ s.2,x < L) : ∀ c,c ≤ L → (F7 n L s c).2.length ≤ n ∧ (∀ x ∈ (F7 n L s c).2,x < L)
 | 0,_=>⟨h,hl⟩
 | c + 1,hc=>by
  obtain ⟨h1,h2⟩:=A7s h hl c (by omega)
  show (A0D n L (F7 n L s c) c).2.length ≤ n ∧ ∀ x ∈ (A0D n L (F7 n L s c) c).2,x < L
  unfold A0D
  split
  ·rename_i hp
   have h3:=(A2a (F7 n L s c).1 n (F7 n L s c).2.length c).1 hp
   have h4 : N3 (F7 n L s c).1 n (F7 n L s c).2.length c < n:=hp
   refine ⟨by simp only [List.length_append,List.length_singleton];omega,fun x hx=>?_⟩
   rcases List.mem_append.1 hx with hx | hx
   ·exact h2 x hx
   ·have : x = c:=by simpa using hx
    omega
  ·exact ⟨h1,h2⟩
theorem S9 {w : World} {A : Option Addr} {rs : List Rq} {N L : Nat} (hn : rs.length = N) (hrl : ∀ r ∈ rs,r.2.2.length = L) (h : Lrq w A rs) {i : Nat} (hi : i < N) : ∃ (bb ob : Nat) (P : Ax),A = some ⟨bb,ob,none⟩ ∧ ∀ W,A4 w W → W.cell? ⟨bb,ob + i,none⟩ = some (.slice P.1 L P.2) ∧ Lq W P.1 (B7 (rs.map (·.2.2)) i) ∧ (B7 (rs.map (·.2.2)) i).length = L:=by
 obtain ⟨bb,ob,rfl⟩:=h.addr (by omega)
 have hil : i < rs.length:=by omega
 refine ⟨bb,ob,(rs[i].1,rs[i].2.1),rfl,fun W hg=>?_⟩
 have h3:=(h.grow hg).read (List.getElem?_eq_getElem hil)
 have e : B7 (rs.map (·.2.2)) i = rs[i].2.2:=by unfold B7;rw [List.getElem?_map,List.getElem?_eq_getElem hil];rfl
 rw [hrl _ (List.getElem_mem hil)] at h3
 rw [e]
 exact ⟨h3.1,h3.2,hrl _ (List.getElem_mem hil)⟩
theorem A7U (A : Option Addr) (rs : List Rq) (N L c j : Nat) (hn : rs.length = N) (hN2 : N ≤ 300) (hrl : ∀ r ∈ rs,r.2.2.length = L) (hj : j < L) (hL : L ≤ 20) (w : World) (h : Lrq w A rs) :
  Calls Tryz.prog 96 #[.slice A N c,.int .i64 (j : Nat)] w (F8 (fun x : Ax=>.slice x.1 N x.2) (fun x W=>Lq W x.1 (G6 (rs.map (·.2.2)) j N)) w):=by
 have hat : ∀ i,i < N → ∃ (bb ob ba oa cr : Nat),A = some ⟨bb,ob,none⟩ ∧ ∀ W,A4 w W → W.cell? ⟨bb,ob + i,none⟩ = some (.slice (some ⟨ba,oa,none⟩) L cr) ∧ Cq W ba (oa + j * 5) (gq (B7 (rs.map (·.2.2)) i) j):=fun i hi=>by
  obtain ⟨bb,ob,⟨P1,P2⟩,e,hP⟩:=S9 hn hrl h hi
  obtain ⟨h1,h2,h3⟩:=hP w (A4.refl w)
  obtain ⟨ba,oa,e1⟩:=h2.addr (by omega)
  simp only at e1
  subst e1
  refine ⟨bb,ob,ba,oa,P2,e,fun W hg=>?_⟩
  obtain ⟨h4,h5,h6⟩:=hP W hg
  exact ⟨h4,h5.read (by omega)⟩
 unfold G6
 obtain ⟨f,hf⟩ : ∃ f : Nat → Rat,f = fun i=>gq (B7 (rs.map (·.2.2)) i) j:=⟨_,rfl⟩
 have hat2 : ∀ i,i < N → ∃ (bb ob ba oa cr : Nat),A = some ⟨bb,ob,none⟩ ∧ ∀ W,A4 w W → W.cell? ⟨bb,ob + i,none⟩ = some (.slice (some ⟨ba,oa,none⟩) L cr) ∧ Cq W ba (oa + j * 5) (f i):=by rw [hf];exact hat
 rw [← hf]
 have hmk:=A01 N (by omega) (N : Int) rfl
 have hjL : (j : Int) < (L : Int):=by omega
 have Hat:=Lib.hid hat2
 have Hmk:=Lib.hid hmk
 clear hat hat2 hmk hf h hrl hn
 go_enter Tryz.func96,Tryz.ntmps96
 refine en0 ?_
 intro u hG hB hF
 refine wp_seq ?_
 have hmk:=Hmk.out
 refine K7 ?_
 intro K hN
 go_wp2_with fail
 generalize hv : World.alloc u _ = v
 have hrow:=A0S hG.sz (by omega) hv
 have hgv : A4 u v:=hv ▸ A4.alloc u _
 have hG2:=hG.trans hgv
 clear hv hG hB hmk hgv
 rw [← A1g f N] at hrow
 generalize u.heap.size = g at hrow ⊢
 have Ho:=Lib.hid hrow
 have hG:=hG2
 have hB:=Bx.nil v
 have hF:=Fr.nil w
 clear hrow hG2
 obtain ⟨u,rfl⟩ : ∃ x,x = v:=⟨_,rfl⟩
 refine NoK.norm (hN _ _ ?_)
 clear hN K
 refine A6 ?_
 refine wp_seq ?_
 refine r0T ?_
 refine wp_block ?_
 clear hB hF
 go_loopw [13] (fun s0 wr=>∃ i : Nat,i ≤ N ∧ s0 = .int .i64 i ∧ wr.ownsRow w.heap.size 48 5 (.slice (some ⟨g,0,none⟩) N N) N ((J3 f N i).flatMap qL) ∧ A4 w wr) (fun s0 _=>N - (intOf s0).toNat)
 case atStart=>exact ⟨0,Nat.zero_le _,rfl,Ho.out,hG⟩
 case round =>
  clear hG Ho
  obtain ⟨i,hi,rfl,ho,hG⟩:=hrel
  obtain ⟨u,rfl⟩ : ∃ x,x = wr:=⟨_,rfl⟩
  have Ho:=Lib.hid ho
  have hB:=Bx.nil u
  have hF:=Fr.nil w
  clear ho
  rcases Nat.lt_or_ge i N with hlt | hge
  ·have hdec : decide ((i : Int) < (N : Int)) = true:=by simp;omega
   have hin : (i : Int) < (N : Int):=by omega
   have hst:=A13 (f:=f) hlt
   obtain ⟨bb,ob,ba,oa,cr,rfl,hrd⟩:=Hat.out i hlt
   obtain ⟨Q,hQ⟩ : ∃ q,q = f i:=⟨_,rfl⟩
   rw [← hQ] at hst
   simp only [← hQ] at hrd
   have Hst:=Lib.hid hst
   have Hrd:=Lib.hid hrd
   clear hst hrd hQ
   refine r0T ?_
   refine wp_seq ?_
   refine wp_cond_true (rfl) ?_
   refine wp_skip ?_
   refine A6 ?_
   refine wp_seq ?_
   refine wp_block ?_
   refine wp_seq ?_
   obtain ⟨q0,q1,q2,q3,q4,q5⟩:=Hrd.out u hG
   refine r0N ?_
   obtain ⟨q0,q1,q2,q3,q4,q5⟩:=Hrd.out u hG
   obtain ⟨z0,z1,z2,z3,z4,o0,o1,o2,o3,o4,hfz⟩:=A0U (enc:=qL) (fun _=>rfl) Ho.out (N1 f N i).symm i (by rw [N1];exact hlt)
   obtain ⟨q0,q1,q2,q3,q4,q5⟩:=Hrd.out u hG
   refine r0E ?_
   clear q0 q1 q2 q3 q4 q5 o0 o1 o2 o3 o4 hfz
   generalize hu0 : World.setCell (World.setCell (World.setCell (World.setCell (World.setCell u _ _) _ _) _ _) _ _) _ _ = u0
   have hu1 : D3 u g (i * 5) (qL Q) = u0:=hu0
   have hP:=R4 (enc:=qL) (size:=5) (ps:=J3 f N i) (fun _=>rfl) Ho.out i Q (by rw [N1];exact hlt)
   rw [Hst.out,hu1] at hP
   have hG2:=Q8 Ho.out hG hP.2
   have Ho2:=Lib.hid hP.1
   clear hG hB Ho hP hu1 hu0
   have hG:=hG2
   have hB:=Bx.nil u0
   have hF:=Fr.nil w
   have Ho:=Ho2
   clear hG2 Ho2
   obtain ⟨u,rfl⟩ : ∃ x,x = u0:=⟨_,rfl⟩
   refine C3 ?_
   refine A6 ?_
   refine r0E ?_
   refine A6 ?_
   go_roundw
   case rel=>exact ⟨i + 1,by omega,by go_num,Ho.out,hG⟩
   case measure=>simp [intOf];omega
  ·obtain rfl : N = i:=by omega
   have hdec : decide ((N : Int) < (N : Int)) = false:=by simp
   have ho:=Ho.out
   rw [A1i] at ho
   obtain ⟨A9,c9,e9,-,-,hL,-⟩:=M9 ho
   cases e9
   have HL:=Lib.hid hL
   clear ho hL Ho
   refine r0T ?_
   refine wp_seq ?_
   refine wp_cond_false (rfl) ?_
   refine wp_exit ?_
   refine B8 ?_
   refine B8 ?_
   refine D6 ?_
   refine A6 ?_
   refine r0T ?_
   refine rt Tryz.results96 ?_
   exact ⟨(some ⟨g,0,none⟩,N),rfl,HL.out,hG⟩
theorem A77 (A Y V : Option Addr) (rs : List Rq) (y v : List Rat) (N L c d k : Nat) (hn : rs.length = N) (hN2 : N ≤ 20) (hrl : ∀ r ∈ rs,r.2.2.length = L) (hy : y.length = N) (hv : v.length = L) (hL : L ≤ 20) (s : Nat) (hs : s ≤ 1000) (hX : ∀ i,i < N → ∀ j,j < L → qs (gq (B7 (rs.map (·.2.2)) i) j) ≤ s) (hys : ∀ i,i < N → qs (gq y i) ≤ s) (hvs : ∀ j,j < L → qs (gq v j) ≤ s) (w : World) (h : Lrq w A rs) (h2 : Lq w Y y) (h3 : Lq w V v) (HT : Tab w) :
  Calls Tryz.prog 92 #[.slice A N c,.slice Y N d,.slice V L k] w (F8 (fun x : Ax=>.slice x.1 N x.2) (fun x W=>Lq W x.1 (K5 (rs.map (·.2.2)) y v N L)) w):=by
 have hBB : 100000000 ≤ BIG:=by unfold BIG;omega
 have hLs : L * (s + s + 1) ≤ 20 * (s + s + 1):=Nat.mul_le_mul_right _ hL
 have hat : ∀ i,i < N → ∃ (bb ob by0 oy : Nat) (P : Ax) (Z D : Rat),A = some ⟨bb,ob,none⟩ ∧ Y = some ⟨by0,oy,none⟩ ∧ (∀ W,A4 w W → W.cell? ⟨bb,ob + i,none⟩ = some (.slice P.1 L P.2) ∧ Cq W by0 (oy + i * 5) Z) ∧ (∀ W,A4 w W → Calls Tryz.prog 93 #[.slice V L k,.slice P.1 L P.2] W fun e w'=>e = .returned (.tuple #[qV D,.bool true]) ∧ A4 W w') ∧ (∀ W,Tab W → Calls Tryz.prog 50 #[qV Z,qV D] W fun e w'=>e = .returned (qV (G5 Z D)) ∧ A4 W w') ∧ G5 Z D = G5 (gq y i) (E4 v (B7 (rs.map (·.2.2)) i) L):=fun i hi=>by
  obtain ⟨bb,ob,P,e,hP⟩:=S9 hn hrl h hi
  obtain ⟨by0,oy,e2⟩:=h2.addr (by omega)
  subst e2
  refine ⟨bb,ob,by0,oy,P,gq y i,E4 v (B7 (rs.map (·.2.2)) i) L,e,rfl,fun W hg=>⟨(hP W hg).1,(h2.grow hg).read (by omega)⟩,fun W hg=>?_,fun W hT=>?_,rfl⟩
  ·obtain ⟨h4,h5,h6⟩:=hP W hg
   exact A1m V P.1 v _ k P.2 L hv h6 (by omega) s s hvs (hX i hi) (by omega) W (h3.grow hg) h5 (HT.grow hg)
  ·have z1:=Y7 (a:=v) (b:=B7 (rs.map (·.2.2)) i) (n:=L) hvs (hX i hi) L (Nat.le_refl _)
   have z2:=hys i hi
   exact A3A _ _ W (by omega) hT
 unfold K5
 obtain ⟨f,hf⟩ : ∃ f : Nat → Rat,f = fun i=>G5 (gq y i) (E4 v (B7 (rs.map (·.2.2)) i) L):=⟨_,rfl⟩
 have hfi : ∀ i,f i = G5 (gq y i) (E4 v (B7 (rs.map (·.2.2)) i) L):=by rw [hf];exact fun _=>rfl
 simp only [← hfi] at hat
 rw [← hf]
 have hmk:=A01 N (by omega) (N : Int) rfl
 have Hat:=Lib.hid hat
 have Hmk:=Lib.hid hmk
 clear hat hmk hf hfi h h2 h3 hrl hn hX hys hvs hs hLs hy hv
 go_enter Tryz.func92,Tryz.ntmps92
 refine en0 ?_
 intro u hG hB hF
 refine wp_seq ?_
 have hmk:=Hmk.out
 refine K7 ?_
 intro K hN
 go_wp2_with fail
 generalize hv : World.alloc u _ = v
 have hrow:=A0S hG.sz (by omega) hv
 have hgv : A4 u v:=hv ▸ A4.alloc u _
 have hG2:=hG.trans hgv
 clear hv hG hB hmk hgv
 rw [← A1g f N] at hrow
 generalize u.heap.size = g at hrow ⊢
 have Ho:=Lib.hid hrow
 have hG:=hG2
 have hB:=Bx.nil v
 have hF:=Fr.nil w
 clear hrow hG2
 obtain ⟨u,rfl⟩ : ∃ x,x = v:=⟨_,rfl⟩
 refine NoK.norm (hN _ _ ?_)
 clear hN K
 refine A6 ?_
 refine wp_seq ?_
 refine r0T ?_
 refine wp_block ?_
 clear hB hF
 go_loopw [17] (fun s0 wr=>∃ i : Nat,i ≤ N ∧ s0 = .int .i64 i ∧ wr.ownsRow w.heap.size 48 5 (.slice (some ⟨g,0,none⟩) N N) N ((J3 f N i).flatMap qL) ∧ A4 w wr) (fun s0 _=>N - (intOf s0).toNat)
 case atStart=>exact ⟨0,Nat.zero_le _,rfl,Ho.out,hG⟩
 case round =>
  clear hG Ho
  obtain ⟨i,hi,rfl,ho,hG⟩:=hrel
  obtain ⟨u,rfl⟩ : ∃ x,x = wr:=⟨_,rfl⟩
  have Ho:=Lib.hid ho
  have hB:=Bx.nil u
  have hF:=Fr.nil w
  clear ho
  rcases Nat.lt_or_ge i N with hlt | hge
  ·have hdec : decide ((i : Int) < (N : Int)) = true:=by simp;omega
   have hin : (i : Int) < (N : Int):=by omega
   have hst:=A13 (f:=f) hlt
   obtain ⟨bb,ob,by0,oy,P,Z,D,rfl,rfl,hrd,hdt,hsb,e⟩:=Hat.out i hlt
   rw [← e] at hst
   obtain ⟨Q,hQ⟩ : ∃ q,q = G5 Z D:=⟨_,rfl⟩
   rw [← hQ] at hst
   simp only [← hQ] at hsb
   have Hst:=Lib.hid hst
   have Hrd:=Lib.hid hrd
   have Hdt:=Lib.hid hdt
   have Hsb:=Lib.hid hsb
   clear hst hrd hdt hsb hQ e
   refine r0T ?_
   refine wp_seq ?_
   refine wp_cond_true (rfl) ?_
   refine wp_skip ?_
   refine A6 ?_
   refine wp_seq ?_
   refine wp_block ?_
   refine wp_seq ?_
   obtain ⟨q0,q1,q2,q3,q4,q5⟩:=Hrd.out u hG
   refine r0N ?_
   refine wp_seq (rsC A8 [0,0,1,0,0,0,2] hB hG fun K L hN hL=>?_)
   refine gs ?_
   refine gmd (C:=fun v ⟨hgu,hB,hG,_⟩=>Hdt.out _ hG) ?_
   refine gs ?_
   refine gaa (H7 _ _ _ _ _) fun b10 hb10 hn10=>?_
   replace hF:=hF.n1 [] hB hG hb10 hn10
   refine geC hL ?_
   clear hB hG hL L
   rintro u ⟨⟨hgu,hB,hG,-⟩,h10⟩
   replace hB:=hB.cons' h10
   clear h10
   have g10 : g ≠ b10:=by
    have := (Ho.out.lt g rfl).2
    omega
   have Ho2:=Lib.hid (D1 Ho.out hgu)
   clear Ho
   have Ho:=Ho2
   clear Ho2
   clear hb10 hn10
   clear hgu
   refine gtT ?_
   clear hN K
   refine sv hB hF hG 0 0 [_,_,_,_,_] ?_
   intro u hu hBG
   have Ho2:=Lib.hid (L7 Ho.out (fun e=>g10 (Option.some.inj e)) hu)
   clear Ho
   have Ho:=Ho2
   clear Ho2
   clear hB hG hu
   obtain ⟨hB,hG⟩:=hBG
   refine rdC A8 [] [(0,0),(0,1),(0,2),(0,3),(0,4),(0,5),(0,6),(1,7),(0,8)] hB hG fun K L hN hL=>?_
   repeat first | refine gya ?_ | refine gyr ?_ | refine gna ?_ | refine gyb (by (rintro v ⟨hgu,hB,hG,-⟩ N hN;have r:=hB.r;simp only [BxR] at r;obtain ⟨q0,q1,q2,q3,q4,q5⟩:=Hrd.out v hG;go_simp;exact hN)) ?_
   refine gmd (C:=fun v ⟨hgu,hB,hG,_⟩=>Hsb.out _ (HT.grow hG)) ?_
   refine gs ?_
   refine geC hL ?_
   clear hB hG hL L
   rintro u ⟨hgu,hB,hG,-⟩
   have Ho2:=Lib.hid (D1 Ho.out hgu)
   clear Ho
   have Ho:=Ho2
   clear Ho2
   obtain ⟨z0,z1,z2,z3,z4,o0,o1,o2,o3,o4,hfz⟩:=A0U (enc:=qL) (fun _=>rfl) Ho.out (N1 f N i).symm i (by rw [N1];exact hlt)
   clear hgu
   refine gt ?_
   clear hN K
   clear o0 o1 o2 o3 o4 hfz
   generalize hu0 : World.setCell (World.setCell (World.setCell (World.setCell (World.setCell u _ _) _ _) _ _) _ _) _ _ = u0
   have hu1 : D3 u g (i * 5) (qL Q) = u0:=hu0
   have hP:=R4 (enc:=qL) (size:=5) (ps:=J3 f N i) (fun _=>rfl) Ho.out i Q (by rw [N1];exact hlt)
   rw [Hst.out,hu1] at hP
   have hG2:=Q8 Ho.out hG hP.2
   have Ho2:=Lib.hid hP.1
   clear hG hB Ho hP hu1 hu0
   have hG:=hG2
   have hB:=Bx.nil u0
   have hF:=Fr.nil w
   have Ho:=Ho2
   clear hG2 Ho2
   obtain ⟨u,rfl⟩ : ∃ x,x = u0:=⟨_,rfl⟩
   refine C3 ?_
   refine A6 ?_
   refine r0E ?_
   refine A6 ?_
   go_roundw
   case rel=>exact ⟨i + 1,by omega,by go_num,Ho.out,hG⟩
   case measure=>simp [intOf];omega
  ·obtain rfl : N = i:=by omega
   have hdec : decide ((N : Int) < (N : Int)) = false:=by simp
   have ho:=Ho.out
   rw [A1i] at ho
   obtain ⟨A9,c9,e9,-,-,hL,-⟩:=M9 ho
   cases e9
   have HL:=Lib.hid hL
   clear ho hL Ho
   refine r0T ?_
   refine wp_seq ?_
   refine wp_cond_false (rfl) ?_
   refine wp_exit ?_
   refine B8 ?_
   refine B8 ?_
   refine D6 ?_
   refine A6 ?_
   refine r0T ?_
   refine rt Tryz.results92 ?_
   exact ⟨(some ⟨g,0,none⟩,N),rfl,HL.out,hG⟩
abbrev P5 (g cp : Nat → Nat) (L i : Nat) : Value:=.slice (some ⟨g i,0,none⟩) L (cp i)
def X7 (g cp : Nat → Nat) (L n : Nat) : List Value:=(List.range n).map (P5 g cp L)
abbrev I0 (v : Value) : List Value:=[v]
def F5 (M : Mx) (L i : Nat) : List Rat:=(List.range L).map (M i)
theorem A1F (M : Mx) (L i : Nat) : (F5 M L i).length = L:=by unfold F5;simp
theorem A26 (g cp : Nat → Nat) (L n : Nat) : (X7 g cp L n).length = n:=by unfold X7;simp
structure MatW (B n L b0 c0 : Nat) (g cp : Nat → Nat) (M : Mx) (W : World) : Prop where
 hd : W.ownsRow B 35 1 (.slice (some ⟨b0,0,none⟩) n c0) n ((X7 g cp L n).flatMap I0)
 row : ∀ i,i < n → W.ownsRow B 48 5 (.slice (some ⟨g i,0,none⟩) L (cp i)) L ((F5 M L i).flatMap qL)
 inj : ∀ i j,i < n → j < n → g i = g j → i = j
section
variable {B n L b0 c0 : Nat} {g cp : Nat → Nat} {M : Mx} {W W' : World}
theorem MatW.grow (h : MatW B n L b0 c0 g cp M W) (hg : A4 W W') : MatW B n L b0 c0 g cp M W':=⟨D1 h.hd hg,fun i hi=>D1 (h.row i hi) hg,h.inj⟩
theorem MatW.kept (h : MatW B n L b0 c0 g cp M W) {r : Option Nat} (hg : W.grownBy W' r) (h0 : some b0 ≠ r) (hr : ∀ i,i < n → some (g i) ≠ r) : MatW B n L b0 c0 g cp M W' :=
 ⟨h.hd.kept hg (.inr h0),fun i hi=>(h.row i hi).kept hg (.inr (hr i hi)),h.inj⟩
theorem MatW.b0lt (h : MatW B n L b0 c0 g cp M W) : B ≤ b0 ∧ b0 < W.heap.size:=h.hd.lt b0 rfl
theorem MatW.glt (h : MatW B n L b0 c0 g cp M W) {i : Nat} (hi : i < n) : B ≤ g i ∧ g i < W.heap.size:=(h.row i hi).lt (g i) rfl
theorem MatW.gb0 (h : MatW B n L b0 c0 g cp M W) {i : Nat} (hi : i < n) : g i ≠ b0:=fun e=>O1 h.hd (h.row i hi) (by decide) b0 rfl (by rw [← e];rfl)
theorem MatW.read (h : MatW B n L b0 c0 g cp M W) {i : Nat} (hi : i < n) : W.cell? ⟨b0,i,none⟩ = some (P5 g cp L i):=by
 have h1:=T2 (enc:=I0) (size:=1) (fun _=>rfl) h.hd (A26 g cp L n).symm i 0 (by rw [A26];exact hi) (by omega)
 rw [Nat.mul_one,Nat.add_zero] at h1
 rw [h1]
 unfold X7
 simp
theorem MatW.lq (h : MatW B n L b0 c0 g cp M W) {i : Nat} (hi : i < n) : Lq W (some ⟨g i,0,none⟩) (F5 M L i):=by
 obtain ⟨A,c,e,-,-,hL,-⟩:=M9 (h.row i hi)
 cases e
 exact hL
theorem B5E {M : Mx} {L i j : Nat} (h : j < L) : gq (F5 M L i) j = M i j:=A1w _ h
theorem MatW.cq (h : MatW B n L b0 c0 g cp M W) {i j : Nat} (hi : i < n) (hj : j < L) : Cq W (g i) (j * 5) (M i j):=by
 have h1:=(h.lq hi).read (i:=j) (by rw [A1F];exact hj)
 rw [B5E hj,Nat.zero_add] at h1
 exact h1
def U9 (M : Mx) (i j : Nat) (q : Rat) : Mx:=fun i' j'=>if i' = i ∧ j' = j then q else M i' j'
theorem A7M {M : Mx} {L i j : Nat} {q : Rat} (hj : j < L) : (F5 M L i).set j q = F5 (U9 M i j q) L i:=by
 unfold F5
 apply List.ext_getElem
 ·simp
 ·intro k h1 h2
  rw [List.getElem_set]
  simp only [List.getElem_map,List.getElem_range]
  unfold U9
  by_cases e : j = k
  ·subst e;simp
  ·rw [if_neg e,if_neg (by omega)]
theorem A6m {M : Mx} {L i i' j : Nat} {q : Rat} (h : i' ≠ i) : F5 (U9 M i j q) L i' = F5 M L i':=by
 unfold F5
 refine List.map_congr_left fun k _=>?_
 unfold U9
 rw [if_neg (by omega)]
theorem MatW.put (h : MatW B n L b0 c0 g cp M W) {i j : Nat} (hi : i < n) (hj : j < L) (q : Rat) {o : Nat} (ho : o = j * 5) (hu : D3 W (g i) o (qL q) = W') : MatW B n L b0 c0 g cp (U9 M i j q) W' ∧ W.grownBy W' (some (g i)):=by
 subst ho
 obtain ⟨h1,h2⟩:=R4 (enc:=qL) (size:=5) (ps:=F5 M L i) (fun _=>rfl) (h.row i hi) j q (by rw [A1F];exact hj)
 rw [hu,A7M hj] at h1
 rw [hu] at h2
 refine ⟨⟨h.hd.kept h2 (.inr fun e=>h.gb0 hi (Option.some.inj e).symm),fun i' hi'=>?_,h.inj⟩,h2⟩
 by_cases e : i' = i
 ·subst e;exact h1
 ·rw [A6m e]
  exact (h.row i' hi').kept h2 (.inr fun e2=>e (h.inj i' i hi' hi (Option.some.inj e2)))
def sw (f : Nat → Nat) (a b : Nat) : Nat → Nat:=fun i=>if i = a then f b else if i = b then f a else f i
theorem A9J {a b : Nat} (ha : a < n) (hb : b < n) : ((X7 g cp L n).set a (P5 g cp L b)).set b (P5 g cp L a) = X7 (sw g a b) (sw cp a b) L n:=by
 unfold X7
 apply List.ext_getElem
 ·simp
 ·intro k h1 h2
  rw [List.getElem_set,List.getElem_set]
  simp only [List.getElem_map,List.getElem_range]
  unfold P5 sw
  by_cases e1 : k = a
  ·subst e1
   by_cases e2 : b = k
   ·subst e2;simp
   ·rw [if_neg e2];simp
  ·by_cases e2 : b = k
   ·subst e2;simp [e1]
   ·rw [if_neg e2,if_neg (fun e=>e1 e.symm),if_neg e1,if_neg (fun e=>e2 e.symm),if_neg e1,if_neg (fun e=>e2 e.symm)]
theorem B2m {f : Nat → Nat} {a b : Nat} (ha : a < n) (hb : b < n) (h : ∀ i j,i < n → j < n → f i = f j → i = j) : ∀ i j,i < n → j < n → sw f a b i = sw f a b j → i = j:=fun i j hi hj e=>by
 unfold sw at e
 split at e <;> split at e <;> rename_i h1 h2 <;> (try split at e) <;> (try split at e) <;> (have h3:=h _ _ (by assumption) (by assumption) e;omega)
theorem MatW.swap {W1 W2 : World} (h : MatW B n L b0 c0 g cp M W) {a b : Nat} (ha : a < n) (hb : b < n) (h1 : D3 W b0 a [P5 g cp L b] = W1) (h2 : D3 W1 b0 b [P5 g cp L a] = W2) : MatW B n L b0 c0 (sw g a b) (sw cp a b) (S7 M a b) W2 ∧ W.grownBy W2 (some b0):=by
 have q1:=R4 (enc:=I0) (size:=1) (ps:=X7 g cp L n) (fun _=>rfl) h.hd a (P5 g cp L b) (by rw [A26];exact ha)
 rw [Nat.mul_one,h1] at q1
 have q2:=R4 (enc:=I0) (size:=1) (ps:=(X7 g cp L n).set a (P5 g cp L b)) (fun _=>rfl) q1.1 b (P5 g cp L a) (by rw [List.length_set,A26];exact hb)
 rw [Nat.mul_one,h2,A9J ha hb] at q2
 have hg:=A2S q1.2 q2.2
 have key : ∀ i,i < n → W2.ownsRow B 48 5 (.slice (some ⟨g i,0,none⟩) L (cp i)) L ((F5 M L i).flatMap qL):=fun i hi=>(h.row i hi).kept hg (.inr fun e=>h.gb0 hi (Option.some.inj e))
 refine ⟨⟨q2.1,fun i hi=>?_,B2m ha hb h.inj⟩,hg⟩
 unfold sw F5 S7
 by_cases e1 : i = a
 ·simp only [if_pos e1]
  exact key b hb
 ·by_cases e2 : i = b
  ·simp only [if_neg e1,if_pos e2]
   exact key a ha
  ·simp only [if_neg e1,if_neg e2]
   exact key i hi
theorem MatW.fresh (h : MatW B n L b0 c0 g cp M W) {b : Nat} (hb : W.heap.size ≤ b) : b ≠ b0 ∧ ∀ i,i < n → b ≠ g i:=⟨by have := h.b0lt;omega,fun i hi=>by have := h.glt hi;omega⟩
theorem MatW.over (h : MatW B n L b0 c0 g cp M W) {b i : Nat} {vs : List Value} (hb : b ≠ b0 ∧ ∀ i,i < n → b ≠ g i) (hu : D3 W b i vs = W') : MatW B n L b0 c0 g cp M W':=by
 subst hu
 exact h.kept (A0p b vs i W) (fun e=>hb.1 (Option.some.inj e).symm) (fun i hi e=>hb.2 i hi (Option.some.inj e).symm)
theorem MatW.lrq (h : MatW B n L b0 c0 g cp M W) : Lrq W (some ⟨b0,0,none⟩) ((List.range n).map fun i=>((some ⟨g i,0,none⟩,cp i,F5 M L i) : Rq)):=fun hne=>by
 refine ⟨b0,0,rfl,h.b0lt.2,fun i r hi=>?_⟩
 rw [List.getElem?_map] at hi
 obtain ⟨k,hk,rfl⟩:=Option.map_eq_some_iff.1 hi
 have hin : i < n:=by
  have := (List.getElem?_eq_some_iff.1 hk).1
  simpa using this
 have hki : k = i:=by
  rw [List.getElem?_range hin] at hk
  exact (Option.some.inj hk).symm
 subst hki
 simp only
 rw [A1F,Nat.zero_add]
 exact ⟨h.read hin,h.lq hin⟩
end
end Go.Proofs.YtgpglgbcobeogaaGreatDoor
