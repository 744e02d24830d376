/- Contracts and laws. -/
import Derived.Test.YtgpglgbcobeogaaGreatDoorA31
set_option linter.unusedSimpArgs false
set_option linter.unusedVariables false
set_option maxHeartbeats 2000000
set_option maxRecDepth 100000
namespace Go.Proofs.YtgpglgbcobeogaaGreatDoor
open Go Go.RowKit
def B8 (rs : List (List Rat)) (i : Nat) : List Rat:=(rs[i]?).getD []
def H4 (a b : List Rat) (n : Nat) : Rat:=A1l (fun i=>E7 (gq a i) (gq b i)) n
theorem B0Z (a b : List Rat) (n : Nat) : H4 a b (n + 1) = G9 (H4 a b n) (E7 (gq a n) (gq b n)):=rfl
theorem A2e {a b : List Rat} {n s t : Nat} (ha : ∀ i,i < n → qs (gq a i) ≤ s) (hb : ∀ i,i < n → qs (gq b i) ≤ t) : ∀ j,j ≤ n → qs (H4 a b j) ≤ j * (s + t + 1) + 1:=fun j hj =>
 A7k _ (s + t) n (fun i hi=>Nat.le_trans (Z7 _ _) (Nat.add_le_add (ha i hi) (hb i hi))) j hj
theorem V9 (f : Nat → Rat) {n i : Nat} (h : i < n) : gq ((List.range n).map f) i = f i:=by
 show ((((List.range n).map f)[i]?).getD 0) = _
 simp [h]
def A0K (X : List (List Rat)) (y w : List Rat) (n L : Nat) : List Rat:=(List.range n).map fun i=>C4 (gq y i) (H4 w (B8 X i) L)
def I4 (X : List (List Rat)) (j n : Nat) : List Rat:=(List.range n).map fun i=>gq (B8 X i) j
def A0w (X : List (List Rat)) (y w : List Rat) (n L : Nat) : List Rat:=(List.range L).map fun j=>H4 (I4 X j n) (A0K X y w n L) n
def A0n (a b : Rat) : Rat:=if a < b then b else a
def A1T (p : List Rat) : Nat → Rat
 | 0=>0
 | n + 1=>A0n (A1T p n) (A03 (gq p n))
def U5 (n : Nat) : List Rat:=List.replicate n 0
def A3W (X : List (List Rat)) (y : List Rat) (n L : Nat) : Rat:=A1T (A0w X y (U5 L) n L) L
def V7 (f : Nat → Bool) : Nat → Nat → Nat
 | 0,i=>i
 | k + 1,i=>if f i then V7 f k (i + 1) else i
theorem A2r (f : Nat → Bool) (k i : Nat) : i ≤ V7 f k i ∧ V7 f k i ≤ i + k ∧ (∀ j,i ≤ j → j < V7 f k i → f j = true) ∧ (V7 f k i < i + k → f (V7 f k i) = false):=by
 induction k generalizing i with
 | zero=>exact ⟨Nat.le_refl _,Nat.le_refl _,fun j h1 h2=>absurd h2 (by simp [V7];omega),fun h=>absurd h (by simp [V7])⟩
 | succ k ih =>
  unfold V7
  cases hf : f i with
  | true =>
   rw [if_pos rfl]
   obtain ⟨h1,h2,h3,h4⟩:=ih (i + 1)
   refine ⟨by omega,by omega,fun j h5 h6=>?_,fun h5=>h4 (by omega)⟩
   rcases Nat.eq_or_lt_of_le h5 with h | h
   ·rw [← h];exact hf
   ·exact h3 j h h6
  | false =>
   rw [if_neg (by simp)]
   exact ⟨Nat.le_refl _,by omega,fun j h5 h6=>absurd h6 (by omega),fun _=>hf⟩
theorem B0A (X : List (List Rat)) (y w : List Rat) (n L : Nat) : (A0K X y w n L).length = n:=by unfold A0K;simp
theorem B17 (X : List (List Rat)) (j n : Nat) : (I4 X j n).length = n:=by unfold I4;simp
theorem B3J (X : List (List Rat)) (y w : List Rat) (n L : Nat) : (A0w X y w n L).length = L:=by unfold A0w;simp
theorem B1Y (X : List (List Rat)) (y w : List Rat) (n L : Nat) {i : Nat} (h : i < n) : gq (A0K X y w n L) i = C4 (gq y i) (H4 w (B8 X i) L):=V9 _ h
theorem A7K (X : List (List Rat)) (j n : Nat) {i : Nat} (h : i < n) : gq (I4 X j n) i = gq (B8 X i) j:=V9 _ h
theorem B2K (X : List (List Rat)) (y w : List Rat) (n L : Nat) {j : Nat} (h : j < L) : gq (A0w X y w n L) j = H4 (I4 X j n) (A0K X y w n L) n:=V9 _ h
theorem A9u (f : Nat → Rat) (n : Nat) : (List.range (n + 1)).map f = (List.range n).map f ++ [f n]:=by rw [List.range_succ,List.map_append];rfl
theorem B1D (n i : Nat) : gq (U5 n) i = 0:=by
 unfold gq U5
 rw [List.getElem?_replicate]
 split <;> rfl
theorem A6v (a : Rat) : qs (A03 a) = qs a:=by
 unfold A03 Rat.abs
 split
 ·rfl
 ·exact A4B a
theorem A6N {X : List (List Rat)} {y w : List Rat} {n L s : Nat} (hn : n ≤ 20) (hL : L ≤ 20) (hs : s ≤ 1000) (hX : ∀ i,i < n → ∀ j,j < L → qs (gq (B8 X i) j) ≤ s) (hy : ∀ i,i < n → qs (gq y i) ≤ s) (hw : ∀ j,j < L → qs (gq w j) ≤ s) : ∀ i,i < n → qs (gq (A0K X y w n L) i) ≤ 50000:=fun i hi=>by
 rw [B1Y X y w n L hi]
 have h1:=A2e (a:=w) (b:=B8 X i) (n:=L) hw (hX i hi) L (Nat.le_refl _)
 have h2:=T4 (gq y i) (H4 w (B8 X i) L)
 have h3:=hy i hi
 have h4 : L * (s + s + 1) ≤ 20 * (s + s + 1):=Nat.mul_le_mul_right _ hL
 unfold C4
 omega
theorem B2M {X : List (List Rat)} {y w : List Rat} {n L s : Nat} (hn : n ≤ 20) (hL : L ≤ 20) (hs : s ≤ 1000) (hX : ∀ i,i < n → ∀ j,j < L → qs (gq (B8 X i) j) ≤ s) (hy : ∀ i,i < n → qs (gq y i) ≤ s) (hw : ∀ j,j < L → qs (gq w j) ≤ s) : ∀ j,j < L → qs (gq (A0w X y w n L) j) ≤ 1100000:=fun j hj=>by
 rw [B2K X y w n L hj]
 have h0:=A6N hn hL hs hX hy hw
 have h1:=A2e (a:=I4 X j n) (b:=A0K X y w n L) (n:=n) (s:=s) (t:=50000) (fun i hi=>by rw [A7K X j n hi];exact hX i hi j hj) h0 n (Nat.le_refl _)
 have h4 : n * (s + 50000 + 1) ≤ 20 * (s + 50000 + 1):=Nat.mul_le_mul_right _ hn
 omega
theorem A8x {a b : Rat} {s : Nat} (h1 : qs a ≤ s) (h2 : qs b ≤ s) : qs (A0n a b) ≤ s:=by unfold A0n;split <;> assumption
theorem A8B {p : List Rat} {n s : Nat} (hs : 1 ≤ s) (h : ∀ j,j < n → qs (gq p j) ≤ s) : ∀ j,j ≤ n → qs (A1T p j) ≤ s
 | 0,_=>by rw [A1T,A1Y];exact hs
 | j + 1,hj=>A8x (A8B hs h j (by omega)) (by rw [A6v];exact h j (by omega))
theorem B1Z {a b : Rat} : (G6 a b == 0) = decide (a = b):=by
 unfold G6
 by_cases h1 : a < b
 ·rw [if_pos h1]
  have : ¬ a = b:=fun h=>by rw [h] at h1;exact Rat.lt_irrefl h1
  simp [this]
 ·rw [if_neg h1]
  by_cases h2 : b < a
  ·rw [if_pos h2]
   have : ¬ a = b:=fun h=>by rw [h] at h2;exact Rat.lt_irrefl h2
   simp [this]
  ·rw [if_neg h2]
   have : a = b:=by grind
   simp [this]
theorem A2N {w : Rat} : w.num.sign = -1 ↔ w < 0:=by
 rw [Int.sign_eq_neg_one_iff_neg,Rat.lt_iff]
 simp
abbrev Mx:=Nat → Nat → Rat
def T2 (M : Mx) (a b : Nat) : Mx:=fun i=>if i = a then M b else if i = b then M a else M i
def Q9 (M : Mx) (t : Nat) (k : Rat) (n : Nat) : Mx:=fun i j=>if i = t ∧ j < n then E7 (M i j) k else M i j
def K9 (M : Mx) (i t : Nat) (k : Rat) (n : Nat) : Mx:=fun i' j=>if i' = i ∧ j < n then C4 (M i' j) (E7 k (M t j)) else M i' j
def K8 (M : Mx) (t c L : Nat) : Nat → Mx
 | 0=>M
 | i + 1=>if i = t then K8 M t c L i else K9 (K8 M t c L i) i t (K8 M t c L i i c) L
def N7 (M : Mx) (n top col : Nat) : Nat:=V7 (fun i=>decide (M i col = 0)) (n - top) top
abbrev Gs:=Mx × List Nat
def A1q (n : Nat) (s : Gs) (col : Nat) : Nat:=N7 s.1 n s.2.length col
def A52 (n L : Nat) (s : Gs) (col : Nat) : Mx:=Q9 (T2 s.1 s.2.length (A1q n s col)) s.2.length (I0 (C5 1) (T2 s.1 s.2.length (A1q n s col) s.2.length col)) L
def A0J (n L : Nat) (s : Gs) (col : Nat) : Gs:=if A1q n s col < n then (K8 (A52 n L s col) s.2.length col L n,s.2 ++ [col]) else s
def F9 (n L : Nat) (s : Gs) : Nat → Gs
 | 0=>s
 | c + 1=>A0J n L (F9 n L s c) c
def szM (M : Mx) (n L s : Nat) : Prop:=∀ i,i < n → ∀ j,j < L → qs (M i j) ≤ s
theorem szM.mono {M : Mx} {n L s t : Nat} (h : szM M n L s) (hs : s ≤ t) : szM M n L t:=fun i hi j hj=>Nat.le_trans (h i hi j hj) hs
theorem A2j (M : Mx) (n top col : Nat) : (N7 M n top col < n → top ≤ N7 M n top col ∧ M (N7 M n top col) col ≠ 0) ∧ ∀ i,top ≤ i → i < N7 M n top col → M i col = 0:=by
 obtain ⟨h1,h2,h3,h4⟩:=A2r (fun i=>decide (M i col = 0)) (n - top) top
 refine ⟨fun h=>⟨h1,fun e=>?_⟩,fun i hi hp=>of_decide_eq_true (h3 i hi hp)⟩
 have h5:=h4 (by unfold N7 at h;omega)
 simp only [decide_eq_false_iff_not] at h5
 exact h5 e
theorem A6r {M : Mx} {n L s a b : Nat} (h : szM M n L s) (ha : a < n) (hb : b < n) : szM (T2 M a b) n L s:=fun i hi j hj=>by
 unfold T2
 split
 ·exact h b hb j hj
 ·split
  ·exact h a ha j hj
  ·exact h i hi j hj
theorem A6q {M : Mx} {n L s t m : Nat} {k : Rat} {r : Nat} (h : szM M n L s) (hk : qs k ≤ r) : szM (Q9 M t k m) n L (s + r):=fun i hi j hj=>by
 unfold Q9
 have h1:=h i hi j hj
 split
 ·have := Z7 (M i j) k
  unfold E7
  omega
 ·omega
theorem A5c {M : Mx} {t c L : Nat} : ∀ i k,i ≤ k → K8 M t c L i k = M k
 | 0,_,_=>rfl
 | i + 1,k,h=>by
  have ih:=A5c (M:=M) (t:=t) (c:=c) (L:=L) i k (by omega)
  unfold K8
  split
  ·exact ih
  ·funext j
   unfold K9
   rw [if_neg (by omega),ih]
theorem A5U {M : Mx} {t c L : Nat} : ∀ i,K8 M t c L i t = M t
 | 0=>rfl
 | i + 1=>by
  have ih:=A5U (M:=M) (t:=t) (c:=c) (L:=L) i
  unfold K8
  split
  ·exact ih
  ·funext j
   unfold K9
   rw [if_neg (by omega),ih]
theorem A5o {M : Mx} {n L s t c : Nat} (h : szM M n L s) (ht : t < n) (hc : c < L) : ∀ i,i ≤ n → szM (K8 M t c L i) n L (3 * s + 1)
 | 0,_=>h.mono (by omega)
 | i + 1,hi=>by
  have ih:=A5o h ht hc i (by omega)
  unfold K8
  split
  ·exact ih
  ·intro i' hi' j hj
   unfold K9
   split
   ·rename_i e
    obtain ⟨rfl,-⟩:=e
    rw [A5c i' i' (Nat.le_refl _),A5U]
    have h1:=h i' hi' j hj
    have h2:=h i' hi' c hc
    have h3:=h t ht j hj
    have h4:=Z7 (M i' c) (M t j)
    have h5:=T4 (M i' j) (E7 (M i' c) (M t j))
    unfold C4
    unfold E7 at h5 ⊢
    omega
   ·exact ih i' hi' j hj
theorem B1C {M : Mx} {le : List Nat} {n L s col : Nat} (h : szM M n L s) (hc : col < L) (hp : A1q n (M,le) col < n) : le.length < n ∧ szM (A52 n L (M,le) col) n L (2 * s + 1):=by
 have h1:=(A2j M n le.length col).1 hp
 have ht : le.length < n:=by
  have : N7 M n le.length col < n:=hp
  omega
 have h2:=A6r h ht hp
 refine ⟨ht,(A6q (r:=s + 1) h2 ?_).mono (by omega)⟩
 have h4 : qs (T2 M le.length (A1q n (M,le) col) le.length col) ≤ s:=h2 le.length ht col hc
 have h3:=A2I (C5 1) (T2 M le.length (A1q n (M,le) col) le.length col)
 have h5 : qs (C5 1) ≤ 1:=by decide
 exact Nat.le_trans h3 (by omega)
theorem B4C {s : Gs} {n L k col : Nat} (h : szM s.1 n L k) (hc : col < L) : szM (A0J n L s col).1 n L (6 * k + 4):=by
 unfold A0J
 split
 ·rename_i hp
  obtain ⟨ht,h1⟩:=B1C (M:=s.1) (le:=s.2) h hc hp
  exact (A5o h1 ht hc n (Nat.le_refl _)).mono (by omega)
 ·exact h.mono (by omega)
theorem A48 {s : Gs} {n L k : Nat} (h : szM s.1 n L k) (hk : 1 ≤ k) : ∀ c,c ≤ L → szM (F9 n L s c).1 n L (k * 10 ^ c)
 | 0,_=>by rw [Nat.pow_zero,Nat.mul_one];exact h
 | c + 1,hc=>by
  have h1:=B4C (A48 h hk c (by omega)) (col:=c) (by omega)
  refine h1.mono ?_
  have h2 : 1 ≤ k * 10 ^ c:=Nat.mul_pos hk (Nat.pow_pos (by omega))
  have h3 : k * 10 ^ (c + 1) = k * 10 ^ c * 10:=by rw [Nat.pow_succ,Nat.mul_assoc]
  rw [h3]
  omega
theorem A5h {s : Gs} {n L : Nat} (h : s.2.length ≤ n) (hl : ∀ x ∈ s.2,x < L) : ∀ c,c ≤ L → (F9 n L s c).2.length ≤ n ∧ (∀ x ∈ (F9 n L s c).2,x < L)
 | 0,_=>⟨h,hl⟩
 | c + 1,hc=>by
  obtain ⟨h1,h2⟩:=A5h h hl c (by omega)
  show (A0J n L (F9 n L s c) c).2.length ≤ n ∧ ∀ x ∈ (A0J n L (F9 n L s c) c).2,x < L
  unfold A0J
  split
  ·rename_i hp
   have h3:=(A2j (F9 n L s c).1 n (F9 n L s c).2.length c).1 hp
   have h4 : N7 (F9 n L s c).1 n (F9 n L s c).2.length c < n:=hp
   refine ⟨by simp only [List.length_append,List.length_singleton];omega,fun x hx=>?_⟩
   rcases List.mem_append.1 hx with hx | hx
   ·exact h2 x hx
   ·have : x = c:=by simpa using hx
    omega
  ·exact ⟨h1,h2⟩
theorem B3k (A B : Option Addr) (l : List Rat) (n c d : Nat) (hn : l.length = n) (hm : n ≤ 1048576) (hs : ∀ x ∈ l,qs x ≤ LIM) (w : World) (h : Lq w A l) (h' : Lz w B l) :
  Calls Tryz.prog 22 #[.slice A n c,.slice B n d] w fun e w'=>e = .returned (.bool true) ∧ A4 w w':=by
 have H:=Lib.hid h
 have H':=Lib.hid h'
 have Hn:=Lib.hid hn
 have Hs:=Lib.hid hs
 have hne : ((n : Int) != (n : Int)) = false:=by simp
 clear h h' hn hs
 go_enter Tryz.func22,Tryz.ntmps22
 refine en0 ?_
 intro u hG hB hF
 refine wp_seq ?_
 refine r0T ?_
 refine wp_cond_false (rfl) ?_
 refine wp_skip ?_
 refine A6 ?_
 refine wp_seq ?_
 refine r0T ?_
 refine wp_block ?_
 go_loopw [5] (fun s0 wr=>∃ (i : Nat) ,i ≤ n ∧ s0 = .int .i64 i ∧ A4 w wr) (fun s0 _=>n - (intOf s0).toNat)
 case atStart=>exact ⟨0,Nat.zero_le _,rfl,hG⟩
 case round =>
  clear hB hG
  obtain ⟨i,hi,rfl,hG⟩:=hrel
  obtain ⟨u,rfl⟩ : ∃ x,x = wr:=⟨_,rfl⟩
  have hB:=Bx.nil u
  rcases Nat.lt_or_ge i n with hlt0 | hge0
  ·have hdec : decide ((i : Int) < (n : Int)) = true:=by simp;omega
   have hil : i < l.length:=by rw [Hn.out];exact hlt0
   have hini : (i : Int) < (n : Int):=by omega
   obtain ⟨ba,oa,rfl⟩:=H.out.addr (by omega)
   obtain ⟨bb,ob,rfl⟩:=H'.out.addr (by omega)
   have h1:=fun W (hg : A4 w W)=>(H.out.grow hg).read hil
   obtain ⟨p,h2⟩:=H'.out.read hil
   have z:=Hs.out _ (A4w hil)
   obtain ⟨X,hX⟩ : ∃ X,X = gq l i:=⟨_,rfl⟩
   rw [← hX] at z
   simp only [← hX] at h1 h2
   have H1:=Lib.hid h1
   have H2:=Lib.hid h2
   clear h1 h2 hX hil
   refine wp_seq ?_
   refine r0T ?_
   refine wp_cond_true (rfl) ?_
   refine wp_skip ?_
   refine A6 ?_
   refine wp_seq ?_
   refine wp_block ?_
   refine wp_seq (rdC A8 [] [(0,0),(0,1),(0,2),(0,3),(0,4),(0,5),(0,6),(0,7),(1,8)] hB hG fun K L hN hL=>?_)
   repeat first | refine gya ?_ | refine gyr ?_ | refine gna ?_ | refine gyb (by (rintro v ⟨hgu,hB,hG,-⟩ N hN;have r:=hB.r;simp only [BxR] at r;obtain ⟨a1,a2,a3,a4,a5⟩:=H1.out v hG;obtain ⟨-,c1,c2,c3⟩:=H2.out v hG;go_simp;exact hN)) ?_
   refine gmd (C:=fun v ⟨hgu,hB,hG,_⟩=>A7E X p.1 p.2 z _ (H2.out _ hG).1.a (H2.out _ hG).1.b) ?_
   refine geC hL ?_
   clear hB hG hL L
   rintro u ⟨-,hB,hG,-⟩
   refine gtT ?_
   clear hN K
   refine wp_cond_false (rfl) ?_
   refine wp_skip ?_
   refine D4 ?_
   refine A6 ?_
   refine r0E ?_
   refine A6 ?_
   go_roundw
   case rel=>exact ⟨i + 1,by omega,by go_num,hG⟩
   case measure=>simp [intOf];try omega
  ·obtain rfl : n = i:=by omega
   have hdec : decide ((n : Int) < (n : Int)) = false:=by simp
   skip
   refine wp_seq ?_
   refine r0T ?_
   refine wp_cond_false (rfl) ?_
   refine wp_exit ?_
   refine B6 ?_
   refine B6 ?_
   refine E6 ?_
   refine A6 ?_
   refine r0T ?_
   refine rt Tryz.results22 ?_
   exact ⟨rfl,hG⟩
theorem Y5 {α : Type} {enc : α → List Value} {B : Nat} {e : TypeId} {g cap n : Nat} (he : ∀ x,(enc x).length = 5) {u : World} {ps : List α} (h : u.ownsRow B e 5 (.slice (some ⟨g,0,none⟩) n cap) n (ps.flatMap enc)) (hn : n = ps.length) (k : Nat) (hk : k < ps.length) :
  ∃ y0 y1 y2 y3 y4,u.cell? ⟨g,k * 5,none⟩ = some y0 ∧ u.cell? ⟨g,k * 5 + 1,none⟩ = some y1 ∧ u.cell? ⟨g,k * 5 + 2,none⟩ = some y2 ∧ u.cell? ⟨g,k * 5 + 3,none⟩ = some y3 ∧ u.cell? ⟨g,k * 5 + 4,none⟩ = some y4 ∧ ∀ j,u.frozen? ⟨g,j,none⟩ = false:=by
 have hl:=he ps[k]
 have h0:=Y9 he h hn k 0 hk (by omega)
 have h1:=Y9 he h hn k 1 hk (by omega)
 have h2:=Y9 he h hn k 2 hk (by omega)
 have h3:=Y9 he h hn k 3 hk (by omega)
 have h4:=Y9 he h hn k 4 hk (by omega)
 rw [List.getElem?_eq_getElem (by omega)] at h0 h1 h2 h3 h4
 exact ⟨_,_,_,_,_,h0,h1,h2,h3,h4,fun j=>h.frozenAt j⟩
theorem A0g (b : Nat) : ∀ (vs : List Value) (i : Nat) (u : World),u.grownBy (D5 u b i vs) (some b)
 | [],_,_=>⟨rfl,rfl,rfl,Nat.le_refl _,fun _ _ _=>rfl⟩
 | v :: vs,i,u=>A2U (u1:=u.setCell ⟨b,i,none⟩ v) ⟨rfl,rfl,rfl,by simp [World.setCell],fun k _ hk=>Below.heap_setCell _ _ _ _ (fun e=>hk (by simp [e]))⟩ (A0g b vs (i + 1) _)
theorem M5 {u u' : World} {B : Nat} {e : TypeId} {size n b i : Nat} {v : Value} {xs vs : List Value} (h : u.ownsRow B e size v n xs) (hb : v.ownBlock ≠ some b) (hu : D5 u b i vs = u') : u'.ownsRow B e size v n xs:=by
 subst hu
 exact h.kept (A0g b vs i u) (.inr hb)
theorem A7F : (Tryz.prog.info? 48).map (fun i=>(i.zero,i.size,i.bytes)) = some (some (.agg (qL 0).toArray),5,56):=by kernel_rfl
theorem B2P (n : Nat) : madeCells (Value.agg (qL 0).toArray).cells (n * 5) = ((List.replicate n (0 : Rat)).flatMap qL).toArray:=by
 unfold madeCells
 refine Array.ext (by simp [A0s,show (qL 0).length = 5 from rfl]) fun i h1 h2=>?_
 have h1' : i < n * 5:=by simpa using h1
 have hg:=A18 (List.replicate n (0 : Rat)) (i:=i / 5) (q:=0) (by rw [List.getElem?_replicate,if_pos (by omega)]) (j:=i % 5) (by omega)
 rw [show i / 5 * 5 + i % 5 = i by omega] at hg
 have h3 : ((List.replicate n (0 : Rat)).flatMap qL)[i]? = some ((List.replicate n (0 : Rat)).flatMap qL)[i]:=List.getElem?_eq_getElem _
 rw [h3] at hg
 have h4 : (qL 0)[i % 5]? = some ((qL 0)[i % 5]'(by show i % 5 < 5;omega)):=List.getElem?_eq_getElem _
 rw [h4] at hg
 injection hg with hg
 simp only [List.getElem_toArray,Value.cells,Array.getElem_ofFn]
 rw [hg]
 simp [show (qL 0).length = 5 from rfl]
 rw [h4]
 rfl
theorem A0i (n : Nat) (hn : n ≤ 1048576) (x : Int) (hx : x = n) (W : World) : (Instr.makeSlice 35 (.int .i64 x) (.int .i64 x)).run Tryz.prog W =
  .ok (.slice (some ⟨W.heap.size,0,none⟩) n n) (W.alloc (.cells ((List.replicate n (0 : Rat)).flatMap qL).toArray 48)):=by
 obtain ⟨i0,hi0,hz0,hz1,hz2⟩:=info_parts A7F
 have hr:=run_make (P:=Tryz.prog) W 35 48 i0 (.agg (qL 0).toArray) Tryz.underlying35 hi0 hz0 .i64 .i64 n n (by omega) (by omega) (by rw [hz2];omega) (by omega)
 rw [hx]
 rw [hr,hz1]
 simp only [Int.toNat_natCast]
 rw [B2P]
theorem A0O {u v : World} {B n : Nat} (hB : B ≤ u.heap.size) (hn : n ≤ 1048576) (hv : u.alloc (.cells ((List.replicate n (0 : Rat)).flatMap qL).toArray 48) = v) : v.ownsRow B 48 5 (.slice (some ⟨u.heap.size,0,none⟩) n n) n ((List.replicate n (0 : Rat)).flatMap qL):=by
 subst hv
 have h:=World.ownsRow_lit (base:=B) (e:=48) (size:=5) u ((List.replicate n (0 : Rat)).flatMap qL).toArray n hB (by unfold maxLen;omega) (by simp [A0s,show (qL 0).length = 5 from rfl])
 simpa using h
theorem A3D (w : World) (l : List Rat) : Lq (w.alloc (.cells (l.flatMap qL).toArray 48)) (some ⟨w.heap.size,0,none⟩) l:=fun _ =>
 ⟨w.heap.size,0,rfl,by rw [I2];omega,fun i q hi j v hj=>by
  have hj5 : j < 5:=(List.getElem?_eq_some_iff.1 hj).1
  rw [Nat.zero_add,Blk.cell (Blk.new w 48 _),List.getElem?_toArray,A18 l hi hj5,hj]⟩
def I9 (f : Nat → Rat) (n i : Nat) : List Rat:=(List.range n).map fun t=>if t < i then f t else 0
theorem L6 (f : Nat → Rat) (n i : Nat) : (I9 f n i).length = n:=by unfold I9;simp
theorem A1K (f : Nat → Rat) (n : Nat) : I9 f n 0 = List.replicate n 0:=by
 unfold I9
 apply List.ext_getElem
 ·simp
 ·intro i h1 h2;simp
theorem A1O (f : Nat → Rat) (n : Nat) : I9 f n n = (List.range n).map f:=by
 unfold I9
 refine List.map_congr_left fun j hj=>?_
 rw [if_pos (List.mem_range.1 hj)]
theorem A1a {f : Nat → Rat} {n i : Nat} (h : i < n) : (I9 f n i).set i (f i) = I9 f n (i + 1):=by
 unfold I9
 apply List.ext_getElem
 ·simp
 ·intro j h1 h2
  rw [List.getElem_set]
  simp only [List.getElem_map,List.getElem_range]
  by_cases e : i = j
  ·subst e;simp
  ·rw [if_neg e]
   by_cases hj : j < i
   ·rw [if_pos hj,if_pos (by omega)]
   ·rw [if_neg hj,if_neg (by omega)]
theorem A2Y (A B : Option Addr) (l l' : List Rat) (c d n : Nat) (hl : l.length = n) (hl' : l'.length = n) (hm : n ≤ 1048576) (s t : Nat) (hs : ∀ i,i < n → qs (gq l i) ≤ s) (hs' : ∀ i,i < n → qs (gq l' i) ≤ t) (hBz : n * (s + t + 1) + s + t + 10 ≤ BIG) (w : World) (h : Lq w A l) (h' : Lq w B l') (HT : Tab w) :
  Calls Tryz.prog 93 #[.slice A n c,.slice B n d] w fun e w'=>e = .returned (.tuple #[qV (H4 l l' n),.bool true]) ∧ A4 w w':=by
 have hM : ∀ j,j ≤ n → qs (H4 l l' j) ≤ n * (s + t + 1) + 1:=fun j hj=>Nat.le_trans (A2e hs hs' j hj) (Nat.add_le_add_right (Nat.mul_le_mul_right _ hj) 1)
 have hne : ((n : Int) != (n : Int)) = false:=by simp
 have HM:=Lib.hid hM
 have Hs:=Lib.hid hs
 have Hs':=Lib.hid hs'
 have H:=Lib.hid h
 have H':=Lib.hid h'
 have Hl:=Lib.hid hl
 have Hl':=Lib.hid hl'
 clear hM hs hs' h h' hl hl'
 go_enter Tryz.func93,Tryz.ntmps93
 refine en1 ?_
 intro u hG b4 hB hF
 refine wp_seq ?_
 refine r0T ?_
 refine wp_cond_false (rfl) ?_
 refine wp_skip ?_
 refine A6 ?_
 refine wp_seq (rsE A8 [2] hB hG fun L hL=>?_)
 refine gaa (K7 _ _ _ _ _) fun b6 hb6 hn6=>?_
 replace hF:=hF.n1 [] hB hG hb6 hn6
 refine geT hL ?_
 clear hB hG hL L
 rintro u ⟨⟨-,hB,hG,-⟩,h6⟩
 replace hB:=hB.cons' h6
 clear h6
 clear hb6 hn6
 refine wp_seq ?_
 refine r0T ?_
 refine wp_block ?_
 go_loopw [17] (fun s0 wr=>∃ (j : Nat) (S : Rat),j ≤ n ∧ s0 = .int .i64 j ∧ S = H4 l l' j ∧ Bx wr [(b6,48,Q6 S),(b4,48,A3Z)] ∧ A4 w wr) (fun s0 _=>n - (intOf s0).toNat)
 case atStart=>exact ⟨0,0,Nat.zero_le _,rfl,rfl,hB,hG⟩
 case round =>
  clear hB hG
  obtain ⟨j,S,hj,rfl,hS,hB,hG⟩:=hrel
  obtain ⟨u,rfl⟩ : ∃ x,x = wr:=⟨_,rfl⟩
  have z1:=HM.out j hj
  rw [← hS] at z1
  rcases Nat.lt_or_ge j n with hlt | hge
  ·have hdec : decide ((j : Int) < (n : Int)) = true:=by simp;omega
   have hjn : (j : Int) < (n : Int):=by omega
   have hjl : j < l.length:=by rw [Hl.out];exact hlt
   have hjl' : j < l'.length:=by rw [Hl'.out];exact hlt
   obtain ⟨ba,oa,rfl⟩:=H.out.addr (by omega)
   obtain ⟨bb,ob,rfl⟩:=H'.out.addr (by omega)
   have hrd : ∀ W,A4 w W → Cq W ba (oa + j * 5) (gq l j) ∧ Cq W bb (ob + j * 5) (gq l' j):=fun W hg=>⟨(H.out.grow hg).read hjl,(H'.out.grow hg).read hjl'⟩
   have z2:=Hs.out j hlt
   have z3:=Hs'.out j hlt
   have hnx:=B0Z l l' j
   rw [← hS] at hnx
   obtain ⟨X,hX⟩ : ∃ X,X = gq l j:=⟨_,rfl⟩
   obtain ⟨Y,hY⟩ : ∃ X,X = gq l' j:=⟨_,rfl⟩
   simp only [← hX,← hY] at hrd
   rw [← hX] at z2 hnx
   rw [← hY] at z3 hnx
   have z4:=Z7 X Y
   have hml:=fun W hT=>A0T X Y W (by omega) hT
   obtain ⟨D,hD⟩ : ∃ D,D = E7 X Y:=⟨_,rfl⟩
   rw [← hD] at hnx hml
   have z5 : qs D ≤ s + t:=by rw [hD];unfold E7;omega
   have had:=fun W hT=>A1e S D W (by omega) hT
   have Hrd:=Lib.hid hrd
   have Hnx:=Lib.hid hnx
   have Hml:=Lib.hid hml
   have Had:=Lib.hid had
   clear hrd hnx hml had hX hY hD hjl hjl' hS z1 z2 z3 z4 z5
   refine r0T ?_
   refine wp_seq ?_
   refine wp_cond_true (rfl) ?_
   refine wp_skip ?_
   refine A6 ?_
   refine wp_seq ?_
   refine wp_block ?_
   refine wp_seq (rsC A8 [0,0,0,2,0] hB hG fun K L hN hL=>?_)
   repeat first | refine gya ?_ | refine gyr ?_ | refine gna ?_ | refine gyb (by (rintro v ⟨hgu,hB,hG,-⟩ N hN;have r:=hB.r;simp only [BxR] at r;obtain ⟨⟨q1,q2,q3,q4,q5⟩,⟨y1,y2,y3,y4,y5⟩⟩:=Hrd.out v hG;go_simp;exact hN)) ?_
   refine gaa (K7 _ _ _ _ _) fun b8 hb8 hn8=>?_
   refine gs ?_
   replace hF:=hF.n1 [] hB hG hb8 hn8
   refine geC hL ?_
   clear hB hG hL L
   rintro u ⟨⟨-,hB,hG,-⟩,h8⟩
   replace hB:=hB.cons' h8
   clear h8
   clear hb8 hn8
   refine gtT ?_
   clear hN K
   refine st hB hF hG 0 0 [_,_,_,_,_] ?_
   clear hB hG
   intro u hB hG
   refine rdC A8 [] [(0,0),(0,1),(0,2),(0,3),(0,4),(0,5),(1,6),(1,7)] hB hG fun K L hN hL=>?_
   repeat first | refine gya ?_ | refine gyr ?_ | refine gna ?_ | refine gyb (by (rintro v ⟨hgu,hB,hG,-⟩ N hN;have r:=hB.r;simp only [BxR] at r;obtain ⟨⟨q1,q2,q3,q4,q5⟩,⟨y1,y2,y3,y4,y5⟩⟩:=Hrd.out v hG;go_simp;exact hN)) ?_
   refine gmd (C:=fun v ⟨hgu,hB,hG,_⟩=>Hml.out _ (HT.grow hG)) ?_
   refine gmd (C:=fun v ⟨hgu,hB,hG,_⟩=>Had.out _ (HT.grow hG)) ?_
   refine geC hL ?_
   clear hB hG hL L
   rintro u ⟨-,hB,hG,-⟩
   refine gt ?_
   clear hN K
   refine st hB hF hG 1 0 [_,_,_,_,_] ?_
   clear hB hG
   intro u hB hG
   refine D4 ?_
   refine A6 ?_
   refine r0E ?_
   refine A6 ?_
   go_roundw
   case rel=>exact ⟨j + 1,G9 S D,by omega,by go_num,Hnx.out.symm,hB.tail,hG⟩
   case measure=>simp [intOf];omega
  ·obtain rfl : n = j:=by omega
   have hdec : decide ((n : Int) < (n : Int)) = false:=by simp
   rw [← hS]
   clear hS
   refine r0T ?_
   refine wp_seq ?_
   refine wp_cond_false (rfl) ?_
   refine wp_exit ?_
   refine B6 ?_
   refine B6 ?_
   refine E6 ?_
   refine A6 ?_
   refine r0T ?_
   refine st hB hF hG 1 0 [_,_,_,_,_] ?_
   clear hB hG
   intro u hB hG
   refine rt Tryz.results93 ?_
   exact ⟨rfl,hG⟩
theorem B1h {a b : Rat} : decide (0 < G6 a b) = decide (b < a):=by
 unfold G6
 by_cases h1 : a < b
 ·rw [if_pos h1]
  have : ¬ b < a:=by grind
  simp [this]
 ·rw [if_neg h1]
  by_cases h2 : b < a
  ·rw [if_pos h2]
   simp [h2]
  ·rw [if_neg h2]
   simp [h2]
theorem B3r (a b : Rat) (h : qs a + qs b + 1 ≤ BIG) (w : World) : Calls Tryz.prog 98 #[qV a,qV b] w fun e w'=>e = .returned (qV (A0n a b)) ∧ A4 w w':=by
 have hc:=fun W=>A2u b a W (by omega)
 have hz:=@B1h b a
 obtain ⟨Z,hZ⟩ : ∃ Z,Z = G6 b a:=⟨_,rfl⟩
 rw [← hZ] at hz
 simp only [← hZ] at hc
 have Hc:=Lib.hid hc
 clear hc hZ
 by_cases hab : a < b
 ·have fZ : decide (0 < Z) = true:=by rw [hz];exact decide_eq_true hab
  have e : A0n a b = b:=if_pos hab
  rw [e]
  clear hab hz e
  go_enter Tryz.func98,Tryz.ntmps98
  refine en3 ?_
  intro u hG b4 b3 b2 hB hF
  refine wp_seq ?_
  refine wp_seq (rsE A8 [0,0,1,0] hB hG fun L hL=>?_)
  refine gs ?_
  refine gmw (C:=fun v=>Hc.out _) ?_
  refine gs ?_
  refine geT hL ?_
  clear hB hG hL L
  rintro u ⟨-,hB,hG,-⟩
  refine wp_cond_true (rfl) ?_
  refine r0T ?_
  refine st hB hF hG 2 0 [_,_,_,_,_] ?_
  clear hB hG
  intro u hB hG
  refine rt Tryz.results98 ?_
  exact ⟨rfl,hG⟩
 ·have fZ : decide (0 < Z) = false:=by rw [hz];exact decide_eq_false hab
  have e : A0n a b = a:=if_neg hab
  rw [e]
  clear hab hz e
  go_enter Tryz.func98,Tryz.ntmps98
  refine en3 ?_
  intro u hG b4 b3 b2 hB hF
  refine wp_seq ?_
  refine wp_seq (rsE A8 [0,0,1,0] hB hG fun L hL=>?_)
  refine gs ?_
  refine gmw (C:=fun v=>Hc.out _) ?_
  refine gs ?_
  refine geT hL ?_
  clear hB hG hL L
  rintro u ⟨-,hB,hG,-⟩
  refine wp_cond_false (rfl) ?_
  refine wp_skip ?_
  refine A6 ?_
  refine r0T ?_
  refine st hB hF hG 2 0 [_,_,_,_,_] ?_
  clear hB hG
  intro u hB hG
  refine rt Tryz.results98 ?_
  exact ⟨rfl,hG⟩
theorem A33 (A Y : Option Addr) (rs : List Rq) (N L c d : Nat) (hn : rs.length = N) (hN : 1 ≤ N) (hN2 : N ≤ 300) (hL1 : 1 ≤ L) (hL2 : L ≤ 20) (hrl : ∀ r ∈ rs,r.2.2.length = L) (w : World) (h : Lrq w A rs) :
  Calls Tryz.prog 57 #[.slice A N c,.slice Y N d] w fun e w'=>e = .returned (.bool true) ∧ A4 w w':=by
 obtain ⟨bb,ob,rfl⟩:=h.addr (by omega)
 have hrow : ∀ i,i < N → ∃ (Ar : Option Addr) (cr : Nat),∀ W,A4 w W → W.cell? ⟨bb,ob + i,none⟩ = some (.slice Ar L cr):=fun i hi=>by
  have hil : i < rs.length:=by omega
  refine ⟨rs[i].1,rs[i].2.1,fun W hg=>?_⟩
  have h3:=((h.grow hg).read (List.getElem?_eq_getElem hil)).1
  rw [hrl _ (List.getElem_mem hil)] at h3
  exact h3
 obtain ⟨A0,c0,hrow0⟩:=hrow 0 (by omega)
 rw [Nat.add_zero] at hrow0
 have f1 : decide ((N : Int) < 1) = false:=by simp;omega
 have f1n : decide (N = 0) = false:=by simp;omega
 have f2 : decide ((300 : Int) < (N : Int)) = false:=by simp;omega
 have f2n : decide (300 < N) = false:=by simp;omega
 have f3 : ((N : Int) != (N : Int)) = false:=by simp
 have f4 : decide ((L : Int) < 1) = false:=by simp;omega
 have f4n : decide (L = 0) = false:=by simp;omega
 have f5 : decide ((20 : Int) < (L : Int)) = false:=by simp;omega
 have f5n : decide (20 < L) = false:=by simp;omega
 have f6 : ((L : Int) != (L : Int)) = false:=by simp
 have hni : (0 : Int) < (N : Int):=by omega
 have hnp : 0 < N:=by omega
 have fn : decide ((0 : Int) < (N : Int)) = true:=by simp;omega
 have fnn : decide (0 < N) = true:=by simp;omega
 have Hrow:=Lib.hid hrow
 have Hrow0:=Lib.hid hrow0
 clear hrow hrow0 h hrl hn
 go_enter Tryz.func57,Tryz.ntmps57
 refine en0 ?_
 intro u hG hB hF
 refine wp_seq ?_
 refine r0T ?_
 refine wp_cond_false (rfl) ?_
 refine wp_skip ?_
 refine A6 ?_
 refine wp_seq ?_
 have q0:=Hrow0.out u hG
 refine r0N ?_
 refine wp_seq ?_
 refine r0T ?_
 refine wp_cond_false (rfl) ?_
 refine wp_skip ?_
 refine A6 ?_
 refine wp_seq ?_
 refine r0T ?_
 refine wp_block ?_
 clear hB hF
 go_loopw [35] (fun s0 wr=>∃ i : Nat,i ≤ N ∧ s0 = .int .i64 i ∧ A4 w wr) (fun s0 _=>N - (intOf s0).toNat)
 case atStart=>exact ⟨0,Nat.zero_le _,rfl,hG⟩
 case round =>
  clear hG
  obtain ⟨i,hi,rfl,hG⟩:=hrel
  obtain ⟨u,rfl⟩ : ∃ x,x = wr:=⟨_,rfl⟩
  have hB:=Bx.nil u
  have hF:=Fr.nil w
  rcases Nat.lt_or_ge i N with hlt | hge
  ·have hdec : decide ((i : Int) < (N : Int)) = true:=by simp;omega
   have hiN : (i : Int) < (N : Int):=by omega
   obtain ⟨Ar,cr,hrw⟩:=Hrow.out i hlt
   have Hrw:=Lib.hid hrw
   clear hrw
   refine r0T ?_
   refine wp_seq ?_
   refine wp_cond_true (rfl) ?_
   refine wp_skip ?_
   refine A6 ?_
   refine wp_seq ?_
   refine wp_block ?_
   refine wp_seq ?_
   have q0:=Hrow0.out u hG;have q1:=Hrw.out u hG
   refine r0N ?_
   refine r0T ?_
   refine wp_cond_false (rfl) ?_
   refine wp_skip ?_
   refine D4 ?_
   refine A6 ?_
   refine r0E ?_
   refine A6 ?_
   go_roundw
   case rel=>exact ⟨i + 1,by omega,by go_num,hG⟩
   case measure=>simp [intOf];omega
  ·obtain rfl : N = i:=by omega
   have hdec : decide ((N : Int) < (N : Int)) = false:=by simp
   refine r0T ?_
   refine wp_seq ?_
   refine wp_cond_false (rfl) ?_
   refine wp_exit ?_
   refine B6 ?_
   refine B6 ?_
   refine E6 ?_
   refine A6 ?_
   refine r0T ?_
   refine rt Tryz.results57 ?_
   exact ⟨rfl,hG⟩
theorem A8z (A Y V : Option Addr) (rs : List Rq) (N L K c d k : Nat) (hn : rs.length = N) (hN : 1 ≤ N) (hN2 : N ≤ 300) (hL1 : 1 ≤ L) (hL2 : L ≤ 20) (hrl : ∀ r ∈ rs, r.2.2.length = L) (a : Rat) (ha : qs a ≤ 1000) (w : World) (h : Lrq w A rs) :
    Calls Tryz.prog 91 #[.slice A N c,.slice Y N d,.slice V K k,qV a] w fun e w'=>e = .returned (.int .i64 (if K ≠ L then 5 else if a < 0 then 1 else 0)) ∧ A4 w w':=by
  have hsh:=fun W (hg : A4 w W)=>A33 A Y rs N L c d hn hN hN2 hL1 hL2 hrl W (h.grow hg)
  obtain ⟨bb,ob,rfl⟩:=h.addr (by omega)
  have hrow0 : ∃ (Ar : Option Addr) (cr : Nat),∀ W,A4 w W → W.cell? ⟨bb,ob,none⟩ = some (.slice Ar L cr):=by
    have hil : 0 < rs.length:=by omega
    refine ⟨rs[0].1,rs[0].2.1,fun W hg=>?_⟩
    have h3:=((h.grow hg).read (List.getElem?_eq_getElem hil)).1
    rw [hrl _ (List.getElem_mem hil),Nat.add_zero] at h3
    exact h3
  obtain ⟨A0,c0,hrow0⟩:=hrow0
  have hni : (0 : Int) < (N : Int):=by omega
  have hnp : 0 < N:=by omega
  have fn : decide ((0 : Int) < (N : Int)) = true:=by simp;omega
  have fnn : decide (0 < N) = true:=by simp;omega
  have hsg:=fun W=>N6 a (by have := F0 a;omega) W
  have hneg:=@A2N a
  have hrg : a.num.sign = -1 ∨ a.num.sign = 0 ∨ a.num.sign = 1 := by rcases Int.lt_trichotomy a.num 0 with h | h | h
                                                                     · exact .inl (Int.sign_eq_neg_one_iff_neg.2 h)
                                                                     · exact .inr (.inl (by rw [h];rfl))
                                                                     · exact .inr (.inr (Int.sign_eq_one_iff_pos.2 h))
  obtain ⟨S,hS⟩ : ∃ S,S = a.num.sign:=⟨_,rfl⟩
  simp only [← hS] at hsg
  rw [← hS] at hneg hrg
  have Hsh:=Lib.hid hsh
  have Hrow0:=Lib.hid hrow0
  have Hsg:=Lib.hid hsg
  clear hsh hrow0 h hrl hn hsg hS
  by_cases hK : K = L
  · subst hK
    have f1 : ((K : Int) != (K : Int)) = false:=by simp
    rw [if_neg (by simp)]
    by_cases h0 : a < 0
    · have f2 : decide (S < 0) = true:=by rw [hneg.2 h0];rfl
      rw [if_pos h0]
      clear hneg hrg h0
      go_enter Tryz.func91,Tryz.ntmps91
      refine en1 ?_
      intro u hG b7 hB hF
      refine wp_seq ?_
      refine wp_seq (rsE A8 [0,0,1,0,0,0,0,0,0,0,0,0,0] hB hG fun L hL=>?_)
      refine gs ?_
      refine gmd (C:=fun v ⟨hgu,hB,hG,_⟩=>Hsh.out _ hG) ?_
      repeat first | refine gya ?_ | refine gyr ?_ | refine gna ?_ | refine gyb (by (rintro v ⟨hgu,hB,hG,-⟩ N hN;have r:=hB.r;simp only [BxR] at r;have q0:=Hrow0.out v hG;go_simp;exact hN)) ?_
      refine geT hL ?_
      clear hB hG hL L
      rintro u ⟨-,hB,hG,-⟩
      refine wp_cond_false (rfl) ?_
      refine wp_skip ?_
      refine A6 ?_
      refine wp_seq ?_
      refine wp_seq (rsE A8 [0,1,0] hB hG fun L hL=>?_)
      repeat first | refine gya ?_ | refine gyr ?_ | refine gna ?_ | refine gyb (by (rintro v ⟨hgu,hB,hG,-⟩ N hN;have r:=hB.r;simp only [BxR] at r;have q0:=Hrow0.out v hG;go_simp;exact hN)) ?_
      refine gmw (C:=fun v=>Hsg.out _) ?_
      refine gs ?_
      refine geT hL ?_
      clear hB hG hL L
      rintro u ⟨-,hB,hG,-⟩
      refine wp_cond_true (rfl) ?_
      refine r0T ?_
      refine rt Tryz.results91 ?_
      exact ⟨rfl,hG⟩
    · have f2 : decide (S < 0) = false := by
        have : S ≠ -1:=fun e=>h0 (hneg.1 e)
        simp
        omega
      rw [if_neg h0]
      clear hneg hrg h0
      go_enter Tryz.func91,Tryz.ntmps91
      refine en1 ?_
      intro u hG b7 hB hF
      refine wp_seq ?_
      refine wp_seq (rsE A8 [0,0,1,0,0,0,0,0,0,0,0,0,0] hB hG fun L hL=>?_)
      refine gs ?_
      refine gmd (C:=fun v ⟨hgu,hB,hG,_⟩=>Hsh.out _ hG) ?_
      repeat first | refine gya ?_ | refine gyr ?_ | refine gna ?_ | refine gyb (by (rintro v ⟨hgu,hB,hG,-⟩ N hN;have r:=hB.r;simp only [BxR] at r;have q0:=Hrow0.out v hG;go_simp;exact hN)) ?_
      refine geT hL ?_
      clear hB hG hL L
      rintro u ⟨-,hB,hG,-⟩
      refine wp_cond_false (rfl) ?_
      refine wp_skip ?_
      refine A6 ?_
      refine wp_seq ?_
      refine wp_seq (rsE A8 [0,1,0] hB hG fun L hL=>?_)
      repeat first | refine gya ?_ | refine gyr ?_ | refine gna ?_ | refine gyb (by (rintro v ⟨hgu,hB,hG,-⟩ N hN;have r:=hB.r;simp only [BxR] at r;have q0:=Hrow0.out v hG;go_simp;exact hN)) ?_
      refine gmw (C:=fun v=>Hsg.out _) ?_
      refine gs ?_
      refine geT hL ?_
      clear hB hG hL L
      rintro u ⟨-,hB,hG,-⟩
      refine wp_cond_false (rfl) ?_
      refine wp_skip ?_
      refine A6 ?_
      refine r0T ?_
      refine rt Tryz.results91 ?_
      exact ⟨rfl,hG⟩
  · have f1 : ((K : Int) != (L : Int)) = true:=by simp;omega
    rw [if_pos hK]
    clear hK hneg hrg
    go_enter Tryz.func91,Tryz.ntmps91
    refine en1 ?_
    intro u hG b7 hB hF
    refine wp_seq ?_
    refine wp_seq (rsE A8 [0,0,1,0,0,0,0,0,0,0,0,0,0] hB hG fun L hL=>?_)
    refine gs ?_
    refine gmd (C:=fun v ⟨hgu,hB,hG,_⟩=>Hsh.out _ hG) ?_
    repeat first | refine gya ?_ | refine gyr ?_ | refine gna ?_ | refine gyb (by (rintro v ⟨hgu,hB,hG,-⟩ N hN;have r:=hB.r;simp only [BxR] at r;have q0:=Hrow0.out v hG;go_simp;exact hN)) ?_
    refine geT hL ?_
    clear hB hG hL L
    rintro u ⟨-,hB,hG,-⟩
    refine wp_cond_true (rfl) ?_
    refine r0T ?_
    refine rt Tryz.results91 ?_
    exact ⟨rfl,hG⟩
theorem A6k (l : List Int) (n : Nat) : ∀ x ∈ U8 l n,qs x ≤ 5:=fun x hx=>by
 unfold U8 at hx
 obtain ⟨i,-,rfl⟩:=List.mem_map.1 hx
 unfold A3j
 split
 ·exact A6B _
 ·rw [show C5 0 = 0 from rfl,A1Y];omega
end Go.Proofs.YtgpglgbcobeogaaGreatDoor
