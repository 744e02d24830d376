/- Contracts and laws. -/
import Derived.Test.YtgpglgbcobeogaaGreatDoorU30
set_option linter.unusedSimpArgs false
set_option linter.unusedVariables false
namespace Go.Proofs.YtgpglgbcobeogaaGreatDoor
open Go.RowKit
abbrev B2B (p : Az) (q : Rat) : Array Value:=#[.bool (E4 q.num),.slice p.1.1 (ln q.num.natAbs) p.1.2,.slice p.2.1 (ln q.den) p.2.2]
theorem F6 {f g : Nat → Rat} {n : Nat} (h : ∀ i,i < n → f i = g i) : C5 f n = C5 g n:=by
 induction n with
 | zero=>rfl
 | succ n ih=>simp only [C5];rw [ih (fun i hi=>h i (by omega)),h n (by omega)]
end Go.Proofs.YtgpglgbcobeogaaGreatDoor
namespace Go.Proofs.YtgpglgbcobeogaaGreatDoor
open Go Go.RowKit
def B6 (rs : List (List Rat)) (i : Nat) : List Rat:=(rs[i]?).getD []
def E5 (a b : List Rat) (n : Nat) : Rat:=C5 (fun i=>C2 (gq a i) (gq b i)) n
theorem B2v (a b : List Rat) (n : Nat) : E5 a b (n + 1) = G8 (E5 a b n) (C2 (gq a n) (gq b n)):=rfl
theorem B4W (a b : List Rat) (n : Nat) : E5 a b n = E5 b a n:=F6 fun i _=>by unfold C2;exact Rat.mul_comm _ _
theorem A0u {a b : List Rat} {n s t : Nat} (ha : ∀ i,i < n → qs (gq a i) ≤ s) (hb : ∀ i,i < n → qs (gq b i) ≤ t) : ∀ j,j ≤ n → qs (E5 a b j) ≤ j * (s + t + 1) + 1:=fun j hj =>
 A6T _ (s + t) n (fun i hi=>Nat.le_trans (T4 _ _) (Nat.add_le_add (ha i hi) (hb i hi))) j hj
theorem R7 (f : Nat → Rat) {n i : Nat} (h : i < n) : gq ((List.range n).map f) i = f i:=by
 show ((((List.range n).map f)[i]?).getD 0) = _
 simp [h]
def A0W (X : List (List Rat)) (y w : List Rat) (n L : Nat) : List Rat:=(List.range n).map fun i=>G9 (gq y i) (E5 w (B6 X i) L)
def G7 (X : List (List Rat)) (j n : Nat) : List Rat:=(List.range n).map fun i=>gq (B6 X i) j
def A06 (X : List (List Rat)) (y w : List Rat) (n L : Nat) : List Rat:=(List.range L).map fun j=>E5 (G7 X j n) (A0W X y w n L) n
def A1A (a b : Rat) : Rat:=if a < b then b else a
def A1T (p : List Rat) : Nat → Rat
 | 0=>0
 | n + 1=>A1A (A1T p n) (M3 (gq p n))
def V7 (n : Nat) : List Rat:=List.replicate n 0
def A3F (X : List (List Rat)) (y : List Rat) (n L : Nat) : Rat:=A1T (A06 X y (V7 L) n L) L
def A0z (p w a : Rat) : Bool:=if 0 < w then decide (p = a) else if w < 0 then decide (p = Y5 a) else decide (M3 p ≤ a)
def Y7 (f : Nat → Bool) : Nat → Nat → Nat
 | 0,i=>i
 | k + 1,i=>if f i then Y7 f k (i + 1) else i
theorem A27 (f : Nat → Bool) (k i : Nat) : i ≤ Y7 f k i ∧ Y7 f k i ≤ i + k ∧ (∀ j,i ≤ j → j < Y7 f k i → f j = true) ∧ (Y7 f k i < i + k → f (Y7 f k i) = false):=by
 induction k generalizing i with
 | zero=>exact ⟨Nat.le_refl _,Nat.le_refl _,fun j h1 h2=>absurd h2 (by simp [Y7];omega),fun h=>absurd h (by simp [Y7])⟩
 | succ k ih =>
  unfold Y7
  cases hf : f i with
  | true =>
   rw [if_pos rfl]
   obtain ⟨h1,h2,h3,h4⟩:=ih (i + 1)
   refine ⟨by omega,by omega,fun j h5 h6=>?_,fun h5=>h4 (by omega)⟩
   rcases Nat.eq_or_lt_of_le h5 with h | h
   ·rw [← h];exact hf
   ·exact h3 j h h6
  | false =>
   rw [if_neg (by simp)]
   exact ⟨Nat.le_refl _,by omega,fun j h5 h6=>absurd h6 (by omega),fun _=>hf⟩
theorem B3q (X : List (List Rat)) (y w : List Rat) (n L : Nat) : (A0W X y w n L).length = n:=by unfold A0W;simp
theorem B5C (X : List (List Rat)) (j n : Nat) : (G7 X j n).length = n:=by unfold G7;simp
theorem B3o (X : List (List Rat)) (y w : List Rat) (n L : Nat) : (A06 X y w n L).length = L:=by unfold A06;simp
theorem B02 (X : List (List Rat)) (y w : List Rat) (n L : Nat) {i : Nat} (h : i < n) : gq (A0W X y w n L) i = G9 (gq y i) (E5 w (B6 X i) L):=R7 _ h
theorem A1R (X : List (List Rat)) (j n : Nat) {i : Nat} (h : i < n) : gq (G7 X j n) i = gq (B6 X i) j:=R7 _ h
theorem B0N (X : List (List Rat)) (y w : List Rat) (n L : Nat) {j : Nat} (h : j < L) : gq (A06 X y w n L) j = E5 (G7 X j n) (A0W X y w n L) n:=R7 _ h
theorem B14 (f : Nat → Rat) (n : Nat) : (List.range (n + 1)).map f = (List.range n).map f ++ [f n]:=by rw [List.range_succ,List.map_append];rfl
theorem B3C (n i : Nat) : gq (V7 n) i = 0:=by
 unfold gq V7
 rw [List.getElem?_replicate]
 split <;> rfl
theorem A44 (a : Rat) : qs (M3 a) = qs a:=by
 unfold M3 Rat.abs
 split
 ·rfl
 ·exact A3E a
theorem A7V {X : List (List Rat)} {y w : List Rat} {n L s : Nat} (hn : n ≤ 20) (hL : L ≤ 20) (hs : s ≤ 1000) (hX : ∀ i,i < n → ∀ j,j < L → qs (gq (B6 X i) j) ≤ s) (hy : ∀ i,i < n → qs (gq y i) ≤ s) (hw : ∀ j,j < L → qs (gq w j) ≤ s) : ∀ i,i < n → qs (gq (A0W X y w n L) i) ≤ 50000:=fun i hi=>by
 rw [B02 X y w n L hi]
 have h1:=A0u (a:=w) (b:=B6 X i) (n:=L) hw (hX i hi) L (Nat.le_refl _)
 have h2:=A2r (gq y i) (E5 w (B6 X i) L)
 have h3:=hy i hi
 have h4 : L * (s + s + 1) ≤ 20 * (s + s + 1):=Nat.mul_le_mul_right _ hL
 unfold G9
 omega
theorem B4o {X : List (List Rat)} {y w : List Rat} {n L s : Nat} (hn : n ≤ 20) (hL : L ≤ 20) (hs : s ≤ 1000) (hX : ∀ i,i < n → ∀ j,j < L → qs (gq (B6 X i) j) ≤ s) (hy : ∀ i,i < n → qs (gq y i) ≤ s) (hw : ∀ j,j < L → qs (gq w j) ≤ s) : ∀ j,j < L → qs (gq (A06 X y w n L) j) ≤ 1100000:=fun j hj=>by
 rw [B0N X y w n L hj]
 have h0:=A7V hn hL hs hX hy hw
 have h1:=A0u (a:=G7 X j n) (b:=A0W X y w n L) (n:=n) (s:=s) (t:=50000) (fun i hi=>by rw [A1R X j n hi];exact hX i hi j hj) h0 n (Nat.le_refl _)
 have h4 : n * (s + 50000 + 1) ≤ 20 * (s + 50000 + 1):=Nat.mul_le_mul_right _ hn
 omega
theorem B3B {a b : Rat} {s : Nat} (h1 : qs a ≤ s) (h2 : qs b ≤ s) : qs (A1A a b) ≤ s:=by unfold A1A;split <;> assumption
theorem A8d {p : List Rat} {n s : Nat} (hs : 1 ≤ s) (h : ∀ j,j < n → qs (gq p j) ≤ s) : ∀ j,j ≤ n → qs (A1T p j) ≤ s
 | 0,_=>by rw [A1T,A12];exact hs
 | j + 1,hj=>B3B (A8d hs h j (by omega)) (by rw [A44];exact h j (by omega))
theorem B3Z {a b : Rat} : (R8 a b == 0) = decide (a = b):=by
 unfold R8
 by_cases h1 : a < b
 ·rw [if_pos h1]
  have : ¬ a = b:=fun h=>by rw [h] at h1;exact Rat.lt_irrefl h1
  simp [this]
 ·rw [if_neg h1]
  by_cases h2 : b < a
  ·rw [if_pos h2]
   have : ¬ a = b:=fun h=>by rw [h] at h2;exact Rat.lt_irrefl h2
   simp [this]
  ·rw [if_neg h2]
   have : a = b:=by grind
   simp [this]
theorem A4a {w : Rat} : w.num.sign = -1 ↔ w < 0:=by
 rw [Int.sign_eq_neg_one_iff_neg,Rat.lt_iff]
 simp
abbrev Mx:=Nat → Nat → Rat
def J5 (M : Mx) (a b : Nat) : Mx:=fun i=>if i = a then M b else if i = b then M a else M i
def J9 (M : Mx) (t : Nat) (k : Rat) (n : Nat) : Mx:=fun i j=>if i = t ∧ j < n then C2 (M i j) k else M i j
def H4 (M : Mx) (i t : Nat) (k : Rat) (n : Nat) : Mx:=fun i' j=>if i' = i ∧ j < n then G9 (M i' j) (C2 k (M t j)) else M i' j
def I0 (M : Mx) (t c L : Nat) : Nat → Mx
 | 0=>M
 | i + 1=>if i = t then I0 M t c L i else H4 (I0 M t c L i) i t (I0 M t c L i i c) L
def I7 (M : Mx) (n top col : Nat) : Nat:=Y7 (fun i=>decide (M i col = 0)) (n - top) top
abbrev Gs:=Mx × List Nat
def Y6 (n : Nat) (s : Gs) (col : Nat) : Nat:=I7 s.1 n s.2.length col
def A0Y (n L : Nat) (s : Gs) (col : Nat) : Mx:=J9 (J5 s.1 s.2.length (Y6 n s col)) s.2.length (W8 (C1 1) (J5 s.1 s.2.length (Y6 n s col) s.2.length col)) L
def K8 (n L : Nat) (s : Gs) (col : Nat) : Gs:=if Y6 n s col < n then (I0 (A0Y n L s col) s.2.length col L n,s.2 ++ [col]) else s
def C7 (n L : Nat) (s : Gs) : Nat → Gs
 | 0=>s
 | c + 1=>K8 n L (C7 n L s c) c
def szM (M : Mx) (n L s : Nat) : Prop:=∀ i,i < n → ∀ j,j < L → qs (M i j) ≤ s
theorem szM.mono {M : Mx} {n L s t : Nat} (h : szM M n L s) (hs : s ≤ t) : szM M n L t:=fun i hi j hj=>Nat.le_trans (h i hi j hj) hs
theorem A02 (M : Mx) (n top col : Nat) : (I7 M n top col < n → top ≤ I7 M n top col ∧ M (I7 M n top col) col ≠ 0) ∧ ∀ i,top ≤ i → i < I7 M n top col → M i col = 0:=by
 obtain ⟨h1,h2,h3,h4⟩:=A27 (fun i=>decide (M i col = 0)) (n - top) top
 refine ⟨fun h=>⟨h1,fun e=>?_⟩,fun i hi hp=>of_decide_eq_true (h3 i hi hp)⟩
 have h5:=h4 (by unfold I7 at h;omega)
 simp only [decide_eq_false_iff_not] at h5
 exact h5 e
theorem B43 {M : Mx} {n top col : Nat} (h : n ≤ top) : I7 M n top col = top:=by
 unfold I7
 rw [show n - top = 0 by omega]
 rfl
theorem A7i {M : Mx} {n L s a b : Nat} (h : szM M n L s) (ha : a < n) (hb : b < n) : szM (J5 M a b) n L s:=fun i hi j hj=>by
 unfold J5
 split
 ·exact h b hb j hj
 ·split
  ·exact h a ha j hj
  ·exact h i hi j hj
theorem A6s {M : Mx} {n L s t m : Nat} {k : Rat} {r : Nat} (h : szM M n L s) (hk : qs k ≤ r) : szM (J9 M t k m) n L (s + r):=fun i hi j hj=>by
 unfold J9
 have h1:=h i hi j hj
 split
 ·have := T4 (M i j) k
  unfold C2
  omega
 ·omega
theorem A3A {M : Mx} {t c L : Nat} : ∀ i k,i ≤ k → I0 M t c L i k = M k
 | 0,_,_=>rfl
 | i + 1,k,h=>by
  have ih:=A3A (M:=M) (t:=t) (c:=c) (L:=L) i k (by omega)
  unfold I0
  split
  ·exact ih
  ·funext j
   unfold H4
   rw [if_neg (by omega),ih]
theorem A13 {M : Mx} {t c L : Nat} : ∀ i,I0 M t c L i t = M t
 | 0=>rfl
 | i + 1=>by
  have ih:=A13 (M:=M) (t:=t) (c:=c) (L:=L) i
  unfold I0
  split
  ·exact ih
  ·funext j
   unfold H4
   rw [if_neg (by omega),ih]
theorem A8D {M : Mx} {n L s t c : Nat} (h : szM M n L s) (ht : t < n) (hc : c < L) : ∀ i,i ≤ n → szM (I0 M t c L i) n L (3 * s + 1)
 | 0,_=>h.mono (by omega)
 | i + 1,hi=>by
  have ih:=A8D h ht hc i (by omega)
  unfold I0
  split
  ·exact ih
  ·intro i' hi' j hj
   unfold H4
   split
   ·rename_i e
    obtain ⟨rfl,-⟩:=e
    rw [A3A i' i' (Nat.le_refl _),A13]
    have h1:=h i' hi' j hj
    have h2:=h i' hi' c hc
    have h3:=h t ht j hj
    have h4:=T4 (M i' c) (M t j)
    have h5:=A2r (M i' j) (C2 (M i' c) (M t j))
    unfold G9
    unfold C2 at h5 ⊢
    omega
   ·exact ih i' hi' j hj
theorem A9p {M : Mx} {le : List Nat} {n L s col : Nat} (h : szM M n L s) (hc : col < L) (hp : Y6 n (M,le) col < n) : le.length < n ∧ szM (A0Y n L (M,le) col) n L (2 * s + 1):=by
 have h1:=(A02 M n le.length col).1 hp
 have ht : le.length < n:=by
  have : I7 M n le.length col < n:=hp
  omega
 have h2:=A7i h ht hp
 refine ⟨ht,(A6s (r:=s + 1) h2 ?_).mono (by omega)⟩
 have h4 : qs (J5 M le.length (Y6 n (M,le) col) le.length col) ≤ s:=h2 le.length ht col hc
 have h3:=A56 (C1 1) (J5 M le.length (Y6 n (M,le) col) le.length col)
 have h5 : qs (C1 1) ≤ 1:=by decide
 exact Nat.le_trans h3 (by omega)
theorem B3X {s : Gs} {n L k col : Nat} (h : szM s.1 n L k) (hc : col < L) : szM (K8 n L s col).1 n L (6 * k + 4):=by
 unfold K8
 split
 ·rename_i hp
  obtain ⟨ht,h1⟩:=A9p (M:=s.1) (le:=s.2) h hc hp
  exact (A8D h1 ht hc n (Nat.le_refl _)).mono (by omega)
 ·exact h.mono (by omega)
theorem A5B {s : Gs} {n L k : Nat} (h : szM s.1 n L k) (hk : 1 ≤ k) : ∀ c,c ≤ L → szM (C7 n L s c).1 n L (k * 10 ^ c)
 | 0,_=>by rw [Nat.pow_zero,Nat.mul_one];exact h
 | c + 1,hc=>by
  have h1:=B3X (A5B h hk c (by omega)) (col:=c) (by omega)
  refine h1.mono ?_
  have h2 : 1 ≤ k * 10 ^ c:=Nat.mul_pos hk (Nat.pow_pos (by omega))
  have h3 : k * 10 ^ (c + 1) = k * 10 ^ c * 10:=by rw [Nat.pow_succ,Nat.mul_assoc]
  rw [h3]
  omega
theorem A8Y {s : Gs} {n L : Nat} (h : s.2.length ≤ n) (hl : ∀ x ∈ s.2,x < L) : ∀ c,c ≤ L → (C7 n L s c).2.length ≤ n ∧ (∀ x ∈ (C7 n L s c).2,x < L)
 | 0,_=>⟨h,hl⟩
 | c + 1,hc=>by
  obtain ⟨h1,h2⟩:=A8Y h hl c (by omega)
  show (K8 n L (C7 n L s c) c).2.length ≤ n ∧ ∀ x ∈ (K8 n L (C7 n L s c) c).2,x < L
  unfold K8
  split
  ·rename_i hp
   have h3:=(A02 (C7 n L s c).1 n (C7 n L s c).2.length c).1 hp
   have h4 : I7 (C7 n L s c).1 n (C7 n L s c).2.length c < n:=hp
   refine ⟨by simp only [List.length_append,List.length_singleton];omega,fun x hx=>?_⟩
   rcases List.mem_append.1 hx with hx | hx
   ·exact h2 x hx
   ·have : x = c:=by simpa using hx
    omega
  ·exact ⟨h1,h2⟩
end Go.Proofs.YtgpglgbcobeogaaGreatDoor
namespace Go.Proofs.YtgpglgbcobeogaaGreatDoor
open Go.RowKit
abbrev V4 (q : Rat) : Array Value:=#[.bool (E4 q.num),.int .u64 (B8 q.num.natAbs),.string (B7 q.num.natAbs),.int .u64 (B8 (O9 q.den)),.string (B7 (O9 q.den))]
def A2T (b2 b8 : Nat) (A : Option Addr) (m c : Nat) (l : List Rat) (q : Rat) (W : World) : Prop :=
 Blk W b2 35 #[.slice A m c] ∧ Blk W b8 48 (V4 q) ∧ Lq W A l
theorem A2T.mk {b2 b8 : Nat} {A : Option Addr} {m c : Nat} {l : List Rat} {q : Rat} {u : World} (h1 : Blk u b2 35 #[.slice A m c]) (h2 : Blk u b8 48 (V4 q)) (h3 : Lq u A l) : A2T b2 b8 A m c l q u:=⟨h1,h2,h3⟩
theorem A2T.grow {b2 b8 : Nat} {A : Option Addr} {m c : Nat} {l : List Rat} {q : Rat} {u u' : World} (hg : A4 u u') (h : A2T b2 b8 A m c l q u) : A2T b2 b8 A m c l q u':=⟨h.1.grow hg,h.2.1.grow hg,h.2.2.grow hg⟩
def A2Y (b3 b4 b5 b8 : Nat) (A B : Option Addr) (m c d : Nat) (l l' : List Rat) (a : Rat) (W : World) : Prop :=
 Blk W b3 35 #[.slice A m c] ∧ Blk W b4 35 #[.slice B m d] ∧ Blk W b5 48 (V4 a) ∧ Blk W b8 48 (V4 (C1 1)) ∧ Lq W A l ∧ Lq W B l'
theorem A2Y.mk {b3 b4 b5 b8 : Nat} {A B : Option Addr} {m c d : Nat} {l l' : List Rat} {a : Rat} {u : World} (h1 : Blk u b3 35 #[.slice A m c]) (h2 : Blk u b4 35 #[.slice B m d]) (h3 : Blk u b5 48 (V4 a)) (h4 : Blk u b8 48 (V4 (C1 1))) (h5 : Lq u A l) (h6 : Lq u B l') : A2Y b3 b4 b5 b8 A B m c d l l' a u:=⟨h1,h2,h3,h4,h5,h6⟩
theorem A2Y.grow {b3 b4 b5 b8 : Nat} {A B : Option Addr} {m c d : Nat} {l l' : List Rat} {a : Rat} {u u' : World} (hg : A4 u u') (h : A2Y b3 b4 b5 b8 A B m c d l l' a u) : A2Y b3 b4 b5 b8 A B m c d l l' a u' :=
 ⟨h.1.grow hg,h.2.1.grow hg,h.2.2.1.grow hg,h.2.2.2.1.grow hg,h.2.2.2.2.1.grow hg,h.2.2.2.2.2.grow hg⟩
def LzX (u : World) (bs : List Nat) (A : Option Addr) (l : List Rat) : Prop:=Lz u A l ∧ (∀ b off,A = some ⟨b,off,none⟩ → b ∉ bs) ∧ 0 < l.length
theorem LzX.a {u : World} {bs : List Nat} {A : Option Addr} {l : List Rat} (h : LzX u bs A l) : Lz u A l:=h.1
theorem LzX.grow {u u' : World} {bs : List Nat} {A : Option Addr} {l : List Rat} (h : LzX u bs A l) (hg : A4 u u') : LzX u' bs A l:=⟨h.1.grow hg,h.2⟩
theorem Cz.far {u : World} {b i : Nat} {p : Az} {q : Rat} (h : Cz u b i p q) {a : Addr} (ha : b ≠ a.block) (v : Value) : Cz (u.setCell a v) b i p q:=by
 have key : ∀ j,(u.setCell a v).cell? ⟨b,j,none⟩ = u.cell? ⟨b,j,none⟩:=fun j=>World.cell?_of_block (Below.heap_setCell u a v b ha)
 exact ⟨(key _).trans h.1,(key _).trans h.2.1,(key _).trans h.2.2⟩
theorem LzX.put {u u' : World} {bs : List Nat} {A : Option Addr} {l : List Rat} (h : LzX u bs A l) {bl : List (Nat × TypeId × Array Value)} (hB : Bx u bl) (k : Nat) {b : Nat} {t : TypeId} {cs : Array Value} (hk : bl[k]? = some (b,t,cs)) (ht : b ∈ bs ∧ t ≠ 193) (i : Nat) (vs : List Value) (hu : D1 u b i vs = u') : LzX u' bs A l:=by
 refine ⟨fun hn=>?_,h.2⟩
 obtain ⟨ba,oa,e,hb,hc⟩:=h.1 hn
 have hne : ba ≠ b:=fun e'=>h.2.1 ba oa e (e' ▸ ht.1)
 have hsz : ∀ (vs : List Value) (i : Nat) (u : World),(D1 u b i vs).heap.size = u.heap.size:=by
  intro vs
  induction vs with
  | nil=>exact fun _ _=>rfl
  | cons v vs ih=>exact fun i u=>(ih (i + 1) (u.setCell ⟨b,i,none⟩ v)).trans (by simp [World.setCell])
 have hcz : ∀ (vs : List Value) (i : Nat) (u : World) (j : Nat) (p : Az) (q : Rat),Cz u ba j p q → Cz (D1 u b i vs) ba j p q:=by
  intro vs
  induction vs with
  | nil=>exact fun _ _ _ _ _ h=>h
  | cons v vs ih=>exact fun i u j p q h=>ih (i + 1) (u.setCell ⟨b,i,none⟩ v) j p q (h.far (a:=⟨b,i,none⟩) hne v)
 refine ⟨ba,oa,e,by rw [← hu,hsz];exact hb,fun j hj=>?_⟩
 obtain ⟨p,h1,h2⟩:=hc j hj
 exact ⟨p,h1.put hB k hk ht.2 i vs hu,by rw [← hu];exact hcz vs i u _ p _ h2⟩
theorem LzX.lt {u : World} {bs : List Nat} {A : Option Addr} {l : List Rat} (h : LzX u bs A l) : ∀ b off,A = some ⟨b,off,none⟩ → b < u.heap.size:=fun b off e=>by
 obtain ⟨b',off',e',hb,_⟩:=h.1 (fun h0=>by have := h.2.2;rw [h0] at this;cases this)
 rw [e] at e'
 cases e'
 exact hb
theorem LzX.more {v : World} {n b : Nat} {bs : List Nat} {A : Option Addr} {l : List Rat} (h : LzX v bs A l) (hlt : ∀ b off,A = some ⟨b,off,none⟩ → b < n) (hb : n ≤ b) : LzX v (b :: bs) A l :=
 ⟨h.1,fun b' off e hm=>by
  rcases List.mem_cons.1 hm with rfl | hm
  ·have := hlt b' off e;omega
  ·exact h.2.1 b' off e hm,h.2.2⟩
theorem LzX.addr {u : World} {bs : List Nat} {A : Option Addr} {l : List Rat} (h : LzX u bs A l) : ∃ b off,A = some ⟨b,off,none⟩:=h.1.addr h.2.2
theorem Li.at {u : World} {A : Option Addr} {l : List Int} {i : Nat} (h : Li u A l) (hi : i < l.length) : ∃ b off,A = some ⟨b,off,none⟩ ∧ ∀ W,A4 u W → W.cell? ⟨b,off + i,none⟩ = some (.int .i64 (gi l i)):=by
 obtain ⟨b,off,e,-⟩:=h.cell hi
 refine ⟨b,off,e,fun W hg=>?_⟩
 obtain ⟨b',o',e',hc⟩:=(h.grow hg).cell hi
 rw [e] at e'
 cases e'
 exact hc
abbrev Y4 (l : List Int) : List Value:=l.map fun x=>Value.int .i64 x
theorem A8O (y : Int) (w : World) : (Instr.buildSlice 22 1 #[(0,.int .i64 y)]).run Tryz.prog w = .ok (.slice (some ⟨w.heap.size,0,none⟩) 1 1) (w.alloc (.cells #[.int .i64 y] 3)):=by
 go_simp
theorem A8m : EI 22 3 1 8:=A1G (by kernel_rfl) (by kernel_rfl) (by omega)
theorem A3B {u : World} {B n : Nat} {v : Value} {l : List Int} (h : u.ownsRow B 3 1 v n (Y4 l)) (hn : n = l.length) : ∃ A c,v = .slice A n c ∧ n ≤ c ∧ Li u A l:=by
 subst hn
 obtain ⟨_,h | ⟨g,cap,cur,rfl,hb,hh,hn,hc,hs,ht⟩⟩:=h
 ·obtain ⟨rfl,h0⟩:=h
  exact ⟨none,0,by rw [h0],by omega,fun hne=>absurd (List.eq_nil_of_length_eq_zero h0) hne⟩
 ·refine ⟨_,cap,rfl,hn,fun _=>⟨g,0,rfl,X0 hh,fun i x hi=>?_⟩⟩
  rw [Nat.zero_add,cell_of_row u g i cur 3 (0,0) hh]
  have hil : i < l.length:=(List.getElem?_eq_some_iff.1 hi).1
  have h1 : (cur.toList.take (l.length * 1))[i]? = some (.int .i64 x):=by rw [ht,List.getElem?_map,hi];rfl
  rw [List.getElem?_take,if_pos (by omega)] at h1
  simpa using h1
end Go.Proofs.YtgpglgbcobeogaaGreatDoor
