/- Contracts and laws. -/
import Derived.Test.YtlkniebmjdoopaaGreatDoorK41
set_option linter.unusedSimpArgs false
set_option linter.unusedVariables false
namespace Go.Proofs.YtlkniebmjdoopaaGreatDoor
theorem B6c (a : Rat) : ∃ n : Nat,a ≤ (n : Rat):=by
 refine ⟨a.ceil.toNat,Rat.le_trans Rat.le_ceil ?_⟩
 rw [← Rat.intCast_natCast,Rat.intCast_le_intCast]
 exact Int.self_le_toNat _
theorem A6T {Q : Rat → Rat → Prop} {A B δ : Rat} (hδ : 0 < δ) (hQ : ∀ a b,A ≤ a → a < b → b ≤ B → b - a < δ → Q a b) (htr : ∀ a m b,a < m → m < b → Q a m → Q m b → Q a b) (hAB : A < B) : Q A B:=by
 have key : ∀ (n : Nat) (a : Rat),A ≤ a → a < B → B - a ≤ (n : Rat) * (δ / 2) → Q a B:=by
  intro n
  induction n with
  | zero =>
   intro a h1 h2 h3
   rw [show ((0 : Nat) : Rat) = 0 from rfl] at h3
   grind
  | succ n ih =>
   intro a h1 h2 h3
   by_cases h4 : B - a < δ
   ·exact hQ a B h1 h2 Rat.le_refl h4
   ·have e : ((n + 1 : Nat) : Rat) = (n : Rat) + 1:=by rw [Rat.natCast_add];rfl
    rw [e] at h3
    have h5 : δ / 2 + δ / 2 = δ:=by grind
    exact htr a (a + δ / 2) B (by grind) (by grind) (hQ a (a + δ / 2) h1 (by grind) (by grind) (by grind)) (ih (a + δ / 2) (by grind) (by grind) (by grind))
 obtain ⟨n,hn⟩:=B6c ((B - A) / (δ / 2))
 refine key n A Rat.le_refl hAB ?_
 have h6 : (B - A) / (δ / 2) * (δ / 2) = B - A:=Rat.div_mul_cancel (by grind)
 have h7:=Rat.mul_le_mul_of_nonneg_right hn (show 0 ≤ δ / 2 by grind)
 rw [h6] at h7
 exact h7
section
variable {C : Nat → List Rat} {K : Nat}
theorem A6H (f : Nat → Rat) : ∀ n : Nat,∃ M : Rat,1 ≤ M ∧ ∀ i,i < n → f i ≤ M
 | 0=>⟨1,Rat.le_refl,fun i h=>absurd h (Nat.not_lt_zero i)⟩
 | n + 1=>by
  obtain ⟨M,h1,h2⟩:=A6H f n
  refine ⟨max M (f n),by grind,fun i hi=>?_⟩
  by_cases h : i = n
  ·subst h;grind
  ·have := h2 i (by omega);grind
theorem A1y {T : Rat} (h : 1 ≤ T) : ∀ n : Nat,1 ≤ T ^ n
 | 0=>by rw [Rat.pow_zero];exact Rat.le_refl
 | n + 1=>by
  have h1:=A1y h n
  rw [Rat.pow_succ]
  have := Rat.mul_le_mul_of_nonneg_left h (show (0 : Rat) ≤ T ^ n by grind)
  grind
theorem A9I {T : Rat} (h : 1 ≤ T) {m n : Nat} (hmn : m ≤ n) : T ^ m ≤ T ^ n:=by
 obtain ⟨k,rfl⟩:=Nat.exists_eq_add_of_le hmn
 induction k with
 | zero=>exact Rat.le_refl
 | succ k ih =>
  rw [show m + (k + 1) = (m + k) + 1 from rfl,Rat.pow_succ]
  have h1:=ih (by omega)
  have := Rat.mul_le_mul_of_nonneg_left h (show (0 : Rat) ≤ T ^ (m + k) by have := A1y h (m + k);grind)
  grind
theorem A9Q {R T κ : Rat} (hT : 1 ≤ T) (hκ : 0 < κ) (hst : ∀ i,i + 2 ≤ K → ∃ (q : List Rat) (β : Rat),0 < β ∧ (∀ x,mg x ≤ R → 1 + mg (pv q x) ≤ T * β) ∧ ∀ x,pv (C i) x = pv q x * pv (C (i + 1)) x - β * pv (C (i + 2)) x) (htop : ∀ x,mg x ≤ R → κ ≤ mg (pv (C K) x)) :
  ∀ i,i < K → ∀ x,mg x ≤ R → κ / T ^ K ≤ mg (pv (C i) x) ∨ κ / T ^ K ≤ mg (pv (C (i + 1)) x):=by
 intro i hi x hx
 by_cases h1 : κ / T ^ K ≤ mg (pv (C i) x)
 ·exact .inl h1
 by_cases h2 : κ / T ^ K ≤ mg (pv (C (i + 1)) x)
 ·exact .inr h2
 exfalso
 have hTK : 0 < T ^ K:=by have := A1y hT K;grind
 have hη : κ / T ^ K * T ^ K = κ:=Rat.div_mul_cancel (by grind)
 have hη0 : 0 < κ / T ^ K:=by
  by_cases h : 0 < κ / T ^ K
  ·exact h
  ·have := Rat.mul_nonneg (show 0 ≤ -(κ / T ^ K) by grind) (Rat.le_of_lt hTK)
   grind
 generalize κ / T ^ K = η at *
 have key : ∀ j : Nat,i + 1 + j ≤ K → mg (pv (C (i + j)) x) < η * T ^ j ∧ mg (pv (C (i + 1 + j)) x) < η * T ^ j:=by
  intro j
  induction j with
  | zero =>
   intro _
   rw [Rat.pow_zero]
   simp only [Nat.add_zero]
   grind
  | succ j ih =>
   intro hj
   obtain ⟨h3,h4⟩:=ih (by omega)
   obtain ⟨q,β,hβ,hq,hs⟩:=hst (i + j) (by omega)
   have h5:=hs x
   have h6:=hq x hx
   rw [show i + j + 1 = i + 1 + j by omega] at h5
   rw [show i + j + 2 = i + 1 + (j + 1) by omega] at h5
   have hTj : 1 ≤ T ^ j:=A1y hT j
   have e : T ^ (j + 1) = T ^ j * T:=Rat.pow_succ ..
   have hle : η * T ^ j ≤ η * T ^ (j + 1):=Rat.mul_le_mul_of_nonneg_left (A9I hT (by omega)) (Rat.le_of_lt hη0)
   refine ⟨by rw [show i + (j + 1) = i + 1 + j by omega];grind,?_⟩
   have h7 : mg (β * pv (C (i + 1 + (j + 1))) x) = β * mg (pv (C (i + 1 + (j + 1))) x):=by
    rw [A0E];congr 1;unfold mg;grind
   have h8 : mg (β * pv (C (i + 1 + (j + 1))) x) ≤ mg (pv q x * pv (C (i + 1 + j)) x) + mg (pv (C (i + j)) x):=by
    have : β * pv (C (i + 1 + (j + 1))) x = pv q x * pv (C (i + 1 + j)) x + -(pv (C (i + j)) x):=by rw [h5];grind
    rw [this]
    have := A1o (pv q x * pv (C (i + 1 + j)) x) (-(pv (C (i + j)) x))
    rw [B0E] at this
    exact this
   have h9 : mg (pv q x * pv (C (i + 1 + j)) x) ≤ mg (pv q x) * (η * T ^ j):=X7 Rat.le_refl (Rat.le_of_lt h4)
   have h10 : (1 + mg (pv q x)) * (η * T ^ j) ≤ T * β * (η * T ^ j):=Rat.mul_le_mul_of_nonneg_right h6 (Rat.mul_nonneg (Rat.le_of_lt hη0) (by grind))
   have h11 : β * mg (pv (C (i + 1 + (j + 1))) x) < β * (η * T ^ (j + 1)):=by rw [e];grind
   exact Rat.lt_of_mul_lt_mul_left h11 (Rat.le_of_lt hβ)
 obtain ⟨-,h3⟩:=key (K - 1 - i) (by omega)
 rw [show i + 1 + (K - 1 - i) = K by omega] at h3
 have h4:=htop x hx
 have h5 : η * T ^ (K - 1 - i) ≤ η * T ^ K:=Rat.mul_le_mul_of_nonneg_left (A9I hT (by omega)) (Rat.le_of_lt hη0)
 grind
theorem B3t (hS : Sturm C K) (R : Rat) (hR : 0 ≤ R) : ∃ ε T L,FineC C K R ε T L:=by
 obtain ⟨c,hc,hlast⟩:=hS.last
 have hqs : ∃ (q : Nat → List Rat) (β : Nat → Rat),∀ i,i + 2 ≤ K → 0 < β i ∧ ∀ x,pv (C i) x = pv (q i) x * pv (C (i + 1)) x - β i * pv (C (i + 2)) x:=by
  refine ⟨fun i=>if h : i + 2 ≤ K then Classical.choose (hS.step i h) else [],fun i=>if h : i + 2 ≤ K then Classical.choose (Classical.choose_spec (hS.step i h)) else 0,fun i hi=>?_⟩
  simp only [dif_pos hi]
  exact Classical.choose_spec (Classical.choose_spec (hS.step i hi))
 obtain ⟨q,β,hq⟩:=hqs
 obtain ⟨T,hT1,hT⟩:=A6H (fun i=>(1 + bp (q i) R) / β i) K
 obtain ⟨L1,hL1,hL⟩:=A6H (fun i=>bq (C i) R) (K + 1)
 have hTb : ∀ i,i + 2 ≤ K → 1 + bp (q i) R ≤ T * β i:=fun i hi=>by
  have h1:=hT i (by omega)
  have h2:=(hq i hi).1
  have h3:=Rat.mul_le_mul_of_nonneg_right h1 (Rat.le_of_lt h2)
  rw [Rat.div_mul_cancel (by grind)] at h3
  exact h3
 have hmc : 0 < mg c:=by unfold mg;grind
 have hTK : 0 < T ^ K:=by have := A1y hT1 K;grind
 have hcT : mg c / T ^ K * T ^ K = mg c:=Rat.div_mul_cancel (by grind)
 have he0 : 0 < mg c / T ^ K:=by
  by_cases h : 0 < mg c / T ^ K
  ·exact h
  ·have := Rat.mul_nonneg (show 0 ≤ -(mg c / T ^ K) by grind) (Rat.le_of_lt hTK)
   grind
 refine ⟨mg c / T ^ K,T,max L1 (bw (C 0) R),he0,hT1,by grind,?_,?_,?_,?_,by grind⟩
 ·exact A9Q hT1 hmc (fun i hi=>⟨q i,β i,(hq i hi).1,fun x hx=>by have := A09 hx (q i);have := hTb i hi;grind,(hq i hi).2⟩) fun x _=>by rw [hlast];exact Rat.le_refl
 ·intro x _
  rw [hlast]
  have := Rat.mul_le_mul_of_nonneg_left (A1y hT1 K) (Rat.le_of_lt he0)
  grind
 ·intro i hi
  exact ⟨q i,β i,(hq i hi).1,fun x hx=>by have := A09 hx (q i);have := hTb i hi;grind,(hq i hi).2⟩
 ·intro i hi
  have := hL i (by omega)
  grind
theorem A2T (hS : Sturm C K) (R : Rat) (hR : 0 ≤ R) : ∃ δ,0 < δ ∧ ∀ a b,mg a ≤ R → mg b ≤ R → a < b → b - a < δ → Loc C K a b:=by
 obtain ⟨ε,T,L,hF⟩:=B3t hS R hR
 have hT:=hF.T1
 have hL:=hF.L0
 have he:=hF.e0
 have hM : 0 < T * (L + 1):=Rat.mul_pos (by grind) (by grind)
 have e1 : ε / (T * (L + 1)) * (T * (L + 1)) = ε:=Rat.div_mul_cancel (by grind)
 have h0 : 0 < ε / (T * (L + 1)):=by
  by_cases h : 0 < ε / (T * (L + 1))
  ·exact h
  ·have := Rat.mul_nonneg (show 0 ≤ -(ε / (T * (L + 1))) by grind) (Rat.le_of_lt hM)
   grind
 refine ⟨ε / (T * (L + 1)),h0,fun a b ha hb hab hd=>hF.loc hS ha hb hab ?_⟩
 generalize ε / (T * (L + 1)) = δ at *
 have h1 : (b - a) * (T * (L + 1)) < δ * (T * (L + 1)):=Rat.mul_lt_mul_of_pos_right hd hM
 have h2 : 0 < (b - a) * T:=Rat.mul_pos (by grind) (by grind)
 grind
structure Glo (C : Nat → List Rat) (K : Nat) (a b : Rat) : Prop where
 nz : spl (C 0) a = 1 ∨ spl (C 0) a = -1
 le : chV C K b ≤ chV C K a
 eq : chV C K a = chV C K b → sgr (pv (C 0) b) = spl (C 0) a
 par : spl (C 0) b = if (chV C K a - chV C K b) % 2 = 0 then spl (C 0) a else -spl (C 0) a
theorem Loc.glo {a b : Rat} (h : Loc C K a b) : Glo C K a b:=by
 by_cases he : sgr (pv (C 0) b) = spl (C 0) a
 ·obtain ⟨h1,h2⟩:=h.no he
  exact ⟨h.nz,by omega,fun _=>he,by rw [h1,Nat.sub_self];exact h2⟩
 ·obtain ⟨h1,h2⟩:=h.yes he
  refine ⟨h.nz,by omega,fun e=>by omega,?_⟩
  rw [h2,h1,Nat.add_sub_cancel_left]
  rfl
theorem Glo.trans {a m b : Rat} (h : Glo C K a m) (h2 : Glo C K m b) : Glo C K a b:=by
 have l1:=h.le
 have l2:=h2.le
 have p1:=h.par
 have p2:=h2.par
 refine ⟨h.nz,by omega,fun e=>?_,?_⟩
 ·have e1 : chV C K a = chV C K m:=by omega
  rw [h2.eq (by omega),p1,e1,Nat.sub_self];rfl
 ·rw [p2,p1]
  split <;> split <;> split <;> omega
variable (hS : Sturm C K)
include hS
theorem A4L {a b : Rat} (hab : a < b) : Glo C K a b:=by
 have hRa : mg a ≤ mg a + mg b:=by have := I2 b;grind
 have hRb : mg b ≤ mg a + mg b:=by have := I2 a;grind
 obtain ⟨δ,hδ,h⟩:=A2T hS (mg a + mg b) (by have := I2 b;have := I2 a;grind)
 exact A6T hδ (fun x y h1 h2 h3 h4=>(h x y (P3 hRa hRb h1 (by grind)) (P3 hRa hRb (by grind) h3) h2 h4).glo) (fun _ _ _ _ _ h1 h2=>h1.trans h2) hab
theorem A36 {a b : Rat} (hab : a ≤ b) : chV C K b ≤ chV C K a:=by
 rcases Rat.le_iff_lt_or_eq.1 hab with h | h
 ·exact (A4L hS h).le
 ·rw [h];exact Nat.le_refl _
theorem A6C {a b : Rat} (hab : a < b) (hV : chV C K b < chV C K a) : ∃ m,a < m ∧ m ≤ b ∧ chV C K a = chV C K m + 1:=by
 have hRa : mg a ≤ mg a + mg b:=by have := I2 b;grind
 have hRb : mg b ≤ mg a + mg b:=by have := I2 a;grind
 obtain ⟨δ,hδ,h⟩:=A2T hS (mg a + mg b) (by have := I2 b;have := I2 a;grind)
 refine (A6T (Q:=fun a b=>chV C K b < chV C K a → ∃ m,a < m ∧ m ≤ b ∧ chV C K a = chV C K m + 1) hδ (fun x y h1 h2 h3 h4 h5=>?_) (fun x m y h1 h2 h3 h4 h5=>?_) hab) hV
 ·have hl:=h x y (P3 hRa hRb h1 (by grind)) (P3 hRa hRb (by grind) h3) h2 h4
  by_cases he : sgr (pv (C 0) y) = spl (C 0) x
  ·have := (hl.no he).1;omega
  ·exact ⟨y,h2,Rat.le_refl,(hl.yes he).1⟩
 ·have l1:=A36 hS (Rat.le_of_lt h1)
  by_cases hm : chV C K m < chV C K x
  ·obtain ⟨z,i1,i2,i3⟩:=h3 hm
   exact ⟨z,i1,by grind,i3⟩
  ·obtain ⟨z,i1,i2,i3⟩:=h4 (by omega)
   exact ⟨z,by grind,i2,by omega⟩
theorem A33 {a b : Rat} (hab : a < b) (h : chV C K a = chV C K b + 1) : sgr (pv (C 0) b) ≠ spl (C 0) a ∧ spl (C 0) b = -spl (C 0) a:=by
 have g:=A4L hS hab
 have hp:=g.par
 rw [h,Nat.add_sub_cancel_left] at hp
 have hp2 : spl (C 0) b = -spl (C 0) a:=hp
 refine ⟨fun e=>?_,hp2⟩
 have hn:=g.nz
 unfold spl at hp2 e hn
 rw [e] at hp2
 split at hp2 <;> omega
theorem B2V {a b : Rat} {t : Int} (hab : a < b) (h : Cn (C 0) a b t) : chV C K a = chV C K b:=by
 have hl:=A36 hS (Rat.le_of_lt hab)
 by_cases he : chV C K b < chV C K a
 ·obtain ⟨m,h1,h2,h3⟩:=A6C hS hab he
  have := (A33 hS h1 h3).1
  have e1:=h.2 m (by grind) h2
  have e2:=h.2 a Rat.le_refl (by grind)
  have ht:=h.1
  unfold spl at this
  rw [e1,e2,if_neg (by omega)] at this
  exact absurd rfl this
 ·omega
theorem B5Z {a b : Rat} {t : Int} (hab : a < b) (h : Mn (C 0) a b t) : chV C K a ≤ chV C K b + 1:=by
 obtain ⟨ht,hd,hm⟩:=h
 have key : ∀ x y,a ≤ x → x < y → y ≤ b → chV C K x = chV C K y + 1 → spl (C 0) x = -t:=fun x y h1 h2 h3 h4=>by
  have h5:=(A33 hS h2 h4).1
  have h6:=hm x y h1 h2 h3
  have h7:=hd x h1 (by grind)
  have hn:=(A4L hS h2).nz
  by_cases he : spl (C 0) x = t
  ·refine absurd ?_ h5
   rw [he]
   unfold spl at he
   rcases ht with rfl | rfl
   ·rw [N2] at h6 ⊢
    split at he
    ·rename_i h8;rw [N1] at h8;grind
    ·rw [N2] at he;grind
   ·rw [N4] at h6 ⊢
    split at he
    ·rename_i h8;rw [N1] at h8;grind
    ·rw [N4] at he;grind
  ·omega
 by_cases h1 : chV C K b < chV C K a
 ·obtain ⟨m,i1,i2,i3⟩:=A6C hS hab h1
  by_cases h2 : chV C K b < chV C K m
  ·have hmb : m < b:=by
    rcases Rat.le_iff_lt_or_eq.1 i2 with h | h
    ·exact h
    ·rw [h] at h2;omega
   obtain ⟨z,j1,j2,j3⟩:=A6C hS hmb h2
   have k1:=key a m Rat.le_refl i1 i2 i3
   have k2:=key m z (by grind) j1 j2 j3
   have k3:=(A33 hS i1 i3).2
   omega
  ·omega
 ·omega
omit hS
end
def ps (f : Nat → Rat) (x : Rat) : Nat → Rat
 | 0=>0
 | n + 1=>ps f x n + f n * x ^ n
theorem A7H (f : Nat → Rat) (x : Rat) : ∀ n,ps f x (n + 1) = f 0 + x * ps (fun i=>f (i + 1)) x n
 | 0=>by simp only [ps,Rat.pow_zero];grind
 | n + 1=>by
  have h:=A7H f x n
  rw [ps,h,ps,Rat.pow_succ]
  grind
theorem A27 (a : Rat) (l : List Rat) : gq (a :: l) 0 = a:=rfl
theorem A1E (a : Rat) (l : List Rat) (i : Nat) : gq (a :: l) (i + 1) = gq l i:=rfl
theorem O9 {l : List Rat} {i : Nat} (h : l.length ≤ i) : gq l i = 0:=by
 unfold gq
 rw [List.getElem?_eq_none h];rfl
theorem A0g (x : Rat) : ∀ (l : List Rat) (n : Nat),l.length ≤ n → pv l x = ps (gq l) x n
 | [],n,_=>by
  have : ∀ n,ps (gq []) x n = 0:=fun n=>by
   induction n with
   | zero=>rfl
   | succ n ih=>rw [ps,ih,O9 (by simp)];grind
  rw [this];rfl
 | a :: l,0,h=>by simp at h
 | a :: l,n + 1,h=>by
  rw [A7H,pv,A0g x l n (by simpa using h)]
  rfl
theorem A4h {f g : Nat → Rat} {x : Rat} {n : Nat} (h : ∀ i,i < n → f i = g i) : ps f x n = ps g x n:=by
 induction n with
 | zero=>rfl
 | succ n ih=>rw [ps,ps,ih (fun i hi=>h i (by omega)),h n (by omega)]
theorem A4H {l m : List Rat} (h : ∀ i,gq l i = gq m i) (x : Rat) : pv l x = pv m x:=by
 rw [A0g x l (max l.length m.length) (by omega),A0g x m (max l.length m.length) (by omega)]
 exact A4h fun i _=>h i
theorem B2r {l m : List Rat} (h : ∀ i,gq l i = gq m i) (x : Rat) : pd l x = pd m x:=A0a (A4H h) x
theorem A1k {l : List Rat} {k : Nat} {v : Rat} (hk : k < l.length) (i : Nat) : gq (l.set k v) i = if i = k then v else gq l i:=A9q hk
theorem A8P (x : Rat) {l : List Rat} {k : Nat} {v : Rat} (hk : k < l.length) : pv (l.set k v) x = pv l x + (v - gq l k) * x ^ k:=by
 have key : ∀ n,k < n → ps (gq (l.set k v)) x n = ps (gq l) x n + (v - gq l k) * x ^ k:=by
  intro n
  induction n with
  | zero=>intro h;omega
  | succ n ih =>
   intro h
   by_cases hn : k = n
   ·subst hn
    rw [ps,ps,A1k hk,if_pos rfl,A4h (f:=gq (l.set k v)) (g:=gq l) (fun i hi=>by rw [A1k hk,if_neg (by omega)])]
    grind
   ·rw [ps,ps,ih (by omega),A1k hk,if_neg (fun e=>hn e.symm)]
    grind
 rw [A0g x l l.length (Nat.le_refl _),A0g x (l.set k v) l.length (by simp),key _ hk]
theorem A6x (l : List Rat) : ∀ n,M5 l n ≠ 0 → gq l (M5 l n - 1) ≠ 0
 | 0,h=>absurd rfl h
 | n + 1,h=>by
  by_cases h0 : gq l n = 0
  ·have e : M5 l (n + 1) = M5 l n:=by rw [M5,if_pos h0]
   rw [e] at h ⊢
   exact A6x l n h
  ·have e : M5 l (n + 1) = n + 1:=by rw [M5,if_neg h0]
   rw [e];exact h0
theorem A19 (l : List Rat) (h : trN l ≠ 0) : gq l (trN l - 1) ≠ 0:=A6x l l.length h
theorem A3x (l : List Rat) {i : Nat} (h : trN l ≤ i) : gq l i = 0:=by
 by_cases hi : l.length ≤ i
 ·exact O9 hi
 ·have key : ∀ n,i < n → M5 l n ≤ i → gq l i = 0:=by
   intro n
   induction n with
   | zero=>intro h;omega
   | succ n ih =>
    intro h1 h2
    unfold M5 at h2
    split at h2
    ·rename_i h0
     by_cases hn : i = n
     ·rw [hn];exact h0
     ·exact ih (by omega) h2
    ·omega
  exact key l.length (by omega) h
theorem W4 (l : List Rat) (i : Nat) : gq (trL l) i = gq l i:=by
 by_cases h : i < trN l
 ·exact B5C h
 ·rw [A3x l (by omega),O9 (by rw [F4];omega)]
theorem R2 (l : List Rat) (x : Rat) : pv (trL l) x = pv l x:=A4H (W4 l) x
theorem A1s {l : List Rat} (h : l ≠ []) : l.getLast h = gq l (l.length - 1):=by
 have hl:=List.length_pos_iff.2 h
 have := A0J (l:=l) (i:=l.length - 1) (by omega)
 rw [List.getElem?_eq_getElem (by omega)] at this
 rw [List.getLast_eq_getElem]
 exact Option.some.inj this
theorem Z9 (l : List Rat) : Trm (trL l):=fun h=>by
 rw [A1s h,F4,W4]
 exact A19 l fun e=>h (List.length_eq_zero_iff.1 (by rw [F4,e]))
theorem A9H {l : List Rat} (h : Trm l) : trL l = l:=A2j (Z9 l) h (R2 l)
theorem E5 {l : List Rat} (h : Trm l) : trN l = l.length:=by rw [← F4,A9H h]
theorem Z5 (l : List Rat) : Dg l (trN l):=⟨trL l,Z9 l,F4 l,R2 l⟩
theorem P0 {l : List Rat} : Nz l ↔ trN l ≠ 0:=by
 constructor
 ·rintro ⟨x,hx⟩ e
  have h:=Z5 l
  rw [e] at h
  exact hx (A3Y h x)
 ·intro h
  obtain ⟨n,hn⟩:=Nat.exists_eq_succ_of_ne_zero h
  have h2:=Z5 l
  rw [hn] at h2
  exact A7G h2
theorem A0q (f : Nat → Rat) (n i : Nat) : gq ((List.range n).map f) i = if i < n then f i else 0:=by
 unfold gq
 rw [List.getElem?_map]
 by_cases h : i < n
 ·rw [List.getElem?_range h,if_pos h];rfl
 ·rw [if_neg h,List.getElem?_eq_none (by simp;omega)];rfl
theorem A34 (l : List Rat) (k : Rat) (i : Nat) : gq (scL l k) i = gq l i * k:=by
 unfold scL
 rw [A0q]
 by_cases h : i < l.length
 ·rw [if_pos h];rfl
 ·rw [if_neg h,O9 (by omega)];grind
theorem A2b (l : List Rat) (k : Rat) (i : Nat) : gq (psc k l) i = k * gq l i:=by
 unfold gq psc
 rw [List.getElem?_map]
 cases l[i]? with
 | none=>simp
 | some a=>rfl
theorem A7O (l : List Rat) (k x : Rat) : pv (scL l k) x = k * pv l x:=by
 rw [← F1]
 exact A4H (fun i=>by rw [A34,A2b];grind) x
theorem A5X (l : List Rat) (x : Rat) : pv (O8 l) x = -pv l x:=by
 unfold O8
 rw [R2,R2,A7O,show A8 (-1) = -1 from rfl];grind
theorem A3z (l : List Rat) : Trm (O8 l):=Z9 _
theorem B5g (x : Rat) : ∀ l : List Rat,pv (O0 l) x = pd l x:=by
 have key : ∀ (l : List Rat) (n : Nat),l.length ≤ n + 1 → pd l x = ps (fun i=>gq l (i + 1) * ((i + 1 : Nat) : Rat)) x n:=by
  intro l
  induction l with
  | nil =>
   intro n _
   have : ∀ n,ps (fun i=>gq [] (i + 1) * ((i + 1 : Nat) : Rat)) x n = 0:=fun n=>by
    induction n with
    | zero=>rfl
    | succ n ih=>rw [ps,ih,O9 (by simp)];grind
   rw [this];rfl
  | cons a l ih =>
   intro n hn
   cases n with
   | zero =>
    have hn2 : l.length + 1 ≤ 0 + 1:=hn
    have : l = []:=List.length_eq_zero_iff.1 (by omega)
    subst this
    simp only [pd,pv,ps];grind
   | succ n =>
    rw [pd,ih n (by simp at hn;omega),A0g x l (n + 1) (by simp at hn;omega)]
    have key2 : ∀ n,ps (fun i=>gq l i * ((i + 1 : Nat) : Rat)) x (n + 1) = ps (gq l) x (n + 1) + x * ps (fun i=>gq l (i + 1) * ((i + 1 : Nat) : Rat)) x n:=fun n=>by
     induction n with
     | zero =>
      simp only [ps,Rat.pow_zero]
      rw [show ((0 + 1 : Nat) : Rat) = 1 from rfl];grind
     | succ n ih2 =>
      have e : ((n + 1 + 1 : Nat) : Rat) = ((n + 1 : Nat) : Rat) + 1:=by rw [Rat.natCast_add];rfl
      have e1 : ps (fun i=>gq l i * ((i + 1 : Nat) : Rat)) x (n + 1 + 1) = ps (fun i=>gq l i * ((i + 1 : Nat) : Rat)) x (n + 1) + gq l (n + 1) * ((n + 1 + 1 : Nat) : Rat) * x ^ (n + 1):=rfl
      have e2 : ps (gq l) x (n + 1 + 1) = ps (gq l) x (n + 1) + gq l (n + 1) * x ^ (n + 1):=rfl
      have e3 : ps (fun i=>gq l (i + 1) * ((i + 1 : Nat) : Rat)) x (n + 1) = ps (fun i=>gq l (i + 1) * ((i + 1 : Nat) : Rat)) x n + gq l (n + 1) * ((n + 1 : Nat) : Rat) * x ^ n:=rfl
      rw [e1,e2,e3,ih2,e,Rat.pow_succ]
      generalize ((n + 1 : Nat) : Rat) = N
      grind
    exact (key2 n).symm
 intro l
 rw [key l (l.length - 1) (by omega),A0g x (O0 l) (l.length - 1) (by unfold O0;simp)]
 refine A4h fun i hi=>?_
 unfold O0
 rw [A0q,if_pos hi]
 show gq l (i + 1) * (((i + 1 : Nat) : Int) : Rat) = _
 rw [Rat.intCast_natCast]
theorem A18 (l : List Rat) (x : Rat) : pv (D2 l) x = pd l x:=by
 unfold D2
 rw [R2,B5g]
 exact B2r (W4 l) x
theorem A61 (l : List Rat) : Trm (D2 l):=Z9 _
theorem A3U (l : List Rat) : (D2 l).length ≤ trN l - 1:=by
 unfold D2
 rw [F4]
 have h1:=G4 (O0 (trL l))
 have h2 : (O0 (trL l)).length = (trL l).length - 1:=by unfold O0;simp
 rw [F4] at h2
 omega
theorem A4q {l : List Rat} (h : trN l ≠ 0) (x : Rat) : pv (E1 l) x = 1 / C1 l * pv l x:=by
 unfold E1
 rw [if_neg h,R2,A7O,R2]
 rfl
theorem A4b {l : List Rat} (h : trN l = 0) : E1 l = []:=by unfold E1;rw [if_pos h]
theorem X8 {l : List Rat} (h : trN l ≠ 0) : C1 l ≠ 0:=A19 l h
theorem R7 (l : List Rat) : (E1 l).length = trN l:=by
 by_cases h : trN l = 0
 ·rw [A4b h,h];rfl
 ·have h1 : trL (E1 l) = E1 l:=A9H (by unfold E1;rw [if_neg h];exact Z9 _)
  have h2:=Z5 (E1 l)
  have hk : 1 / C1 l ≠ 0:=fun e=>by
   have : 1 / C1 l * C1 l = 1:=Rat.div_mul_cancel (X8 h)
   rw [e] at this;grind
  have h3 : Dg (E1 l) (trN l):=⟨psc (1 / C1 l) (trL l),A2R hk (Z9 l),by unfold psc;rw [List.length_map,F4],fun x=>by rw [F1,R2,A4q h]⟩
  rw [← h1,F4]
  exact X3 h2 h3 fun _=>rfl
theorem X9 {l : List Rat} (h : trN l ≠ 0) : Mon (E1 l):=by
 have hne : E1 l ≠ []:=fun e=>h (by rw [← R7,e];rfl)
 refine ⟨hne,?_⟩
 rw [A1s hne,R7]
 unfold E1
 rw [if_neg h,W4,A34,W4]
 show C1 l * (1 / C1 l) = 1
 have := Rat.div_mul_cancel (a:=1) (X8 h)
 grind
theorem U7 (l : List Rat) : Trm (E1 l):=by
 by_cases h : trN l = 0
 ·rw [A4b h];exact fun h=>absurd rfl h
 ·exact (X9 h).tr
theorem A05 (a : Rat) : H6 a = mg a:=by
 unfold H6 mg
 split
 ·rename_i h;exact Rat.abs_of_nonneg h
 ·rename_i h;exact Rat.abs_of_nonpos (by grind)
theorem B1p {r : List Rat} (h : trN r ≠ 0) (x : Rat) : pv (shL r) x = 1 / mg (C1 r) * pv r x:=by
 unfold shL shF
 rw [if_neg h,← F1,A4H (m:=psc (1 / mg (C1 r)) r) (fun i=>?_)]
 rw [A0q,A2b,← A05]
 split
 ·show gq r i / H6 (C1 r) = _
  rw [Rat.div_def,Rat.div_def];grind
 ·rw [A3x r (by omega)];grind
theorem B6G {r : List Rat} (hr : Trm r) : Trm (shL r):=fun hne=>by
 by_cases h : trN r = 0
 ·have : shL r = r:=by unfold shL;rw [if_pos h]
  have hl:=E5 hr
  rw [h] at hl
  rw [this] at hne
  exact absurd (List.length_eq_zero_iff.1 hl.symm) hne
 ·have hlen : (shL r).length = trN r:=by unfold shL shF;rw [if_neg h];simp
  rw [A1s hne,hlen]
  unfold shL shF
  rw [if_neg h,A0q,if_pos (by omega)]
  show C1 r / H6 (C1 r) ≠ 0
  intro e
  have h1:=X8 h
  have h2 : H6 (C1 r) ≠ 0:=fun e2=>h1 (A44 (by rw [← A05,e2];exact Rat.le_refl))
  have h3 : C1 r / H6 (C1 r) * H6 (C1 r) = C1 r:=Rat.div_mul_cancel h2
  rw [e] at h3
  grind
theorem B6P (r : List Rat) (hr : Trm r) : (shL r).length = r.length:=by
 unfold shL
 split
 ·rfl
 ·unfold shF;simp [E5 hr]
theorem B6I (l : List Rat) (x : Rat) : atQ l x = pv l x:=by
 have key : ∀ s,s ≤ l.length → O3 l x s = pv (l.drop (l.length - s)) x:=by
  intro s
  induction s with
  | zero=>intro _;rw [Nat.sub_zero,List.drop_length];rfl
  | succ s ih =>
   intro h
   rw [O3,ih (by omega)]
   have h1 : l.length - (s + 1) < l.length:=by omega
   have h2 : l.drop (l.length - (s + 1)) = gq l (l.length - 1 - s) :: l.drop (l.length - s):=by
    rw [List.drop_eq_getElem_cons h1]
    have e:=A0J h1
    rw [List.getElem?_eq_getElem h1] at e
    rw [Option.some.inj e,show l.length - (s + 1) + 1 = l.length - s by omega,show l.length - (s + 1) = l.length - 1 - s by omega]
   rw [h2,pv]
   show pv _ x * x + _ = _
   grind
 unfold atQ
 rw [key _ (Nat.le_refl _),Nat.sub_self]
 rfl
theorem A3f (r b : List Rat) (q : Rat) (i : Nat) : ∀ j,i + j ≤ r.length → ∀ m,gq (I6 r b q i j) m = gq r m - if i ≤ m ∧ m < i + j then q * gq b (m - i) else 0
 | 0,_,m=>by rw [I6,if_neg (by omega)];grind
 | j + 1,h,m=>by
  have ih:=A3f r b q i j (by omega)
  rw [I6,A1k (by rw [A25];omega)]
  by_cases hm : m = i + j
  ·rw [if_pos hm,ih,if_neg (by omega),if_pos (by omega),hm,show i + j - i = j by omega]
   show gq r (i + j) - 0 - q * gq b j = _
   grind
  ·rw [if_neg hm,ih]
   by_cases h2 : i ≤ m ∧ m < i + j
   ·rw [if_pos h2,if_pos (by omega)]
   ·rw [if_neg h2,if_neg (by omega)]
theorem A7U (r b : List Rat) (q : Rat) (i : Nat) (x : Rat) : ∀ j,i + j ≤ r.length → pv (I6 r b q i j) x = pv r x - q * x ^ i * ps (gq b) x j
 | 0,_=>by rw [I6,ps];grind
 | j + 1,h=>by
  have e : gq (I6 r b q i j) (i + j) = gq r (i + j):=by rw [A3f r b q i j (by omega),if_neg (by omega)];grind
  rw [I6,A8P x (by rw [A25];omega),A7U r b q i x j (by omega),ps]
  show _ + (gq (I6 r b q i j) (i + j) - q * gq b j - _) * _ = _
  rw [e]
  have : x ^ (i + j) = x ^ i * x ^ j:=by
   clear h e
   induction j with
   | zero=>rw [Nat.add_zero,Rat.pow_zero];grind
   | succ j ih=>rw [show i + (j + 1) = i + j + 1 from rfl,Rat.pow_succ,Rat.pow_succ,ih];grind
  rw [this];grind
theorem A8L {r b : List Rat} (hb : b ≠ []) (x : Rat) : ∀ s,s ≤ dvK r b → pv r x = pv (D0 r b (dvK r b) s).1 x * pv b x + pv (D0 r b (dvK r b) s).2 x ∧ ∀ m,m < dvK r b - s → gq (D0 r b (dvK r b) s).1 m = 0
 | 0,_=>by
  have h0 : ∀ k m,gq (List.replicate k (0 : Rat)) m = 0:=fun k m=>by
   unfold gq
   rw [List.getElem?_replicate]
   split <;> rfl
  refine ⟨?_,fun m _=>h0 _ m⟩
  have : ∀ k,pv (List.replicate k (0 : Rat)) x = 0:=fun k=>(A6D (fun a ha=>(List.mem_replicate.1 ha).2) x).2
  rw [D0,this]
  grind
 | s + 1,h=>by
  obtain ⟨ih,iz⟩:=A8L (r:=r) hb x s (by omega)
  obtain ⟨l1,l2⟩:=A0h r b (dvK r b) s
  have hk : dvK r b ≤ r.length + 1 - b.length:=Nat.le_refl _
  have hbl : 0 < b.length:=List.length_pos_iff.2 hb
  rw [D0]
  simp only
  generalize (D0 r b (dvK r b) s).1 = Q at *
  generalize (D0 r b (dvK r b) s).2 = P at *
  generalize hc : dvX P b (dvK r b - 1 - s) = c at *
  refine ⟨?_,fun m hm=>?_⟩
  ·rw [A8P x (by omega),iz _ (by omega)]
   by_cases h0 : c = 0
   ·rw [if_pos h0,ih,h0];grind
   ·rw [if_neg h0,A7U _ _ _ _ _ _ (by omega),← A0g x b _ (Nat.le_refl _),ih];grind
  ·rw [A1k (by omega),if_neg (by omega)]
   exact iz m (by omega)
theorem B3m {r b : List Rat} (hb : b ≠ []) (ht : gq b (b.length - 1) ≠ 0) : ∀ s,s ≤ dvK r b → ∀ m,dvK r b - s + b.length - 1 ≤ m → gq (D0 r b (dvK r b) s).2 m = 0:=by
 intro s
 have hbl : 0 < b.length:=List.length_pos_iff.2 hb
 induction s with
 | zero =>
  intro _ m hm
  refine O9 ?_
  show r.length ≤ m
  unfold dvK at hm
  omega
 | succ s ih =>
  intro h m hm
  have ih:=ih (by omega)
  obtain ⟨l1,l2⟩:=A0h r b (dvK r b) s
  have hk : dvK r b ≤ r.length + 1 - b.length:=Nat.le_refl _
  rw [D0]
  simp only
  generalize (D0 r b (dvK r b) s).2 = P at *
  obtain ⟨c,hc⟩ : ∃ c,c = dvX P b (dvK r b - 1 - s):=⟨_,rfl⟩
  rw [← hc]
  have e : c = gq P (dvK r b - 1 - s + b.length - 1) / gq b (b.length - 1):=hc
  by_cases h0 : c = 0
  ·rw [if_pos h0]
   by_cases hm2 : m = dvK r b - 1 - s + b.length - 1
   ·have h3 : gq P (dvK r b - 1 - s + b.length - 1) / gq b (b.length - 1) * gq b (b.length - 1) = gq P (dvK r b - 1 - s + b.length - 1):=Rat.div_mul_cancel ht
    rw [← e,h0] at h3
    rw [hm2];grind
   ·exact ih m (by omega)
  ·rw [if_neg h0,A3f _ _ _ _ _ (by omega)]
   by_cases hm2 : m = dvK r b - 1 - s + b.length - 1
   ·rw [if_pos (by omega),hm2,show dvK r b - 1 - s + b.length - 1 - (dvK r b - 1 - s) = b.length - 1 by omega,e]
    have h3 : gq P (dvK r b - 1 - s + b.length - 1) / gq b (b.length - 1) * gq b (b.length - 1) = gq P (dvK r b - 1 - s + b.length - 1):=Rat.div_mul_cancel ht
    rw [h3];grind
   ·rw [if_neg (by omega),ih m (by omega)];grind
theorem A2f (a b : List Rat) (hb : trN b ≠ 0) (x : Rat) : pv a x = pv (B7 a b).1 x * pv b x + pv (B7 a b).2 x:=by
 have hne : trL b ≠ []:=fun e=>hb (by rw [← F4,e];rfl)
 have h:=(A8L (r:=trL a) (b:=trL b) hne x _ (Nat.le_refl _)).1
 rw [R2,R2] at h
 unfold B7
 rw [R2,R2]
 exact h
theorem A0m (a b : List Rat) (hb : trN b ≠ 0) : (B7 a b).2.length < trN b:=by
 have hne : trL b ≠ []:=fun e=>hb (by rw [← F4,e];rfl)
 have ht : gq (trL b) ((trL b).length - 1) ≠ 0:=by rw [F4,W4];exact A19 b hb
 have h:=B3m (r:=trL a) (b:=trL b) hne ht _ (Nat.le_refl _)
 unfold B7
 show (trL _).length < _
 rw [F4]
 rw [F4] at h
 by_cases hlt : trN (D0 (trL a) (trL b) (dvK (trL a) (trL b)) (dvK (trL a) (trL b))).2 < trN b
 ·exact hlt
 ·have h2:=A19 (D0 (trL a) (trL b) (dvK (trL a) (trL b)) (dvK (trL a) (trL b))).2 (by omega)
  exact absurd (h _ (by omega)) h2
theorem A3e (a b : List Rat) : Trm (B7 a b).1 ∧ Trm (B7 a b).2:=⟨Z9 _,Z9 _⟩
end Go.Proofs.YtlkniebmjdoopaaGreatDoor
