/- Contracts and laws. -/
import Derived.Test.YtlkniebmjdoopaaGreatDoorK40
set_option linter.unusedSimpArgs false
set_option linter.unusedVariables false
namespace Go.Proofs.YtlkniebmjdoopaaGreatDoor
def sgr (a : Rat) : Int:=if 0 < a then 1 else if a < 0 then -1 else 0
theorem R9 (a : Rat) : sgr a = 1 ∨ sgr a = -1 ∨ sgr a = 0:=by unfold sgr;grind
theorem N2 {a : Rat} : sgr a = 1 ↔ 0 < a:=by unfold sgr;grind
theorem N4 {a : Rat} : sgr a = -1 ↔ a < 0:=by unfold sgr;grind
theorem N1 {a : Rat} : sgr a = 0 ↔ a = 0:=by unfold sgr;grind
def dq : List Rat → Rat → Rat → Rat
 | [],_,_=>0
 | _ :: l,x,y=>pv l y + x * dq l x y
def dw : List Rat → Rat → Rat → Rat
 | [],_,_=>0
 | _ :: l,x,y=>dq l x y + x * dw l x y
theorem A2H (x y : Rat) : ∀ l : List Rat,pv l y - pv l x = (y - x) * dq l x y
 | []=>by simp only [pv,dq];grind
 | a :: l=>by have := A2H x y l;simp only [pv,dq];grind
theorem A5Z (x y : Rat) : ∀ l : List Rat,dq l x y - pd l x = (y - x) * dw l x y
 | []=>by simp only [dq,pd,dw];grind
 | a :: l=>by have := A5Z x y l;have h2:=A2H x y l;simp only [dq,pd,dw];grind
def bp : List Rat → Rat → Rat
 | [],_=>0
 | a :: l,R=>mg a + R * bp l R
def bq : List Rat → Rat → Rat
 | [],_=>0
 | _ :: l,R=>bp l R + R * bq l R
def bw : List Rat → Rat → Rat
 | [],_=>0
 | _ :: l,R=>bq l R + R * bw l R
section
variable {R : Rat}
theorem A4B (hR : 0 ≤ R) : ∀ l,0 ≤ bp l R
 | []=>by simp only [bp];grind
 | a :: l=>by have := Rat.mul_nonneg hR (A4B hR l);have := I2 a;simp only [bp];grind
theorem A0t (hR : 0 ≤ R) : ∀ l,0 ≤ bq l R
 | []=>by simp only [bq];grind
 | a :: l=>by have := Rat.mul_nonneg hR (A0t hR l);have := A4B hR l;simp only [bq];grind
theorem A3O (hR : 0 ≤ R) : ∀ l,0 ≤ bw l R
 | []=>by simp only [bw];grind
 | a :: l=>by have := Rat.mul_nonneg hR (A3O hR l);have := A0t hR l;simp only [bw];grind
theorem X7 {x y A : Rat} (hx : mg x ≤ R) (hy : mg y ≤ A) : mg (x * y) ≤ R * A:=by
 rw [A0E]
 have h1:=I2 x
 have h2:=I2 y
 have h3 : mg x * mg y ≤ R * mg y:=Rat.mul_le_mul_of_nonneg_right hx h2
 have h4 : R * mg y ≤ R * A:=Rat.mul_le_mul_of_nonneg_left hy (by grind)
 exact Rat.le_trans h3 h4
theorem A09 {x : Rat} (hx : mg x ≤ R) : ∀ l,mg (pv l x) ≤ bp l R
 | []=>by simp only [pv,bp];unfold mg;grind
 | a :: l=>by
  have h:=X7 hx (A09 hx l)
  have := A1o a (x * pv l x)
  simp only [pv,bp];grind
theorem A4p {x y : Rat} (hx : mg x ≤ R) (hy : mg y ≤ R) : ∀ l,mg (dq l x y) ≤ bq l R
 | []=>by simp only [dq,bq];unfold mg;grind
 | a :: l=>by
  have h:=X7 hx (A4p hx hy l)
  have h2:=A09 hy l
  have := A1o (pv l y) (x * dq l x y)
  simp only [dq,bq];grind
theorem A6M {x y : Rat} (hx : mg x ≤ R) (hy : mg y ≤ R) : ∀ l,mg (dw l x y) ≤ bw l R
 | []=>by simp only [dw,bw];unfold mg;grind
 | a :: l=>by
  have h:=X7 hx (A6M hx hy l)
  have h2:=A4p hx hy l
  have := A1o (dq l x y) (x * dw l x y)
  simp only [dw,bw];grind
theorem P3 {a b y : Rat} (ha : mg a ≤ R) (hb : mg b ≤ R) (h1 : a ≤ y) (h2 : y ≤ b) : mg y ≤ R:=by
 rw [A0n] at *;grind
theorem B3j {l : List Rat} {x y : Rat} (hx : mg x ≤ R) (hy : mg y ≤ R) : mg (pv l y - pv l x) ≤ mg (y - x) * bq l R:=by
 rw [A2H]
 exact X7 (Rat.le_refl) (A4p hx hy l)
def Cn (f : List Rat) (a b : Rat) (t : Int) : Prop:=(t = 1 ∨ t = -1) ∧ ∀ y,a ≤ y → y ≤ b → sgr (pv f y) = t
theorem A3D {f : List Rat} {a b : Rat} (hab : a ≤ b) (ha : mg a ≤ R) (hb : mg b ≤ R) : (∃ t,Cn f a b t) ∨ ∀ y,a ≤ y → y ≤ b → mg (pv f y) ≤ (b - a) * bq f R:=by
 by_cases h : ∀ y,a ≤ y → y ≤ b → mg (pv f y) ≤ (b - a) * bq f R
 ·exact .inr h
 ·refine .inl ?_
  have : ∃ y,a ≤ y ∧ y ≤ b ∧ (b - a) * bq f R < mg (pv f y):=by
   refine Classical.byContradiction fun hn=>h fun y h1 h2=>?_
   exact Rat.not_lt.1 fun h3=>hn ⟨y,h1,h2,h3⟩
  obtain ⟨y,h1,h2,h3⟩:=this
  have hR : 0 ≤ R:=Rat.le_trans (I2 a) ha
  have hy:=P3 ha hb h1 h2
  have hlip : ∀ z,a ≤ z → z ≤ b → mg (pv f z - pv f y) < mg (pv f y):=fun z h4 h5=>by
   have h6:=B3j (l:=f) hy (P3 ha hb h4 h5)
   have h7 : mg (z - y) ≤ b - a:=by rw [A0n];grind
   have h8 : mg (z - y) * bq f R ≤ (b - a) * bq f R:=Rat.mul_le_mul_of_nonneg_right h7 (A0t hR f)
   grind
  rcases R9 (pv f y) with h4 | h4 | h4
  ·refine ⟨1,.inl rfl,fun z h5 h6=>?_⟩
   have h7:=hlip z h5 h6
   rw [N2] at h4 ⊢
   unfold mg at h7;grind
  ·refine ⟨-1,.inr rfl,fun z h5 h6=>?_⟩
   have h7:=hlip z h5 h6
   rw [N4] at h4 ⊢
   unfold mg at h7;grind
  ·rw [N1] at h4
   have := hlip y h1 h2
   rw [h4] at this
   unfold mg at this;grind
end
def Mn (f : List Rat) (a b : Rat) (t : Int) : Prop:=(t = 1 ∨ t = -1) ∧ (∀ y,a ≤ y → y ≤ b → sgr (pd f y) = t) ∧ ∀ y z,a ≤ y → y < z → z ≤ b → sgr (pv f z - pv f y) = t
theorem A8Q {R ε : Rat} {f g : List Rat} {a b : Rat} (hg : ∀ x,pv g x = pd f x) (hab : a ≤ b) (ha : mg a ≤ R) (hb : mg b ≤ R) (hsep : ∀ x,mg x ≤ R → ε ≤ mg (pv f x) ∨ ε ≤ mg (pv g x)) (h1 : (b - a) * bq f R < ε) (h2 : (b - a) * bq g R < ε) (h3 : (b - a) * bw f R < ε) : (∃ t,Cn f a b t) ∨ ∃ t,Mn f a b t:=by
 rcases A3D (f:=f) hab ha hb with h | h
 ·exact .inl h
 ·refine .inr ?_
  have hR : 0 ≤ R:=Rat.le_trans (I2 a) ha
  have hge : ∀ y,a ≤ y → y ≤ b → ε ≤ mg (pv g y):=fun y h4 h5=>by
   rcases hsep y (P3 ha hb h4 h5) with h6 | h6
   ·have := h y h4 h5;grind
   ·exact h6
  rcases A3D (f:=g) hab ha hb with ⟨t,ht,hc⟩ | h4
  ·refine ⟨t,ht,fun y h4 h5=>by rw [← hg];exact hc y h4 h5,fun y z h4 h5 h6=>?_⟩
   have h7:=hc y h4 (by grind)
   have h8:=hge y h4 (by grind)
   have hy:=P3 ha hb h4 (show y ≤ b by grind)
   have hz:=P3 ha hb (show a ≤ z by grind) h6
   have h9:=A5Z y z f
   have h10 : mg ((z - y) * dw f y z) ≤ mg (z - y) * bw f R:=X7 Rat.le_refl (A6M hy hz f)
   have h11 : mg (z - y) ≤ b - a:=by rw [A0n];grind
   have h12 : mg (z - y) * bw f R ≤ (b - a) * bw f R:=Rat.mul_le_mul_of_nonneg_right h11 (A3O hR f)
   rw [← hg y] at h9
   have h13 : sgr (dq f y z) = t:=by
    have h14 : mg (dq f y z - pv g y) < mg (pv g y):=by rw [h9];grind
    rcases ht with rfl | rfl
    ·rw [N2] at h7 ⊢;unfold mg at h14;grind
    ·rw [N4] at h7 ⊢;unfold mg at h14;grind
   rw [A2H]
   rcases ht with rfl | rfl
   ·rw [N2] at h13 ⊢;exact Rat.mul_pos (by grind) h13
   ·rw [N4] at h13 ⊢
    have := Rat.mul_pos (show 0 < z - y by grind) (show 0 < -dq f y z by grind)
    grind
  ·have := h4 a (by grind) hab
   have := hge a (by grind) hab
   grind
theorem A0w {s : Nat → Int} {i : Nat} (h : s i ≠ 0) : (E2 s (i + 1)).2 = s i ∧ (E2 s (i + 1)).1 = (E2 s i).1 + if s i = -(E2 s i).2 then 1 else 0:=by
 simp only [E2,if_neg h]
 refine ⟨trivial,?_⟩
 split <;> simp
theorem A7f {s : Nat → Int} {k : Nat} (h : s k ≠ 0) (h2 : s (k + 2) = -s k) (h1 : s (k + 1) = 0 ∨ s (k + 1) = s k ∨ s (k + 1) = -s k) : (E2 s (k + 3)).1 = (E2 s (k + 1)).1 + 1:=by
 have h3 : s (k + 2) ≠ 0:=by omega
 have e0:=A0w h
 have e2:=A0w h3
 rw [show k + 3 = k + 2 + 1 from rfl,e2.2]
 by_cases hz : s (k + 1) = 0
 ·have e : E2 s (k + 2) = E2 s (k + 1):=by
   rw [show k + 2 = k + 1 + 1 from rfl,E2,if_pos hz]
  rw [e,e0.1,if_pos h2]
 ·have e1:=A0w hz
  rw [show k + 2 = k + 1 + 1 from rfl] at h2 ⊢
  rw [e1.1,e1.2,e0.1]
  rcases h1 with h1 | h1 | h1
  ·exact absurd h1 hz
  ·rw [if_neg (by omega),if_pos (by omega)]
  ·rw [if_pos (by omega),if_neg (by omega)]
theorem B1n {s s' : Nat → Int} {K j : Nat} (hs : ∀ i,s i = 1 ∨ s i = -1 ∨ s i = 0) (hs' : ∀ i,s' i = 1 ∨ s' i = -1 ∨ s' i = 0) (hj : s j = s' j ∧ s j ≠ 0)
  (hm : ∀ i,j < i → i < K → (s i = s' i ∧ s i ≠ 0) ∨ (s (i - 1) = s' (i - 1) ∧ s (i - 1) ≠ 0 ∧ s (i + 1) = s' (i + 1) ∧ s (i + 1) = -s (i - 1))) :
  ∀ i,j ≤ i → i ≤ K → s i = s' i → s i ≠ 0 → ((E2 s (i + 1)).1 : Int) - (E2 s' (i + 1)).1 = ((E2 s (j + 1)).1 : Int) - (E2 s' (j + 1)).1:=by
 intro i
 induction i using Nat.strongRecOn with
 | _ i ih =>
  intro hji hiK he hne
  by_cases hij : i = j
  ·rw [hij]
  ·obtain ⟨p,rfl⟩ : ∃ p,i = p + 1:=⟨i - 1,by omega⟩
   have hp : s p = s' p ∧ s p ≠ 0 ∨ ¬ (s p = s' p ∧ s p ≠ 0):=Classical.em _
   rcases hp with hp | hp
   ·have h1:=ih p (by omega) (by omega) (by omega) hp.1 hp.2
    have e1:=A0w hne
    have e2:=A0w (s:=s') (i:=p + 1) (by rw [← he];exact hne)
    have e3:=A0w hp.2
    have e4:=A0w (s:=s') (i:=p) (by rw [← hp.1];exact hp.2)
    rw [e1.2,e2.2,e3.1,e4.1,← he,← hp.1]
    split <;> omega
   ·have hpj : p ≠ j:=fun e=>hp (by rw [e];exact hj)
    rcases hm p (by omega) (by omega) with h2 | ⟨h2,h3,h4,h5⟩
    ·exact absurd h2 hp
    ·obtain ⟨k,rfl⟩ : ∃ k,p = k + 1:=⟨p - 1,by omega⟩
     simp only [Nat.add_sub_cancel] at h2 h3 h4 h5
     have h4 : s (k + 2) = s' (k + 2):=h4
     have h5 : s (k + 2) = -s k:=h5
     have h6:=ih k (by omega) (by omega) (by omega) h2 h3
     have e1:=A7f (s:=s) (k:=k) h3 h5 (by have := hs (k + 1);have := hs k;omega)
     have e2:=A7f (s:=s') (k:=k) (by omega) (by omega) (by have := hs' (k + 1);have := hs' k;omega)
     rw [show k + 1 + 1 + 1 = k + 3 from rfl,e1,e2]
     omega
structure Sturm (C : Nat → List Rat) (K : Nat) : Prop where
 last : ∃ c,c ≠ 0 ∧ ∀ x,pv (C K) x = c
 der : 1 ≤ K → ∀ x,pv (C 1) x = pd (C 0) x
 step : ∀ i,i + 2 ≤ K → ∃ (q : List Rat) (β : Rat),0 < β ∧ ∀ x,pv (C i) x = pv q x * pv (C (i + 1)) x - β * pv (C (i + 2)) x
def chV (C : Nat → List Rat) (K : Nat) (x : Rat) : Nat:=(E2 (fun i=>sgr (pv (C i) x)) (K + 1)).1
def spl (f : List Rat) (x : Rat) : Int:=if sgr (pv f x) = 0 then sgr (pd f x) else sgr (pv f x)
structure Loc (C : Nat → List Rat) (K : Nat) (a b : Rat) : Prop where
 nz : spl (C 0) a = 1 ∨ spl (C 0) a = -1
 no : sgr (pv (C 0) b) = spl (C 0) a → chV C K a = chV C K b ∧ spl (C 0) b = spl (C 0) a
 yes : sgr (pv (C 0) b) ≠ spl (C 0) a → chV C K a = chV C K b + 1 ∧ spl (C 0) b = -spl (C 0) a
structure FineC (C : Nat → List Rat) (K : Nat) (R ε T L : Rat) : Prop where
 e0 : 0 < ε
 T1 : 1 ≤ T
 L0 : 0 ≤ L
 sep : ∀ i,i < K → ∀ x,mg x ≤ R → ε ≤ mg (pv (C i) x) ∨ ε ≤ mg (pv (C (i + 1)) x)
 top : ∀ x,mg x ≤ R → ε ≤ mg (pv (C K) x)
 step : ∀ i,i + 2 ≤ K → ∃ (q : List Rat) (β : Rat),0 < β ∧ (∀ x,mg x ≤ R → mg (pv q x) ≤ T * β) ∧ ∀ x,pv (C i) x = pv q x * pv (C (i + 1)) x - β * pv (C (i + 2)) x
 lip : ∀ i,i ≤ K → bq (C i) R ≤ L
 bwL : bw (C 0) R ≤ L
theorem FineC.loc {C : Nat → List Rat} {K : Nat} {R ε T L a b : Rat} (hS : Sturm C K) (h : FineC C K R ε T L) (ha : mg a ≤ R) (hb : mg b ≤ R) (hab : a < b) (hd : T * ((b - a) * L) < ε) : Loc C K a b:=by
 have hba : 0 < b - a:=by grind
 have hR : 0 ≤ R:=Rat.le_trans (I2 a) ha
 have hL : (b - a) * L < ε:=by
  have h1 : 0 ≤ (b - a) * L:=Rat.mul_nonneg (by grind) h.L0
  have h2 : 1 * ((b - a) * L) ≤ T * ((b - a) * L):=Rat.mul_le_mul_of_nonneg_right h.T1 h1
  grind
 have hl : ∀ i,i ≤ K → (b - a) * bq (C i) R < ε:=fun i hi=>by
  have : (b - a) * bq (C i) R ≤ (b - a) * L:=Rat.mul_le_mul_of_nonneg_left (h.lip i hi) (by grind)
  grind
 have hcn : ∀ i,i ≤ K → (∃ t,Cn (C i) a b t) ∨ ∀ y,a ≤ y → y ≤ b → mg (pv (C i) y) ≤ (b - a) * L:=fun i hi=>by
  rcases A3D (f:=C i) (Rat.le_of_lt hab) ha hb with h1 | h1
  ·exact .inl h1
  ·refine .inr fun y h2 h3=>Rat.le_trans (h1 y h2 h3) (Rat.mul_le_mul_of_nonneg_left (h.lip i hi) (by grind))
 have htop : ∃ t,Cn (C K) a b t:=by
  rcases hcn K (Nat.le_refl _) with h1 | h1
  ·exact h1
  ·have := h1 a Rat.le_refl (by grind)
   have := h.top a ha
   grind
 have hmid : ∀ i,i + 2 ≤ K → (∃ t,Cn (C (i + 1)) a b t) ∨ ∃ t,Cn (C i) a b t ∧ Cn (C (i + 2)) a b (-t):=fun i hi=>by
  rcases hcn (i + 1) (by omega) with h1 | h1
  ·exact .inl h1
  ·refine .inr ?_
   have g0 : ∀ y,a ≤ y → y ≤ b → ε ≤ mg (pv (C i) y) ∧ ε ≤ mg (pv (C (i + 2)) y):=fun y h2 h3=>by
    have h4:=h1 y h2 h3
    have hy:=P3 ha hb h2 h3
    constructor
    ·rcases h.sep i (by omega) y hy with h5 | h5
     ·exact h5
     ·grind
    ·rcases h.sep (i + 1) (by omega) y hy with h5 | h5
     ·grind
     ·exact h5
   have c0 : ∃ t,Cn (C i) a b t:=by
    rcases hcn i (by omega) with h2 | h2
    ·exact h2
    ·have := h2 a Rat.le_refl (by grind)
     have := (g0 a Rat.le_refl (by grind)).1
     grind
   have c2 : ∃ t,Cn (C (i + 2)) a b t:=by
    rcases hcn (i + 2) (by omega) with h2 | h2
    ·exact h2
    ·have := h2 a Rat.le_refl (by grind)
     have := (g0 a Rat.le_refl (by grind)).2
     grind
   obtain ⟨t,ht,hc⟩:=c0
   obtain ⟨t2,ht2,hc2⟩:=c2
   obtain ⟨q,β,hβ,hq,hst⟩:=h.step i hi
   have e1:=hc a Rat.le_refl (by grind)
   have e2:=hc2 a Rat.le_refl (by grind)
   have e3:=hst a
   have e4:=(g0 a Rat.le_refl (by grind)).2
   have e5 : mg (pv q a * pv (C (i + 1)) a) ≤ (T * β) * ((b - a) * L):=X7 (hq a ha) (h1 a Rat.le_refl (by grind))
   have e6 : (T * β) * ((b - a) * L) < β * ε:=by
    have := Rat.mul_lt_mul_of_pos_left hd hβ
    grind
   have e7 : β * ε ≤ β * mg (pv (C (i + 2)) a):=Rat.mul_le_mul_of_nonneg_left e4 (Rat.le_of_lt hβ)
   have e8 : mg (β * pv (C (i + 2)) a) = β * mg (pv (C (i + 2)) a):=by
    rw [A0E];congr 1;unfold mg;grind
   have e9 : mg (pv q a * pv (C (i + 1)) a) < mg (β * pv (C (i + 2)) a):=by grind
   have e10 : t2 = -t:=by
    have e11 : sgr (β * pv (C (i + 2)) a) = t2:=by
     rcases ht2 with rfl | rfl
     ·rw [N2] at e2 ⊢;exact Rat.mul_pos hβ e2
     ·rw [N4] at e2 ⊢
      have := Rat.mul_pos hβ (show 0 < -pv (C (i + 2)) a by grind)
      grind
    rcases ht with rfl | rfl <;> rcases ht2 with rfl | rfl
    ·rw [N2] at e1 e11;unfold mg at e9;grind
    ·rfl
    ·rfl
    ·rw [N4] at e1 e11;unfold mg at e9;grind
   exact ⟨t,⟨ht,hc⟩,by rw [← e10];exact ⟨ht2,hc2⟩⟩
 have hsgn : ∀ x i,(fun i=>sgr (pv (C i) x)) i = 1 ∨ (fun i=>sgr (pv (C i) x)) i = -1 ∨ (fun i=>sgr (pv (C i) x)) i = 0:=fun x i=>R9 _
 have cnab : ∀ i t,Cn (C i) a b t → sgr (pv (C i) a) = t ∧ sgr (pv (C i) b) = t ∧ (t = 1 ∨ t = -1):=fun i t hc=>⟨hc.2 a Rat.le_refl (by grind),hc.2 b (by grind) Rat.le_refl,hc.1⟩
 have run : ∀ j,j ≤ K → (∃ t,Cn (C j) a b t) → ((chV C K a : Nat) : Int) - (chV C K b : Nat) = ((E2 (fun i=>sgr (pv (C i) a)) (j + 1)).1 : Int) - ((E2 (fun i=>sgr (pv (C i) b)) (j + 1)).1 : Int):=fun j hj ⟨t,ht⟩=>by
  obtain ⟨tk,htk⟩:=htop
  have k1:=cnab K tk htk
  have j1:=cnab j t ht
  refine B1n (s:=fun i=>sgr (pv (C i) a)) (s':=fun i=>sgr (pv (C i) b)) (K:=K) (j:=j) (hsgn a) (hsgn b) ⟨by show sgr _ = sgr _;rw [j1.1,j1.2.1],by show sgr _ ≠ 0;rw [j1.1];omega⟩ ?_ K hj (Nat.le_refl _) (by show sgr _ = sgr _;rw [k1.1,k1.2.1]) (by show sgr _ ≠ 0;rw [k1.1];omega)
  intro i h1 h2
  obtain ⟨p,rfl⟩ : ∃ p,i = p + 1:=⟨i - 1,by omega⟩
  rcases hmid p (by omega) with ⟨u,hu⟩ | ⟨u,hu,hu2⟩
  ·have u1:=cnab _ u hu
   exact .inl ⟨by show sgr _ = sgr _;rw [u1.1,u1.2.1],by show sgr _ ≠ 0;rw [u1.1];omega⟩
  ·have u1:=cnab _ u hu
   have u2:=cnab _ _ hu2
   refine .inr ⟨?_,?_,?_,?_⟩
   ·show sgr _ = sgr _;simp only [Nat.add_sub_cancel];rw [u1.1,u1.2.1]
   ·show sgr _ ≠ 0;simp only [Nat.add_sub_cancel];rw [u1.1];omega
   ·show sgr _ = sgr _;rw [u2.1,u2.2.1]
   ·show sgr _ = -sgr _;simp only [Nat.add_sub_cancel];rw [u2.1,u1.1]
 rcases hcn 0 (by omega) with ⟨t,ht⟩ | h0
 ·have t1:=cnab 0 t ht
  have r:=run 0 (by omega) ⟨t,ht⟩
  have hsa : spl (C 0) a = t:=by unfold spl;rw [t1.1,if_neg (by omega)]
  have hsb : spl (C 0) b = t:=by unfold spl;rw [t1.2.1,if_neg (by omega)]
  have hr : ((E2 (fun i=>sgr (pv (C i) a)) 1).1 : Int) = ((E2 (fun i=>sgr (pv (C i) b)) 1).1 : Int):=by
   simp only [E2,t1.1,t1.2.1]
  exact ⟨by rw [hsa];exact t1.2.2,fun _=>⟨by have : 0 + 1 = 1:=rfl;rw [this] at r;omega,hsb.trans hsa.symm⟩,fun hn=>absurd (t1.2.1.trans hsa.symm) hn⟩
 ·have hK : 1 ≤ K:=by
   cases K with
   | zero =>
    obtain ⟨t,ht⟩:=htop
    have := h0 a Rat.le_refl (by grind)
    have := h.top a ha
    grind
   | succ K=>omega
  have hmn : ∃ t,Mn (C 0) a b t:=by
   have hbw : (b - a) * bw (C 0) R < ε:=by
    have : (b - a) * bw (C 0) R ≤ (b - a) * L:=Rat.mul_le_mul_of_nonneg_left h.bwL (by grind)
    grind
   rcases A8Q (f:=C 0) (g:=C 1) (ε:=ε) (hS.der hK) (Rat.le_of_lt hab) ha hb (h.sep 0 (by omega)) (hl 0 (by omega)) (hl 1 hK) hbw with ⟨t,ht⟩ | h1
   ·have t1:=cnab 0 t ht
    have := h0 a Rat.le_refl (by grind)
    have h5:=h.sep 0 (by omega) a ha
    rcases hcn 1 hK with ⟨u,hu⟩ | h6
    ·-- the derivative keeps its sign
     refine ⟨u,hu.1,fun y h7 h8=>by rw [← hS.der hK];exact hu.2 y h7 h8,fun y z h7 h8 h9=>?_⟩
     have hy:=P3 ha hb h7 (show y ≤ b by grind)
     have hz:=P3 ha hb (show a ≤ z by grind) h9
     have i1:=hu.2 y h7 (by grind)
     have i2 : ε ≤ mg (pv (C 1) y):=by
      rcases h.sep 0 (by omega) y hy with i3 | i3
      ·have := h0 y h7 (by grind);grind
      ·exact i3
     have i3:=A5Z y z (C 0)
     have i4 : mg ((z - y) * dw (C 0) y z) ≤ mg (z - y) * bw (C 0) R:=X7 Rat.le_refl (A6M hy hz (C 0))
     have i5 : mg (z - y) ≤ b - a:=by rw [A0n];grind
     have i6 : mg (z - y) * bw (C 0) R ≤ (b - a) * bw (C 0) R:=Rat.mul_le_mul_of_nonneg_right i5 (A3O hR (C 0))
     rw [← hS.der hK y] at i3
     have i7 : sgr (dq (C 0) y z) = u:=by
      have i8 : mg (dq (C 0) y z - pv (C 1) y) < mg (pv (C 1) y):=by rw [i3];grind
      rcases hu.1 with rfl | rfl
      ·rw [N2] at i1 ⊢;unfold mg at i8;grind
      ·rw [N4] at i1 ⊢;unfold mg at i8;grind
     rw [A2H]
     rcases hu.1 with rfl | rfl
     ·rw [N2] at i7 ⊢;exact Rat.mul_pos (by grind) i7
     ·rw [N4] at i7 ⊢
      have := Rat.mul_pos (show 0 < z - y by grind) (show 0 < -dq (C 0) y z by grind)
      grind
    ·have := h6 a Rat.le_refl (by grind)
     grind
   ·exact h1
  obtain ⟨t,ht,hdt,hmt⟩:=hmn
  have c1 : Cn (C 1) a b t:=⟨ht,fun y h1 h2=>by rw [hS.der hK];exact hdt y h1 h2⟩
  have t1:=cnab 1 t c1
  have r:=run 1 hK ⟨t,c1⟩
  have hm:=hmt a b Rat.le_refl hab Rat.le_refl
  have hda:=hdt a Rat.le_refl (by grind)
  have hdb:=hdt b (by grind) Rat.le_refl
  have val : ∀ x,sgr (pv (C 1) x) = t → ((E2 (fun i=>sgr (pv (C i) x)) (1 + 1)).1 : Int) = if sgr (pv (C 0) x) = -t then 1 else 0:=fun x hx=>by
   simp only [E2,hx]
   rcases R9 (pv (C 0) x) with h1 | h1 | h1 <;> rcases ht with rfl | rfl <;> simp [h1]
  rw [val a t1.1,val b t1.2.1] at r
  have hspa : spl (C 0) a = if sgr (pv (C 0) a) = 0 then t else sgr (pv (C 0) a):=by unfold spl;rw [hda]
  have hspb : spl (C 0) b = if sgr (pv (C 0) b) = 0 then t else sgr (pv (C 0) b):=by unfold spl;rw [hdb]
  have mono : (sgr (pv (C 0) a) ≠ -t → sgr (pv (C 0) b) = t):=by
   intro h1
   rcases ht with rfl | rfl
   ·rw [N2] at hm ⊢
    rcases R9 (pv (C 0) a) with h2 | h2 | h2
    ·rw [N2] at h2;grind
    ·exact absurd h2 h1
    ·rw [N1] at h2;grind
   ·rw [N4] at hm ⊢
    rcases R9 (pv (C 0) a) with h2 | h2 | h2
    ·exact absurd h2 h1
    ·rw [N4] at h2;grind
    ·rw [N1] at h2;grind
  have hA:=R9 (pv (C 0) a)
  have hB:=R9 (pv (C 0) b)
  refine ⟨by rw [hspa];split <;> omega,fun e=>?_,fun e=>?_⟩
  ·rw [hspa] at e
   rw [hspa,hspb]
   generalize sgr (pv (C 0) a) = A at *
   generalize sgr (pv (C 0) b) = B at *
   constructor
   ·split at e <;> split at r <;> split at r <;> omega
   ·have hB0 : B ≠ 0:=by split at e <;> omega
    rw [if_neg hB0];exact e
  ·rw [hspa] at e
   rw [hspa,hspb]
   generalize sgr (pv (C 0) a) = A at *
   generalize sgr (pv (C 0) b) = B at *
   constructor
   ·split at e <;> split at r <;> split at r <;> omega
   ·split at e <;> split <;> omega
end Go.Proofs.YtlkniebmjdoopaaGreatDoor
