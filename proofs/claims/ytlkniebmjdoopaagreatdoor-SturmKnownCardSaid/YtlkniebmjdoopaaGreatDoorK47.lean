/- Contracts and laws. -/
import Derived.Test.YtlkniebmjdoopaaGreatDoorK45
set_option linter.unusedSimpArgs false
set_option linter.unusedVariables false
namespace Go.Proofs.YtlkniebmjdoopaaGreatDoor
theorem A0U (a b : Rat) : sgr (a * b) = sgr a * sgr b:=by
 rcases R9 a with h | h | h <;> rcases R9 b with h' | h' | h' <;> rw [h,h']
 ·rw [N2] at h h'
  exact N2.2 (Rat.mul_pos h h')
 ·rw [N2] at h;rw [N4] at h'
  have := Rat.mul_pos h (show 0 < -b by grind)
  exact N4.2 (by grind)
 ·rw [N1] at h'
  rw [h'];exact N1.2 (by grind)
 ·rw [N4] at h;rw [N2] at h'
  have := Rat.mul_pos (show 0 < -a by grind) h'
  exact N4.2 (by grind)
 ·rw [N4] at h h'
  have := Rat.mul_pos (show 0 < -a by grind) (show 0 < -b by grind)
  exact N2.2 (by grind)
 ·rw [N1] at h'
  rw [h'];exact N1.2 (by grind)
 ·rw [N1] at h
  rw [h];exact N1.2 (by grind)
 ·rw [N1] at h
  rw [h];exact N1.2 (by grind)
 ·rw [N1] at h
  rw [h];exact N1.2 (by grind)
theorem B53 {u v w : List Rat} {k x : Rat} (hw : ∀ x,pv w x = k * (pv u x * pv v x)) (hk : k ≠ 0) (hc : pv u x ≠ 0 ∨ pv v x ≠ 0) : spl w x = sgr k * (spl u x * spl v x):=by
 have hd : pd w x = k * (pd u x * pv v x + pv u x * pd v x):=by
  have h1 : ∀ x,pv w x = pv (psc k (B8 u v)) x:=fun x=>by rw [hw,F1,E4]
  rw [A0a h1,A38,A0D]
 have hz : ∀ {a : Rat},a ≠ 0 → sgr a ≠ 0:=fun h e=>h (N1.1 e)
 have s0 : sgr 0 = 0:=rfl
 unfold spl
 by_cases hu : pv u x = 0
 ·have hv : pv v x ≠ 0:=by rcases hc with h | h;exact absurd hu h;exact h
  have e1 : pv w x = 0:=by rw [hw,hu];grind
  have e2 : pd w x = k * (pd u x * pv v x):=by rw [hd,hu];grind
  rw [e1,hu,if_pos s0,if_pos s0,if_neg (hz hv),e2,A0U,A0U]
 ·by_cases hv : pv v x = 0
  ·have e1 : pv w x = 0:=by rw [hw,hv];grind
   have e2 : pd w x = k * (pv u x * pd v x):=by rw [hd,hv];grind
   rw [e1,hv,if_pos s0,if_neg (hz hu),if_pos s0,e2,A0U,A0U]
  ·have e1 : sgr (pv w x) = sgr k * (sgr (pv u x) * sgr (pv v x)):=by rw [hw,A0U,A0U]
   have e2 : sgr (pv w x) ≠ 0:=by
    rw [e1]
    exact Int.mul_ne_zero (hz hk) (Int.mul_ne_zero (hz hu) (hz hv))
   rw [if_neg e2,if_neg (hz hu),if_neg (hz hv),e1]
theorem A7d {f : List Rat} {R a b : Rat} (hab : a < b) (ha : mg a ≤ R) (hb : mg b ≤ R) (h : sgr (pv f b) ≠ spl f a) : mg (pv f a) ≤ (b - a) * bq f R:=by
 rcases A3D (f:=f) (Rat.le_of_lt hab) ha hb with ⟨t,ht,hc⟩ | h1
 ·have e1:=hc b (Rat.le_of_lt hab) Rat.le_refl
  have e2:=hc a Rat.le_refl (Rat.le_of_lt hab)
  refine absurd ?_ h
  unfold spl
  rw [e1,e2,if_neg (by omega)]
 ·exact h1 a Rat.le_refl (Rat.le_of_lt hab)
theorem B1Q {C D E : Nat → List Rat} {K M N : Nat} (hC : Sturm C K) (hD : Sturm D M) (hE : Sturm E N) {k : Rat} (hk : k ≠ 0) (he : ∀ x,pv (E 0) x = k * (pv (C 0) x * pv (D 0) x)) (hc : Cop (C 0) (D 0)) {a b : Rat} (hab : a < b) : chV C K a + chV D M a + chV E N b = chV C K b + chV D M b + chV E N a:=by
 obtain ⟨s,t,hst⟩:=hc
 obtain ⟨R,hR⟩ : ∃ R,R = mg a + mg b:=⟨_,rfl⟩
 have hRa : mg a ≤ R:=by have := I2 b;grind
 have hRb : mg b ≤ R:=by have := I2 a;grind
 have hR0 : 0 ≤ R:=Rat.le_trans (I2 a) hRa
 obtain ⟨δ,hδ,hl⟩:=A2T hC R hR0
 obtain ⟨δ',hδ',hl'⟩:=A2T hD R hR0
 obtain ⟨δ'',hδ'',hl''⟩:=A2T hE R hR0
 obtain ⟨B,hB⟩ : ∃ B,B = bp s R * bq (C 0) R + bp t R * bq (D 0) R:=⟨_,rfl⟩
 have hB0 : 0 ≤ B:=by
  have h1:=Rat.mul_nonneg (A4B hR0 s) (A0t hR0 (C 0))
  have h2:=Rat.mul_nonneg (A4B hR0 t) (A0t hR0 (D 0))
  grind
 obtain ⟨η,hη,hηB⟩ : ∃ η,0 < η ∧ η * B < 1:=by
  have e : 1 / (B + 1) * (B + 1) = 1:=Rat.div_mul_cancel (by grind)
  have h0 : 0 < 1 / (B + 1):=by
   by_cases h : 0 < 1 / (B + 1)
   ·exact h
   ·have := Rat.mul_nonneg (show 0 ≤ -(1 / (B + 1)) by grind) (show 0 ≤ B + 1 by grind)
    grind
  exact ⟨1 / (B + 1),h0,by grind⟩
 refine A6T (Q:=fun a b=>chV C K a + chV D M a + chV E N b = chV C K b + chV D M b + chV E N a) (δ:=min η (min δ (min δ' δ''))) (by grind) (fun x y h1 h2 h3 h4=>?_) (fun x m y _ _ h1 h2=>by omega) hab
 have mx:=P3 hRa hRb h1 (by grind)
 have my:=P3 hRa hRb (by grind) h3
 have l1:=hl x y mx my h2 (by grind)
 have l2:=hl' x y mx my h2 (by grind)
 have l3:=hl'' x y mx my h2 (by grind)
 have hx : pv (C 0) x ≠ 0 ∨ pv (D 0) x ≠ 0:=by
  by_cases h : pv (C 0) x = 0
  ·refine .inr fun h'=>?_
   have := hst x
   rw [h,h'] at this
   grind
  ·exact .inl h
 have e1:=B53 he hk hx
 have e2 : sgr (pv (E 0) y) = sgr k * (sgr (pv (C 0) y) * sgr (pv (D 0) y)):=by rw [he,A0U,A0U]
 have hk3 : sgr k = 1 ∨ sgr k = -1:=by
  rcases R9 k with h | h | h
  ·exact .inl h
  ·exact .inr h
  ·exact absurd (N1.1 h) hk
 have n1:=l1.nz
 have n2:=l2.nz
 have s1:=R9 (pv (C 0) y)
 have s2:=R9 (pv (D 0) y)
 by_cases z1 : sgr (pv (C 0) y) = spl (C 0) x
 ·have i1:=(l1.no z1).1
  by_cases z2 : sgr (pv (D 0) y) = spl (D 0) x
  ·have i2:=(l2.no z2).1
   have i3:=(l3.no (by rw [e1,e2,z1,z2])).1
   omega
  ·have i2:=(l2.yes z2).1
   have i3:=(l3.yes (by
    rw [e1,e2,z1]
    rcases hk3 with h | h <;> rcases n1 with h' | h' <;> rcases n2 with h'' | h'' <;> rcases s2 with g | g | g <;> rw [h,h',h'',g] <;> rw [h'',g] at z2 <;> omega)).1
   omega
 ·have i1:=(l1.yes z1).1
  by_cases z2 : sgr (pv (D 0) y) = spl (D 0) x
  ·have i2:=(l2.no z2).1
   have i3:=(l3.yes (by
    rw [e1,e2,z2]
    rcases hk3 with h | h <;> rcases n1 with h' | h' <;> rcases n2 with h'' | h'' <;> rcases s1 with g | g | g <;> rw [h,h',h'',g] <;> rw [h',g] at z1 <;> omega)).1
   omega
  ·exfalso
   have q1:=A7d h2 mx my z1
   have q2:=A7d h2 mx my z2
   have q3:=hst x
   have p1:=A09 mx s
   have p2:=A09 mx t
   have r1:=X7 p1 q1
   have r2:=X7 p2 q2
   have r3:=A1o (pv s x * pv (C 0) x) (pv t x * pv (D 0) x)
   rw [q3] at r3
   have r4 : mg 1 = 1:=by decide
   have r5 : (y - x) * B ≤ η * B:=Rat.mul_le_mul_of_nonneg_right (by grind) hB0
   have r6 : bp s R * ((y - x) * bq (C 0) R) + bp t R * ((y - x) * bq (D 0) R) = (y - x) * B:=by rw [hB];grind
   rw [r4] at r3
   have r7 : (1 : Rat) ≤ (y - x) * B:=by
    rw [← r6]
    exact Rat.le_trans r3 (by
     have := Rat.add_le_add_left (c:=mg (pv s x * pv (C 0) x)) |>.2 r2
     have h2:=Rat.add_le_add_right (c:=bp t R * ((y - x) * bq (D 0) R)) |>.2 r1
     exact Rat.le_trans this h2)
   have r8:=Rat.le_trans r7 r5
   generalize η * B = z at r8 hηB
   grind
def vF (f : List Rat) (x : Rat) : Nat:=chV (cC shL f) (cK shL f) x
theorem A1N {f : List Rat} (ht : Trm f) (hs : Sqf f) : Sturm (cC shL f) (cK shL f):=A58 Y0 ht hs
theorem A7E {f : List Rat} (ht : Trm f) (hs : Sqf f) {a b : Rat} (hab : a ≤ b) : vF f b ≤ vF f a:=A36 (A1N ht hs) hab
theorem B1T {f u v : List Rat} (he : ∀ x,pv f x = pv u x * pv v x) (x : Rat) : pd f x = pd u x * pv v x + pv u x * pd v x:=by
 rw [A0a (fun y=>by rw [he y,E4] : ∀ y,pv f y = pv (B8 u v) y) x,A0D]
theorem A81 {f u v : List Rat} (hf : Sqf f) (he : ∀ x,pv f x = pv u x * pv v x) : Cop u v ∧ Sqf u ∧ Sqf v:=by
 obtain ⟨s,t,h⟩:=hf
 have h2 : ∀ x,pv s x * (pv u x * pv v x) + pv t x * (pd u x * pv v x + pv u x * pd v x) = 1:=fun x=>by
  have := h x
  rw [S8,B1T he,he] at this
  exact this
 refine ⟨⟨E3 (B8 s v) (B8 t (L8 v)),B8 t (L8 u),fun x=>?_⟩,⟨E3 (B8 s v) (B8 t (L8 v)),B8 t v,fun x=>?_⟩,⟨E3 (B8 s u) (B8 t (L8 u)),B8 t u,fun x=>?_⟩⟩
 all_goals
  have := h2 x
  simp only [I9,E4,S8]
  grind
theorem B4s {f u v : List Rat} (hf : Trm f) (hu : Trm u) (hv : Trm v) (hs : Sqf f) (he : ∀ x,pv f x = pv u x * pv v x) {a b : Rat} (hab : a < b) : vF u a + vF v a + vF f b = vF u b + vF v b + vF f a:=by
 obtain ⟨h1,h2,h3⟩:=A81 hs he
 exact B1Q (A1N hu h2) (A1N hv h3) (A1N hf hs) (k:=1) (by decide) (fun x=>by rw [A0O,A0O,A0O,he];grind) h1 hab
theorem B3J {f g : List Rat} (hf : Mon f) (hg : Mon g) (hd : Dv g f) : ∃ e,Mon e ∧ ∀ x,pv f x = pv g x * pv e x:=by
 obtain ⟨u,hu⟩:=hd
 have hn : Nz u:=(A5e (a:=u) (b:=g) (fun x=>by rw [hu];grind) hf.nz).1
 have hu0:=P0.1 hn
 obtain ⟨k,hk,he⟩:=A0V u
 obtain ⟨t,ht,-,hm⟩:=B57 hg (X9 hu0)
 have e1 : ∀ x,pv t x = k * pv f x:=fun x=>by rw [hm,he,hu];grind
 have e2 : t = f:=A3t ht hf ⟨[1 / k],fun x=>by
  have h1 : 1 / k * k = 1:=Rat.div_mul_cancel hk
  rw [R0,e1]
  have : k * pv f x * (1 / k) = (1 / k * k) * pv f x:=by grind
  rw [this,h1];grind⟩ ⟨[k],fun x=>by rw [R0,e1];grind⟩
 exact ⟨E1 u,X9 hu0,fun x=>by rw [← hm,e2]⟩
theorem B24 {f g : List Rat} (hf : Mon f) (hg : Mon g) (hs : Sqf f) (hd : Dv g f) : ∃ e,Mon e ∧ Sqf e ∧ Sqf g ∧ Cop g e ∧ (∀ x,pv f x = pv g x * pv e x) ∧ ∀ a b,a < b → vF g a + vF e a + vF f b = vF g b + vF e b + vF f a:=by
 obtain ⟨e,he,hm⟩:=B3J hf hg hd
 obtain ⟨h1,h2,h3⟩:=A81 hs hm
 exact ⟨e,he,h3,h2,h1,hm,fun a b hab=>B4s hf.tr hg.tr he.tr hs hm hab⟩
def hlf (V : Rat → Nat) (s : Rat × Rat) : Rat × Rat:=if V (D6 s.1 s.2) = V s.1 then (D6 s.1 s.2,s.2) else (s.1,D6 s.1 s.2)
def hSq (V : Rat → Nat) (s : Rat × Rat) : Nat → Rat × Rat
 | 0=>s
 | k + 1=>hlf V (hSq V s k)
structure HOk (f : List Rat) (lo hi : Rat) (k : Nat) (s : Rat × Rat) : Prop where
 lt : s.1 < s.2
 one : vF f s.1 = vF f s.2 + 1
 sd : spl f s.1 = spl f lo
 len : (s.2 - s.1) * p2 k = hi - lo
 lo : lo ≤ s.1
 hi : s.2 ≤ hi
theorem A9D {f : List Rat} (ht : Trm f) (hs : Sqf f) {a m b : Rat} (h1 : a < m) (h2 : m < b) (h : vF f a = vF f b + 1) : (sgr (pv f m) = spl f a ↔ vF f m = vF f a) ∧ (vF f m = vF f a → spl f m = spl f a) ∧ (vF f m = vF f a ∨ vF f m = vF f b):=by
 have g:=A4L (A1N ht hs) h1
 have e0 : cC shL f 0 = f:=A0O
 have l1:=A7E ht hs (Rat.le_of_lt h1)
 have l2:=A7E ht hs (Rat.le_of_lt h2)
 have hp : vF f m = vF f a → spl f m = spl f a:=fun e=>by
  have := g.par
  rw [e0,show chV (cC shL f) (cK shL f) a - chV (cC shL f) (cK shL f) m = 0 from Nat.sub_eq_zero_of_le (Nat.le_of_eq e.symm)] at this
  exact this
 refine ⟨⟨fun e=>?_,fun e=>?_⟩,hp,by omega⟩
 ·by_cases hv : vF f a = vF f m + 1
  ·have := (A33 (A1N ht hs) h1 hv).1
   rw [e0] at this
   exact absurd e this
  ·omega
 ·have := g.eq e.symm
  rw [e0] at this
  exact this
theorem B5l {f : List Rat} (ht : Trm f) (hs : Sqf f) {lo hi : Rat} {k : Nat} {s : Rat × Rat} (h : HOk f lo hi k s) : HOk f lo hi (k + 1) (hlf (vF f) s):=by
 obtain ⟨a,b⟩:=s
 obtain ⟨h1,h2,h3,h4,h5,h6⟩:=h
 simp only at h1 h2 h3 h4 h5 h6
 obtain ⟨m1,m2,m3,m4⟩:=A32 h1
 obtain ⟨-,g2,g3⟩:=A9D ht hs m1 m2 h2
 have hp : p2 (k + 1) = p2 k * 2:=by rw [M0,A0F]
 unfold hlf
 simp only
 split
 ·rename_i he
  exact ⟨m2,by rw [he];exact h2,by rw [g2 he];exact h3,by simp only;rw [hp,m4];grind,by simp only;grind,h6⟩
 ·rename_i he
  exact ⟨m1,by simp only;omega,h3,by simp only;rw [hp,m3];grind,h5,by simp only;grind⟩
theorem B1c {f : List Rat} {lo hi : Rat} (h : lo < hi) (h1 : vF f lo = vF f hi + 1) : HOk f lo hi 0 (lo,hi):=⟨h,h1,rfl,by rw [A4R];grind,Rat.le_refl,Rat.le_refl⟩
theorem A5c {f : List Rat} (ht : Trm f) (hs : Sqf f) {lo hi : Rat} (h : lo < hi) (h1 : vF f lo = vF f hi + 1) : ∀ k,HOk f lo hi k (hSq (vF f) (lo,hi) k)
 | 0=>B1c h h1
 | k + 1=>B5l ht hs (A5c ht hs h h1 k)
theorem B5w {V : Rat → Nat} {s : Rat × Rat} {D : Nat} (h : Spn s.1 s.2 D) : Spn (hlf V s).1 (hlf V s).2 (D + 1):=by
 obtain ⟨h1,h2⟩:=h.mid
 unfold hlf
 split
 ·exact h2
 ·exact h1
theorem A5U {V : Rat → Nat} {s : Rat × Rat} {D : Nat} (h : Spn s.1 s.2 D) : ∀ k,Spn (hSq V s k).1 (hSq V s k).2 (D + k)
 | 0=>h
 | k + 1=>B5w (A5U h k)
theorem A7j {P : Nat → Prop} : ∀ n,P n → ∃ K,K ≤ n ∧ P K ∧ ∀ k,k < K → ¬ P k
 | 0,h=>⟨0,Nat.le_refl _,h,fun k hk=>absurd hk (by omega)⟩
 | n + 1,h=>by
  by_cases h1 : ∃ m,m ≤ n ∧ P m
  ·obtain ⟨m,hm,h2⟩:=h1
   have hlt : m < n + 1:=by omega
   obtain ⟨K,k1,k2,k3⟩:=A7j m h2
   exact ⟨K,by omega,k2,k3⟩
  ·exact ⟨n + 1,Nat.le_refl _,h,fun k hk hp=>h1 ⟨k,by omega,hp⟩⟩
theorem B36 {x : Rat} {k e L D : Nat} (h : x * p2 k * p2 e ≤ p2 L) (hk : D + L + 1 ≤ k + e) : x * p2 D < 1:=by
 by_cases h1 : x * p2 D < 1
 ·exact h1
 ·exfalso
  have h1:=Rat.not_lt.1 h1
  have hD:=O2 D
  have hx : 0 ≤ x:=by
   by_cases h2 : 0 ≤ x
   ·exact h2
   ·have := Rat.mul_pos (show 0 < -x by grind) hD
    grind
  have h2:=Rat.mul_le_mul_of_nonneg_left (Z0 hk) hx
  rw [M0,M0,A0F,M0] at h2
  have hL:=O2 L
  have h3:=Rat.mul_le_mul_of_nonneg_right h1 (Rat.le_of_lt hL)
  generalize p2 D = d at *
  generalize p2 L = l at *
  generalize p2 k = c at *
  generalize p2 e = b at *
  have h4 : x * (d * l * 2) = x * d * l * 2:=by grind
  rw [h4] at h2
  have h5 : x * (c * b) = x * c * b:=by grind
  rw [h5] at h2
  grind
section
variable {f q fq dq eq g : List Rat} (hf : Mon f) (hsf : Sqf f) (hp : Part q fq dq eq) (hq : Mon fq) (hg : Mon g) (hgf : Dv g f) (hgq : Dv g q)
include hf hsf hgf in
theorem B5N (hg : Mon g) : Sqf g:=by
 obtain ⟨e,-,-,h,-⟩:=B24 hf hg hsf hgf
 exact h
include hf hsf hg hgf hgq in
include hf hsf hp hq in
include hf hsf hp hq hg hgf hgq in
end
theorem B2u {V : Rat → Nat} {lo hi d : Rat} {L e M : Nat} (hlt : lo < hi) (hsm : (hi - lo) * p2 e ≤ p2 L) (hd : 1 ≤ d * p2 M) (hl : ∀ k,((hSq V (lo,hi) k).2 - (hSq V (lo,hi) k).1) * p2 k = hi - lo) : ∃ K,K ≤ M + L + 1 - e ∧ ∀ k,k ≤ K → (d < (hSq V (lo,hi) k).2 - (hSq V (lo,hi) k).1 ↔ k < K):=by
 have hlast : ¬ d < (hSq V (lo,hi) (M + L + 1 - e)).2 - (hSq V (lo,hi) (M + L + 1 - e)).1:=fun hc=>by
  have h1:=B36 (x:=(hSq V (lo,hi) (M + L + 1 - e)).2 - (hSq V (lo,hi) (M + L + 1 - e)).1) (k:=M + L + 1 - e) (e:=e) (L:=L) (D:=M) (by rw [hl];exact hsm) (by omega)
  have h2:=Rat.mul_le_mul_of_nonneg_right (Rat.le_of_lt hc) (Rat.le_of_lt (O2 M))
  grind
 obtain ⟨K,k1,k2,k3⟩:=A7j (P:=fun k=>¬ d < (hSq V (lo,hi) k).2 - (hSq V (lo,hi) k).1) _ hlast
 refine ⟨K,k1,fun k hk=>⟨fun h1=>?_,fun h1=>?_⟩⟩
 ·by_cases h9 : k < K
  ·exact h9
  ·have e1 : k = K:=by omega
   rw [e1] at h1
   exact absurd h1 k2
 ·have := k3 k h1
  exact Decidable.not_not.1 this
end Go.Proofs.YtlkniebmjdoopaaGreatDoor
