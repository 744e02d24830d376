/- Contracts and laws. -/
import Derived.Test.YtlkniebmjdoopaaGreatDoorK42
set_option linter.unusedSimpArgs false
set_option linter.unusedVariables false
namespace Go.Proofs.YtlkniebmjdoopaaGreatDoor
def Cd (l : List Rat) (d : Int) (Z : Nat) : Prop:=∀ i,∃ m : Int,gq l i * (d : Rat) = (m : Rat) ∧ m.natAbs < 2 ^ Z
def Czl (l : List Rat) (Z : Nat) : Prop:=∃ d : Int,d ≠ 0 ∧ d.natAbs < 2 ^ Z ∧ Cd l d Z
theorem Cd.mono {l : List Rat} {d : Int} {Z Y : Nat} (h : Cd l d Z) (hle : Z ≤ Y) : Cd l d Y:=fun i=>by
 obtain ⟨m,h1,h2⟩:=h i
 exact ⟨m,h1,Nat.lt_of_lt_of_le h2 (Nat.pow_le_pow_right (by omega) hle)⟩
theorem Czl.mono {l : List Rat} {Z Y : Nat} (h : Czl l Z) (hle : Z ≤ Y) : Czl l Y:=by
 obtain ⟨d,h0,h1,h2⟩:=h
 exact ⟨d,h0,Nat.lt_of_lt_of_le h1 (Nat.pow_le_pow_right (by omega) hle),h2.mono hle⟩
theorem A7N {l m : List Rat} {d : Int} {Z : Nat} (h : Cd l d Z) (he : ∀ i,gq l i = gq m i) : Cd m d Z:=fun i=>by
 rw [← he];exact h i
theorem X5 {d : Int} (h : d ≠ 0) : (d : Rat) ≠ 0:=fun e=>h (Rat.intCast_inj.1 (e.trans rfl))
theorem A59 {x : Rat} {d m : Int} {Z : Nat} (hd : d ≠ 0) (h1 : d.natAbs < 2 ^ Z) (h : x * (d : Rat) = (m : Rat)) (h2 : m.natAbs < 2 ^ Z) : qs x ≤ Z:=by
 have hx : x = Rat.divInt m d:=by
  rw [Rat.divInt_eq_div,← h,Rat.div_def,Rat.mul_assoc,Rat.mul_inv_cancel _ (X5 hd)];grind
 unfold qs
 obtain ⟨k,hk,e1,e2⟩:=Rat.divInt_num_den (n':=x.num) (d':=x.den) (z':=x.den_nz) (c:=x.reduced) hd hx.symm
 have hkp : 1 ≤ k.natAbs:=Int.natAbs_pos.2 hk
 have hn : x.num.natAbs ≤ m.natAbs:=by
  rw [e1,Int.natAbs_mul];exact Nat.le_mul_of_pos_right _ hkp
 have hdn : x.den ≤ d.natAbs:=by
  rw [e2,Int.natAbs_mul];exact Nat.le_mul_of_pos_right _ hkp
 have i1 : bl x.num.natAbs ≤ Z:=J9.2 (Nat.lt_of_le_of_lt hn h2)
 have i2 : bl x.den ≤ Z:=J9.2 (Nat.lt_of_le_of_lt hdn h1)
 omega
theorem A6d {l : List Rat} {d : Int} {Z : Nat} (hd : d ≠ 0) (h1 : d.natAbs < 2 ^ Z) (h : Cd l d Z) : ∀ x ∈ l,qs x ≤ Z:=fun x hx=>by
 obtain ⟨i,hi,e⟩:=List.getElem_of_mem hx
 obtain ⟨m,h2,h3⟩:=h i
 have : gq l i = x:=by unfold gq;rw [List.getElem?_eq_getElem hi,e];rfl
 rw [this] at h2
 exact A59 hd h1 h2 h3
theorem G9 {l : List Rat} {Z : Nat} (h : Czl l Z) : ∀ x ∈ l,qs x ≤ Z:=by
 obtain ⟨d,h0,h1,h2⟩:=h
 exact A6d h0 h1 h2
theorem A0Q {a b Y Z : Nat} (h1 : a < 2 ^ Y) (h2 : b < 2 ^ Z) : a * b < 2 ^ (Y + Z):=by
 rw [Nat.pow_add]
 rcases Nat.eq_zero_or_pos b with h | h
 ·subst h;rw [Nat.mul_zero];exact Nat.mul_pos (Nat.two_pow_pos _) (Nat.two_pow_pos _)
 ·exact Nat.lt_of_lt_of_le (Nat.mul_lt_mul_of_pos_right h1 h) (Nat.mul_le_mul_left _ (Nat.le_of_lt h2))
theorem A6Q {a b Y : Nat} (h1 : a < 2 ^ Y) (h2 : b < 2 ^ Y) : a + b < 2 ^ (Y + 1):=by
 rw [Nat.pow_succ];omega
theorem Cd.up {l : List Rat} {d B : Int} {Z Y : Nat} (h : Cd l d Z) (hB : B.natAbs < 2 ^ Y) : Cd l (d * B) (Z + Y):=fun i=>by
 obtain ⟨m,h1,h2⟩:=h i
 refine ⟨m * B,?_,by rw [Int.natAbs_mul];exact A0Q h2 hB⟩
 rw [Rat.intCast_mul,Rat.intCast_mul,← h1];grind
theorem B4S {l : List Rat} {d : Int} {Z k : Nat} {v : Rat} (h : Cd l d Z) (hk : k < l.length) (hv : ∃ m : Int,v * (d : Rat) = (m : Rat) ∧ m.natAbs < 2 ^ Z) : Cd (l.set k v) d Z:=fun i=>by
 rw [A1k hk]
 by_cases e : i = k
 ·rw [if_pos e];exact hv
 ·rw [if_neg e];exact h i
section
variable {r b : List Rat} {d db B : Int} {Zr Zb : Nat}
theorem A7L (hr : Cd r d Zr) (hb : Cd b db Zb) (hd : d ≠ 0) (hdb : db ≠ 0) (hdbz : db.natAbs < 2 ^ Zb) (hB : gq b (b.length - 1) * (db : Rat) = (B : Rat)) (hB0 : B ≠ 0) (hBz : B.natAbs < 2 ^ Zb) (i : Nat) :
  (∃ m : Int,dvX r b i * ((d * B : Int) : Rat) = (m : Rat) ∧ m.natAbs < 2 ^ (Zr + (Zb + 1))) ∧ ∀ j,i + j ≤ r.length → Cd (I6 r b (dvX r b i) i j) (d * B) (Zr + (Zb + 1)):=by
 obtain ⟨T,hT,hTz⟩:=hr (i + b.length - 1)
 have hbt : gq b (b.length - 1) ≠ 0:=fun e=>by
  rw [e] at hB
  have : (B : Rat) = 0:=by rw [← hB];grind
  exact X5 hB0 this
 have hq : dvX r b i * gq b (b.length - 1) = gq r (i + b.length - 1):=by
  show gq r _ / gq b _ * _ = _
  exact Rat.div_mul_cancel hbt
 have hqd : dvX r b i * ((d * B : Int) : Rat) = ((T * db : Int) : Rat):=by
  rw [Rat.intCast_mul,Rat.intCast_mul,← hB,← hT,← hq];grind
 have h0 : Cd r (d * B) (Zr + (Zb + 1)):=by
  have := hr.up hBz
  exact this.mono (by omega)
 refine ⟨⟨T * db,hqd,Nat.lt_of_lt_of_le (by rw [Int.natAbs_mul];exact A0Q hTz hdbz) (Nat.pow_le_pow_right (by omega) (by omega))⟩,fun j hj=>fun m=>?_⟩
 rw [A3f r b (dvX r b i) i j hj]
 by_cases hm : i ≤ m ∧ m < i + j
 ·rw [if_pos hm]
  obtain ⟨M,hM,hMz⟩:=hr m
  obtain ⟨N,hN,hNz⟩:=hb (m - i)
  refine ⟨M * B - T * N,?_,?_⟩
  ·have e : dvX r b i * gq b (m - i) * ((d * B : Int) : Rat) = ((T * N : Int) : Rat):=by
    have : dvX r b i * gq b (m - i) * ((d * B : Int) : Rat) = (dvX r b i * ((d * B : Int) : Rat)) * gq b (m - i):=by grind
    rw [this,hqd,Rat.intCast_mul,Rat.intCast_mul,← hN];grind
   rw [Rat.intCast_sub,← e,Rat.intCast_mul,Rat.intCast_mul,← hM];grind
  ·have h1 : (M * B).natAbs < 2 ^ (Zr + Zb):=by rw [Int.natAbs_mul];exact A0Q hMz hBz
   have h2 : (T * N).natAbs < 2 ^ (Zr + Zb):=by rw [Int.natAbs_mul];exact A0Q hTz hNz
   have h3:=A6Q h1 h2
   rw [show Zr + (Zb + 1) = Zr + Zb + 1 by omega]
   omega
 ·rw [if_neg hm]
  obtain ⟨M,h1,h2⟩:=h0 m
  exact ⟨M,by rw [← h1];grind,h2⟩
theorem A8j (hr : Cd r d Zr) (hb : Cd b db Zb) (hd : d ≠ 0) (hdb : db ≠ 0) (hdbz : db.natAbs < 2 ^ Zb) (hB : gq b (b.length - 1) * (db : Rat) = (B : Rat)) (hB0 : B ≠ 0) (hBz : B.natAbs < 2 ^ Zb) (hbl : 0 < b.length) :
  ∀ s,s ≤ dvK r b → Cd (D0 r b (dvK r b) s).1 (d * B ^ s) (Zr + s * (Zb + 1)) ∧ Cd (D0 r b (dvK r b) s).2 (d * B ^ s) (Zr + s * (Zb + 1))
 | 0,_=>by
  rw [Int.pow_zero,Int.mul_one,Nat.zero_mul]
  refine ⟨fun i=>⟨0,?_,Nat.two_pow_pos _⟩,hr⟩
  have : gq (D0 r b (dvK r b) 0).1 i = 0:=by
   show gq (List.replicate _ _) i = 0
   unfold gq
   rw [List.getElem?_replicate]
   split <;> rfl
  rw [this];grind
 | s + 1,h=>by
  obtain ⟨h1,h2⟩:=A8j hr hb hd hdb hdbz hB hB0 hBz hbl s (by omega)
  obtain ⟨l1,l2⟩:=A0h r b (dvK r b) s
  have hk : dvK r b ≤ r.length + 1 - b.length:=Nat.le_refl _
  have e1 : d * B ^ (s + 1) = d * B ^ s * B:=by rw [Int.pow_succ,Int.mul_assoc]
  have e2 : Zr + (s + 1) * (Zb + 1) = Zr + s * (Zb + 1) + (Zb + 1):=by rw [Nat.succ_mul];omega
  have hdB : d * B ^ s ≠ 0:=Int.mul_ne_zero hd (Int.pow_ne_zero hB0)
  rw [D0,e1,e2]
  simp only
  generalize (D0 r b (dvK r b) s).1 = Q at *
  generalize (D0 r b (dvK r b) s).2 = P at *
  obtain ⟨h3,h4⟩:=A7L h2 hb hdB hdb hdbz hB hB0 hBz (dvK r b - 1 - s)
  have hup : ∀ {l : List Rat},Cd l (d * B ^ s) (Zr + s * (Zb + 1)) → Cd l (d * B ^ s * B) (Zr + s * (Zb + 1) + (Zb + 1)):=fun h=>(h.up hBz).mono (by omega)
  refine ⟨B4S (hup h1) (by omega) h3,?_⟩
  split
  ·exact hup h2
  ·exact h4 _ (by omega)
end
theorem Z7 {l : List Rat} {Z : Nat} (h : Czl l Z) : Czl (trL l) Z:=by
 obtain ⟨d,h0,h1,h2⟩:=h
 exact ⟨d,h0,h1,A7N h2 fun i=>(W4 l i).symm⟩
theorem A5I {B : Int} {Z : Nat} (h : B.natAbs < 2 ^ Z) : ∀ s,(B ^ s).natAbs ≤ 2 ^ (s * Z)
 | 0=>by rw [Int.pow_zero,Nat.zero_mul];exact Nat.le_refl _
 | s + 1=>by
  rw [Int.pow_succ,Int.natAbs_mul,Nat.succ_mul,Nat.pow_add]
  exact Nat.mul_le_mul (A5I h s) (Nat.le_of_lt h)
theorem V4 {l m : List Rat} {Zl Zm : Nat} (hl : Czl l Zl) (hm : Czl m Zm) (h0 : trN m ≠ 0) : Czl (B7 l m).1 (Zl + (trN l + 1 - trN m) * (Zm + 1)) ∧ Czl (B7 l m).2 (Zl + (trN l + 1 - trN m) * (Zm + 1)) ∧ DvZ (trL l) (trL m) (Zl + Zm + (trN l + 1 - trN m) * (Zm + 1)):=by
 obtain ⟨d,d0,dz,hd⟩:=Z7 hl
 have hm2:=Z7 hm
 obtain ⟨e,e0,ez,he⟩:=Z7 hm
 have hbl : 0 < (trL m).length:=by rw [F4];omega
 obtain ⟨B,hB,hBz⟩:=he ((trL m).length - 1)
 have htop : gq (trL m) ((trL m).length - 1) ≠ 0:=by rw [F4,W4];exact A19 m h0
 have hB0 : B ≠ 0:=fun e1=>by
  rw [e1] at hB
  rcases Rat.mul_eq_zero.1 (hB.trans rfl) with h | h
  ·exact htop h
  ·exact X5 e0 h
 have hK : dvK (trL l) (trL m) = trN l + 1 - trN m:=by unfold dvK;rw [F4,F4]
 have key:=A8j hd he d0 e0 ez hB hB0 hBz hbl
 have hdb : ∀ s,d * B ^ s ≠ 0:=fun s=>Int.mul_ne_zero d0 (Int.pow_ne_zero hB0)
 have hdz : ∀ s,(d * B ^ s).natAbs < 2 ^ (Zl + s * (Zm + 1)):=fun s=>by
  rw [Int.natAbs_mul,Nat.pow_add]
  have h1:=A5I hBz s
  have h2 : 2 ^ (s * Zm) ≤ 2 ^ (s * (Zm + 1)):=Nat.pow_le_pow_right (by omega) (Nat.mul_le_mul_left _ (by omega))
  have h3 : 0 < (B ^ s).natAbs:=Int.natAbs_pos.2 (Int.pow_ne_zero hB0)
  exact Nat.lt_of_lt_of_le (Nat.mul_lt_mul_of_pos_right dz h3) (Nat.mul_le_mul_left _ (Nat.le_trans h1 h2))
 have hmono : ∀ s,s ≤ dvK (trL l) (trL m) → Zl + s * (Zm + 1) ≤ Zl + Zm + (trN l + 1 - trN m) * (Zm + 1):=fun s hs=>by
  rw [hK] at hs
  have := Nat.mul_le_mul_right (Zm + 1) hs
  omega
 refine ⟨?_,?_,?_,?_,?_⟩
 ·unfold B7
  rw [← hK]
  exact Z7 ⟨_,hdb _,hdz _,(key _ (Nat.le_refl _)).1⟩
 ·unfold B7
  rw [← hK]
  exact Z7 ⟨_,hdb _,hdz _,(key _ (Nat.le_refl _)).2⟩
 ·intro x hx
  exact Nat.le_trans (G9 hm2 x hx) (by omega)
 ·intro s hs x hx
  exact Nat.le_trans (A6d (hdb s) (hdz s) (key s hs).2 x hx) (hmono s hs)
 ·intro s hs j hj x hx
  have h1:=(A7L (key s (by omega)).2 he (hdb s) e0 ez hB hB0 hBz (dvK (trL l) (trL m) - 1 - s)).2 j (by
   have := (A0h (trL l) (trL m) (dvK (trL l) (trL m)) s).2
   rw [this]
   unfold dvK at *
   omega)
  have e1 : d * B ^ s * B = d * B ^ (s + 1):=by rw [Int.pow_succ,Int.mul_assoc]
  have e2 : Zl + s * (Zm + 1) + (Zm + 1) = Zl + (s + 1) * (Zm + 1):=by rw [Nat.succ_mul];omega
  rw [e1,e2] at h1
  exact Nat.le_trans (A6d (hdb _) (hdz _) h1 x hx) (hmono (s + 1) hs)
theorem A4i {l l' : List Rat} {Z : Nat} (h : Czl l Z) (h0 : trN l ≠ 0) (k : Int) (hk : k = 1 ∨ k = -1) (hl : ∀ i,gq l' i * C1 l = (k : Rat) * gq l i) : Czl l' Z:=by
 obtain ⟨d,d0,dz,hd⟩:=h
 obtain ⟨B,hB,hBz⟩:=hd (trN l - 1)
 have ht:=X8 h0
 have hB : C1 l * (d : Rat) = (B : Rat):=hB
 have hB0 : B ≠ 0:=fun e1=>by
  rw [e1] at hB
  rcases Rat.mul_eq_zero.1 (hB.trans rfl) with h | h
  ·exact ht h
  ·exact X5 d0 h
 refine ⟨B,hB0,hBz,fun i=>?_⟩
 obtain ⟨M,hM,hMz⟩:=hd i
 refine ⟨k * M,?_,by rw [Int.natAbs_mul];rcases hk with rfl | rfl <;> simpa using hMz⟩
 rw [Rat.intCast_mul,← hM,← hB,← Rat.mul_assoc,hl i];grind
theorem A0I {l : List Rat} {Z : Nat} (h : Czl l Z) : Czl (E1 l) Z:=by
 by_cases h0 : trN l = 0
 ·rw [A4b h0]
  exact ⟨1,by omega,by
   obtain ⟨d,d0,dz,-⟩:=h
   have : 0 < d.natAbs:=Int.natAbs_pos.2 d0
   show 1 < 2 ^ Z
   omega,fun i=>⟨0,by rw [O9 (by simp),Rat.intCast_zero];grind,Nat.two_pow_pos _⟩⟩
 ·refine A4i h h0 1 (.inl rfl) fun i=>?_
  unfold E1
  rw [if_neg h0,W4,A34,W4]
  have : J5 (A8 1) (C1 l) * C1 l = 1:=Rat.div_mul_cancel (X8 h0)
  rw [Rat.mul_assoc,this,Rat.intCast_one];grind
theorem A7P {l : List Rat} {Z : Nat} (h : Czl l Z) : Czl (O8 l) Z:=by
 unfold O8
 refine Z7 (Z7 ?_)
 obtain ⟨d,d0,dz,hd⟩:=h
 refine ⟨d,d0,dz,fun i=>?_⟩
 obtain ⟨M,hM,hMz⟩:=hd i
 refine ⟨-M,?_,by rw [Int.natAbs_neg];exact hMz⟩
 rw [A34,Rat.intCast_neg,← hM,show A8 (-1) = -1 from rfl];grind
theorem B2x {l : List Rat} {Z : Nat} (h : Czl l Z) : Czl (shL l) Z:=by
 by_cases h0 : trN l = 0
 ·have : shL l = l:=by unfold shL;rw [if_pos h0]
  rw [this];exact h
 ·have ht:=X8 h0
  have hq : H6 (C1 l) ≠ 0:=fun e2=>ht (A44 (by rw [← A05,e2];exact Rat.le_refl))
  by_cases hp : 0 ≤ C1 l
  ·refine A4i h h0 1 (.inl rfl) fun i=>?_
   unfold shL shF
   rw [if_neg h0,A0q]
   split
   ·have e : H6 (C1 l) = C1 l:=by rw [A05];unfold mg;rw [if_pos hp]
    have : J5 (gq l i) (H6 (C1 l)) * H6 (C1 l) = gq l i:=Rat.div_mul_cancel hq
    rw [e] at this ⊢
    rw [this,Rat.intCast_one];grind
   ·rw [A3x l (by omega)];grind
  ·refine A4i h h0 (-1) (.inr rfl) fun i=>?_
   unfold shL shF
   rw [if_neg h0,A0q]
   split
   ·have e : H6 (C1 l) = -C1 l:=by rw [A05];unfold mg;rw [if_neg hp]
    have : J5 (gq l i) (H6 (C1 l)) * H6 (C1 l) = gq l i:=Rat.div_mul_cancel hq
    rw [e] at this ⊢
    rw [show ((-1 : Int) : Rat) = -1 from rfl]
    grind
   ·rw [A3x l (by omega)];grind
theorem A30 {l : List Rat} {Z Y : Nat} (h : Czl l Z) (hl : l.length ≤ 2 ^ Y) : Czl (D2 l) (Z + Y):=by
 unfold D2
 refine Z7 ?_
 obtain ⟨d,d0,dz,hd⟩:=h
 refine ⟨d,d0,Nat.lt_of_lt_of_le dz (Nat.pow_le_pow_right (by omega) (by omega)),fun i=>?_⟩
 unfold O0
 rw [A0q]
 split
 ·rename_i hi
  obtain ⟨M,hM,hMz⟩:=hd (i + 1)
  refine ⟨M * ((i + 1 : Nat) : Int),?_,?_⟩
  ·rw [Rat.intCast_mul,← hM]
   show gq (trL l) (i + 1) * A8 _ * _ = _
   rw [W4]
   unfold A8
   grind
  ·rw [Int.natAbs_mul,Nat.pow_add]
   have h1 : (((i + 1 : Nat) : Int)).natAbs = i + 1:=rfl
   have h2:=G4 l
   rw [F4] at hi
   rw [h1]
   exact Nat.lt_of_lt_of_le (Nat.mul_lt_mul_of_pos_right hMz (by omega)) (Nat.mul_le_mul_left _ (by omega))
 ·exact ⟨0,by rw [Rat.intCast_zero];grind,Nat.two_pow_pos _⟩
def C9 : Nat → Nat
 | 0=>1
 | 1=>1
 | t + 2=>2 * C9 (t + 1) + C9 t
theorem A3X : ∀ t,1 ≤ C9 t
 | 0=>Nat.le_refl _
 | 1=>Nat.le_refl _
 | t + 2=>by have := A3X t;unfold C9;omega
theorem B54 (t : Nat) : C9 t ≤ C9 (t + 1):=by
 cases t with
 | zero=>exact Nat.le_refl _
 | succ t=>rw [C9];omega
theorem A0p {s t : Nat} (h : s ≤ t) : C9 s ≤ C9 t:=by
 obtain ⟨k,rfl⟩:=Nat.exists_eq_add_of_le h
 induction k with
 | zero=>exact Nat.le_refl _
 | succ k ih=>exact Nat.le_trans (ih (by omega)) (B54 _)
theorem A7g (t : Nat) : ∀ d,C9 t + (d + 2) * C9 (t + 1) ≤ C9 (t + 1 + (d + 1))
 | 0=>by rw [show t + 1 + (0 + 1) = t + 2 from rfl,C9];omega
 | d + 1=>by
  have ih:=A7g t d
  have h1 : C9 (t + 1) ≤ C9 (t + 1 + (d + 1)):=A0p (by omega)
  rw [show t + 1 + (d + 1 + 1) = (t + 1 + d) + 2 by omega,C9,show t + 1 + d + 1 = t + 1 + (d + 1) by omega]
  have e : (d + 1 + 2) * C9 (t + 1) = (d + 2) * C9 (t + 1) + C9 (t + 1):=by rw [show d + 1 + 2 = (d + 2) + 1 by omega,Nat.succ_mul]
  omega
theorem A5f {n M : Nat → Nat} {S N : Nat} (h0 : M 0 ≤ S) (h1 : M 1 ≤ S) (hd : ∀ i,i ≤ N → n (i + 1) < n i) (hM : ∀ i,i < N → M (i + 2) ≤ M i + (n i + 1 - n (i + 1)) * M (i + 1)) :
  ∀ i,i ≤ N → M (i + 1) ≤ S * C9 (n 0 - n i + 1) ∧ n i ≤ n 0
 | 0,_=>by rw [Nat.sub_self];exact ⟨by rw [show C9 (0 + 1) = 1 from rfl];show M 1 ≤ _;omega,Nat.le_refl _⟩
 | i + 1,h=>by
  obtain ⟨a1,a2⟩:=A5f h0 h1 hd hM i (by omega)
  have a3:=hd i (by omega)
  have a4:=hM i (by omega)
  refine ⟨?_,by omega⟩
  have a5 : M i ≤ S * C9 (n 0 - n i):=by
   cases i with
   | zero=>rw [Nat.sub_self,show C9 0 = 1 from rfl];omega
   | succ i =>
    obtain ⟨b1,b2⟩:=A5f h0 h1 hd hM i (by omega)
    have b3:=hd i (by omega)
    exact Nat.le_trans b1 (Nat.mul_le_mul_left _ (A0p (by omega)))
  obtain ⟨d,hdd⟩ : ∃ d,n i = n (i + 1) + d + 1:=⟨n i - n (i + 1) - 1,by omega⟩
  have a6:=A7g (n 0 - n i) d
  have a7 : S * (C9 (n 0 - n i) + (d + 2) * C9 (n 0 - n i + 1)) ≤ S * C9 (n 0 - n i + 1 + (d + 1)):=Nat.mul_le_mul_left _ a6
  rw [Nat.mul_add] at a7
  have a8 : (d + 2) * M (i + 1) ≤ S * ((d + 2) * C9 (n 0 - n i + 1)):=by
   rw [Nat.mul_left_comm];exact Nat.mul_le_mul_left _ a1
  rw [show n i + 1 - n (i + 1) = d + 2 by omega] at a4
  rw [show n 0 - n (i + 1) + 1 = n 0 - n i + 1 + (d + 1) by omega]
  show M (i + 2) ≤ _
  omega
def A0C (f : Nat → Nat) : Nat → Nat → Nat
 | 0,i=>i
 | n + 1,i=>if f i = 0 then i else A0C f n (i + 1)
theorem A6L {f : Nat → Nat} (h : ∀ i,f i ≠ 0 → f (i + 1) < f i) : ∀ n i,f i ≤ n → f (A0C f n i) = 0 ∧ i ≤ A0C f n i ∧ ∀ j,i ≤ j → j < A0C f n i → f j ≠ 0
 | 0,i,hi=>⟨by rw [A0C];omega,Nat.le_refl _,fun j h1 h2=>by rw [A0C] at h2;omega⟩
 | n + 1,i,hi=>by
  rw [A0C]
  by_cases h0 : f i = 0
  ·rw [if_pos h0]
   exact ⟨h0,Nat.le_refl _,fun j h1 h2=>by omega⟩
  ·rw [if_neg h0]
   obtain ⟨h1,h2,h3⟩:=A6L h n (i + 1) (by have := h i h0;omega)
   refine ⟨h1,by omega,fun j h4 h5=>?_⟩
   by_cases e : j = i
   ·rw [e];exact h0
   ·exact h3 j (by omega) h5
def gS (g0 g1 : List Rat) : Nat → List Rat × List Rat
 | 0=>(g0,g1)
 | i + 1=>((gS g0 g1 i).2,E1 (B7 (gS g0 g1 i).1 (gS g0 g1 i).2).2)
def gG (g0 g1 : List Rat) (i : Nat) : List Rat:=(gS g0 g1 i).1
theorem B02 (g0 g1 : List Rat) : gG g0 g1 1 = g1:=rfl
theorem A01 (g0 g1 : List Rat) (i : Nat) : gG g0 g1 (i + 2) = E1 (B7 (gG g0 g1 i) (gG g0 g1 (i + 1))).2:=rfl
def gN (g0 g1 : List Rat) : Nat:=A0C (fun i=>(gG g0 g1 (i + 1)).length) g1.length 0
def C8 (a b : List Rat) : List Rat:=gG (E1 a) (E1 b) (gN (E1 a) (E1 b))
section
variable {g0 g1 : List Rat}
theorem A23 (h0 : Trm g0) (h1 : Trm g1) : ∀ i,Trm (gG g0 g1 i)
 | 0=>h0
 | 1=>h1
 | i + 2=>by rw [A01];exact U7 _
theorem A5r (h0 : Trm g0) (h1 : Trm g1) (i : Nat) (h : (gG g0 g1 (i + 1)).length ≠ 0) : (gG g0 g1 (i + 2)).length < (gG g0 g1 (i + 1)).length:=by
 have ht:=E5 (A23 h0 h1 (i + 1))
 rw [A01,R7,E5 (A3e _ _).2]
 have := A0m (gG g0 g1 i) (gG g0 g1 (i + 1)) (by rw [ht];exact h)
 omega
theorem A1S (h0 : Trm g0) (h1 : Trm g1) : (gG g0 g1 (gN g0 g1 + 1)).length = 0 ∧ ∀ i,i < gN g0 g1 → (gG g0 g1 (i + 1)).length ≠ 0:=by
 obtain ⟨h2,-,h3⟩:=A6L (f:=fun i=>(gG g0 g1 (i + 1)).length) (fun i h=>A5r h0 h1 i h) g1.length 0 (Nat.le_refl _)
 exact ⟨h2,fun i hi=>h3 i (by omega) hi⟩
theorem A0V (l : List Rat) : ∃ k,k ≠ 0 ∧ ∀ x,pv (E1 l) x = k * pv l x:=by
 by_cases h : trN l = 0
 ·refine ⟨1,by grind,fun x=>?_⟩
  rw [A4b h,← R2 l,List.length_eq_zero_iff.1 ((F4 l).trans h)]
  simp only [pv];grind
 ·refine ⟨1 / C1 l,fun e=>?_,A4q h⟩
  have : 1 / C1 l * C1 l = 1:=Rat.div_mul_cancel (X8 h)
  rw [e] at this;grind
theorem A9j (h0 : Trm g0) (h1 : Trm g1) : ∀ i,i ≤ gN g0 g1 → (∃ s t : List Rat,∀ x,pv (gG g0 g1 i) x = pv s x * pv g0 x + pv t x * pv g1 x) ∧ ∃ s t : List Rat,∀ x,pv (gG g0 g1 (i + 1)) x = pv s x * pv g0 x + pv t x * pv g1 x
 | 0,_=>⟨⟨[1],[],fun x=>by rw [P9];show pv g0 x = _;simp only [pv];grind⟩,⟨[],[1],fun x=>by rw [P9,B02];simp only [pv];grind⟩⟩
 | i + 1,h=>by
  obtain ⟨⟨s,t,hs⟩,u,v,hu⟩:=A9j h0 h1 i (by omega)
  refine ⟨⟨u,v,hu⟩,?_⟩
  have hz:=(A1S h0 h1).2 i (by omega)
  have hd:=A2f (gG g0 g1 i) (gG g0 g1 (i + 1)) (by rw [E5 (A23 h0 h1 (i + 1))];exact hz)
  obtain ⟨k,-,hk⟩:=A0V (B7 (gG g0 g1 i) (gG g0 g1 (i + 1))).2
  refine ⟨psc k (K7 s (B8 (B7 (gG g0 g1 i) (gG g0 g1 (i + 1))).1 u)),psc k (K7 t (B8 (B7 (gG g0 g1 i) (gG g0 g1 (i + 1))).1 v)),fun x=>?_⟩
  have h3:=hd x
  rw [A01,hk]
  rw [hs,hu] at h3
  simp only [F1,Y3,E4]
  grind
theorem A9g (h0 : Trm g0) (h1 : Trm g1) : ∀ j,j ≤ gN g0 g1 → Dv (gG g0 g1 (gN g0 g1)) (gG g0 g1 (gN g0 g1 - j)) ∧ Dv (gG g0 g1 (gN g0 g1)) (gG g0 g1 (gN g0 g1 - j + 1))
 | 0,_=>⟨Dv.refl _,[],fun x=>by
   rw [Nat.sub_zero,List.length_eq_zero_iff.1 (A1S h0 h1).1]
   simp only [pv];grind⟩
 | j + 1,h=>by
  obtain ⟨⟨u,hu⟩,v,hv⟩:=A9g h0 h1 j (by omega)
  obtain ⟨i,hi⟩ : ∃ i,gN g0 g1 - j = i + 1:=⟨gN g0 g1 - j - 1,by omega⟩
  rw [show gN g0 g1 - (j + 1) = i by omega]
  rw [hi] at hu hv
  refine ⟨?_,u,hu⟩
  have hz:=(A1S h0 h1).2 i (by omega)
  have hd:=A2f (gG g0 g1 i) (gG g0 g1 (i + 1)) (by rw [E5 (A23 h0 h1 (i + 1))];exact hz)
  obtain ⟨k,hk0,hk⟩:=A0V (B7 (gG g0 g1 i) (gG g0 g1 (i + 1))).2
  refine ⟨E3 (B8 (B7 (gG g0 g1 i) (gG g0 g1 (i + 1))).1 u) (psc (1 / k) v),fun x=>?_⟩
  have h3:=hk x
  rw [← A01,hv] at h3
  have h4 : 1 / k * k = 1:=Rat.div_mul_cancel hk0
  have h5 : pv (B7 (gG g0 g1 i) (gG g0 g1 (i + 1))).2 x = 1 / k * (pv (gG g0 g1 (gN g0 g1)) x * pv v x):=by rw [h3,← Rat.mul_assoc,h4];grind
  rw [hd,h5,hu,I9,E4,F1]
  grind
end
theorem Dv.sc {a b c : List Rat} {k : Rat} (h : Dv a b) (hk : k ≠ 0) (hb : ∀ x,pv b x = k * pv c x) : Dv a c:=by
 have : Dv a (psc k c):=h.congr fun x=>by rw [hb,F1]
 exact this.unsc hk
theorem A4E (a b : List Rat) : Dv (C8 a b) a ∧ Dv (C8 a b) b ∧ ∃ s t : List Rat,∀ x,pv (C8 a b) x = pv s x * pv a x + pv t x * pv b x:=by
 have h:=A9g (U7 a) (U7 b) _ (Nat.le_refl _)
 rw [Nat.sub_self] at h
 obtain ⟨k,hk,hk2⟩:=A0V a
 obtain ⟨j,hj,hj2⟩:=A0V b
 obtain ⟨⟨s,t,hs⟩,-⟩:=A9j (U7 a) (U7 b) _ (Nat.le_refl _)
 refine ⟨h.1.sc hk hk2,h.2.sc hj hj2,psc k s,psc j t,fun x=>?_⟩
 have := hs x
 rw [hk2,hj2] at this
 unfold C8
 rw [this,F1,F1];grind
theorem A4F {a : List Rat} (b : List Rat) (h : trN a ≠ 0) : Mon (C8 a b):=by
 unfold C8
 have hN:=(A1S (U7 a) (U7 b)).2
 generalize gN (E1 a) (E1 b) = N at *
 cases N with
 | zero=>exact X9 h
 | succ N =>
  have h1:=hN N (by omega)
  cases N with
  | zero =>
   refine X9 fun e=>h1 ?_
   show (E1 b).length = 0
   rw [R7,e]
  | succ N =>
   rw [A01] at h1 ⊢
   refine X9 fun e=>h1 ?_
   rw [R7,e]
theorem Mon.nz {l : List Rat} (h : Mon l) : Nz l:=P0.2 (by rw [E5 h.tr];exact fun e=>h.1 (List.length_eq_zero_iff.1 e))
theorem B0L {a b : List Rat} (hb : trN b ≠ 0) (h : Dv b a) : (B7 a b).2 = [] ∧ ∀ x,pv a x = pv (B7 a b).1 x * pv b x:=by
 have h1:=A2f a b hb
 have h2:=A0m a b hb
 obtain ⟨u,hu⟩:=h
 have hr : ∀ x,pv (B7 a b).2 x = pv b x * pv (K7 u (B7 a b).1) x:=fun x=>by
  have := h1 x
  rw [hu] at this
  rw [Y3];grind
 have hz : ∀ x,pv (B7 a b).2 x = 0:=by
  by_cases hn : Nz (K7 u (B7 a b).1)
  ·exfalso
   obtain ⟨n,hn⟩:=Y2 hn
   obtain ⟨m,hm⟩:=Nat.exists_eq_succ_of_ne_zero hb
   have h3:=Z5 b
   rw [hm] at h3
   have h4:=X3 (Z5 (B7 a b).2) (A06 h3 hn) fun x=>by rw [hr,E4]
   have h5:=G4 (B7 a b).2
   omega
  ·intro x
   rw [hr]
   by_cases h0 : pv (K7 u (B7 a b).1) x = 0
   ·rw [h0];grind
   ·exact absurd ⟨x,h0⟩ hn
 exact ⟨A2j (A3e a b).2 (fun h=>absurd rfl h) hz,fun x=>by rw [h1 x,hz];grind⟩
def B4 (p : List Rat) : List Rat:=E1 (B7 p (C8 p (D2 p))).1
theorem A4e {p : List Rat} (h : trN p ≠ 0) : ∃ d e,Part p (B4 p) d e ∧ Mon (B4 p):=by
 have hp : Nz p:=P0.2 h
 obtain ⟨h1,⟨e0,he0⟩,s,t,hst⟩:=A4E p (D2 p)
 have hg:=A4F (D2 p) h
 have hgn:=hg.nz
 obtain ⟨h2,h3⟩:=B0L (P0.1 hgn) h1
 have hq : trN (B7 p (C8 p (D2 p))).1 ≠ 0:=P0.1 (by
  obtain ⟨x,hx⟩:=hp
  refine ⟨x,fun e=>hx ?_⟩
  rw [h3,e];grind)
 have ht:=X8 hq
 have hm:=A4q hq
 have hc : ∀ x,pv s x * pv (B7 p (C8 p (D2 p))).1 x + pv t x * pv e0 x = 1:=fun x=>by
  have := A21 hgn (u:=E3 (B8 s (B7 p (C8 p (D2 p))).1) (B8 t e0)) (v:=[1]) (fun x=>by
   have := hst x
   rw [he0,h3] at this
   simp only [I9,E4,P9];grind) x
  simp only [I9,E4,P9] at this
  exact this
 unfold B4
 generalize (B7 p (C8 p (D2 p))).1 = q at *
 generalize C8 p (D2 p) = g at *
 generalize hk : C1 q = k at *
 have h6 : 1 / k * k = 1:=Rat.div_mul_cancel ht
 refine ⟨psc k g,psc (1 / k) e0,⟨hp,fun x=>?_,fun x=>?_,psc k s,psc k t,fun x=>?_⟩,X9 hq⟩
 ·rw [hm,F1,h3]
  have : 1 / k * pv q x * (k * pv g x) = 1 / k * k * (pv q x * pv g x):=by grind
  rw [this,h6];grind
 ·rw [← A18,he0,F1,F1]
  have : 1 / k * pv e0 x * (k * pv g x) = 1 / k * k * (pv g x * pv e0 x):=by grind
  rw [this,h6];grind
 ·rw [hm,F1,F1,F1]
  refine Eq.trans ?_ (hc x)
  have : k * pv s x * (1 / k * pv q x) + k * pv t x * (1 / k * pv e0 x) = 1 / k * k * (pv s x * pv q x + pv t x * pv e0 x):=by grind
  rw [this,h6];grind
structure Shape (sh : List Rat → List Rat) : Prop where
 tr : ∀ r,Trm r → Trm (sh r)
 len : ∀ r,Trm r → (sh r).length = r.length
 pos : ∀ r,Trm r → ∃ β,0 < β ∧ ∀ x,pv r x = β * pv (sh r) x
theorem A0u : Shape fun r=>r:=⟨fun _ h=>h,fun _ _=>rfl,fun r _=>⟨1,by grind,fun x=>by grind⟩⟩
theorem Y0 : Shape shL:=⟨fun _ h=>B6G h,fun r h=>B6P r h,fun r h=>by
 by_cases h0 : trN r = 0
 ·refine ⟨1,by grind,fun x=>?_⟩
  unfold shL
  rw [if_pos h0];grind
 ·have ht:=X8 h0
  have hq : mg (C1 r) ≠ 0:=fun e2=>ht (A44 (by rw [e2];exact Rat.le_refl))
  refine ⟨mg (C1 r),by have := I2 (C1 r);grind,fun x=>?_⟩
  rw [B1p h0]
  have : mg (C1 r) * (1 / mg (C1 r) * pv r x) = 1 / mg (C1 r) * mg (C1 r) * pv r x:=by grind
  rw [this,Rat.div_mul_cancel hq];grind⟩
def cS (sh : List Rat → List Rat) (c : List Rat) : Nat → List Rat × List Rat
 | 0=>(c,D2 c)
 | i + 1=>((cS sh c i).2,sh (O8 (B7 (cS sh c i).1 (cS sh c i).2).2))
def cC (sh : List Rat → List Rat) (c : List Rat) (i : Nat) : List Rat:=(cS sh c i).1
def cK (sh : List Rat → List Rat) (c : List Rat) : Nat:=A0C (fun i=>(cC sh c (i + 1)).length) (D2 c).length 0
def chL (sh : List Rat → List Rat) (p : List Rat) : List (List Rat):=(List.range (cK sh (B4 p) + 1)).map (cC sh (B4 p))
section
variable {sh : List Rat → List Rat} {c : List Rat}
theorem A0O : cC sh c 0 = c:=rfl
theorem A72 : cC sh c 1 = D2 c:=rfl
theorem A1R (i : Nat) : cC sh c (i + 2) = sh (O8 (B7 (cC sh c i) (cC sh c (i + 1))).2):=rfl
variable (hs : Shape sh) (hc : Trm c)
include hs hc
theorem A14 : ∀ i,Trm (cC sh c i)
 | 0=>hc
 | 1=>A61 c
 | i + 2=>by rw [A1R];exact hs.tr _ (A3z _)
omit hs hc in
theorem B0D {l : List Rat} (h : Trm l) : (O8 l).length = l.length:=by
 have h1:=X3 (Z5 (O8 l)) (⟨psc (-1) l,A2R (by grind) h,by unfold psc;rw [List.length_map],fun x=>by rw [F1,A5X];grind⟩ : Dg (O8 l) l.length) fun _=>rfl
 rw [← h1,E5 (A3z l)]
omit hc in
theorem B5p (i : Nat) : (cC sh c (i + 2)).length = (B7 (cC sh c i) (cC sh c (i + 1))).2.length:=by
 rw [A1R,hs.len _ (A3z _),B0D (A3e _ _).2]
theorem A4f (i : Nat) (h : (cC sh c (i + 1)).length ≠ 0) : (cC sh c (i + 2)).length < (cC sh c (i + 1)).length:=by
 have ht:=E5 (A14 hs hc (i + 1))
 rw [B5p hs]
 have := A0m (cC sh c i) (cC sh c (i + 1)) (by rw [ht];exact h)
 omega
theorem A2o : (cC sh c (cK sh c + 1)).length = 0 ∧ ∀ i,i < cK sh c → (cC sh c (i + 1)).length ≠ 0:=by
 obtain ⟨h2,-,h3⟩:=A6L (f:=fun i=>(cC sh c (i + 1)).length) (fun i h=>A4f hs hc i h) (D2 c).length 0 (Nat.le_refl _)
 exact ⟨h2,fun i hi=>h3 i (by omega) hi⟩
theorem A7e (i : Nat) (hi : i < cK sh c) : ∃ β,0 < β ∧ ∀ x,pv (cC sh c i) x = pv (B7 (cC sh c i) (cC sh c (i + 1))).1 x * pv (cC sh c (i + 1)) x - β * pv (cC sh c (i + 2)) x:=by
 have hz:=(A2o hs hc).2 i hi
 have hd:=A2f (cC sh c i) (cC sh c (i + 1)) (by rw [E5 (A14 hs hc (i + 1))];exact hz)
 obtain ⟨β,hβ,hb⟩:=hs.pos _ (A3z (B7 (cC sh c i) (cC sh c (i + 1))).2)
 refine ⟨β,hβ,fun x=>?_⟩
 have h1:=hb x
 rw [← A1R (sh:=sh),A5X] at h1
 rw [← h1,hd x];grind
theorem A9E : ∀ j,j ≤ cK sh c → Dv (cC sh c (cK sh c)) (cC sh c (cK sh c - j)) ∧ Dv (cC sh c (cK sh c)) (cC sh c (cK sh c - j + 1))
 | 0,_=>⟨Dv.refl _,[],fun x=>by
   rw [Nat.sub_zero,List.length_eq_zero_iff.1 (A2o hs hc).1]
   simp only [pv];grind⟩
 | j + 1,h=>by
  obtain ⟨⟨u,hu⟩,v,hv⟩:=A9E j (by omega)
  obtain ⟨i,hi⟩ : ∃ i,cK sh c - j = i + 1:=⟨cK sh c - j - 1,by omega⟩
  rw [show cK sh c - (j + 1) = i by omega]
  rw [hi] at hu hv
  refine ⟨?_,u,hu⟩
  obtain ⟨β,hβ,hb⟩:=A7e hs hc i (by omega)
  refine ⟨K7 (B8 (B7 (cC sh c i) (cC sh c (i + 1))).1 u) (psc β v),fun x=>?_⟩
  rw [hb,hv,hu,Y3,E4,F1]
  grind
theorem A58 (hq : Sqf c) : Sturm (cC sh c) (cK sh c):=by
 refine ⟨?_,fun h x=>by rw [A72,A18,A0O],fun i hi=>?_⟩
 ·have h:=A9E hs hc _ (Nat.le_refl _)
  rw [Nat.sub_self] at h
  obtain ⟨⟨u,hu⟩,v,hv⟩:=h
  obtain ⟨s,t,hst⟩:=hq
  have h1 : ∀ x,pv (cC sh c (cK sh c)) x * pv (E3 (B8 s u) (B8 t v)) x = 1:=fun x=>by
   have := hst x
   rw [S8,← A18] at this
   have e1:=hu x
   have e2:=hv x
   rw [A0O] at e1
   rw [Nat.zero_add,A72] at e2
   rw [e1,e2] at this
   simp only [I9,E4];grind
  have hn1 : Nz (cC sh c (cK sh c)):=⟨0,fun e=>by have := h1 0;rw [e] at this;grind⟩
  have hn2 : Nz (E3 (B8 s u) (B8 t v)):=⟨0,fun e=>by have := h1 0;rw [e] at this;grind⟩
  obtain ⟨i,hi⟩:=Y2 hn1
  obtain ⟨j,hj⟩:=Y2 hn2
  have h3:=X3 (A06 hi hj) (⟨[1],fun _=>by simp,by simp,fun x=>rfl⟩ : Dg [1] 1) fun x=>by rw [E4,h1,P9]
  obtain rfl : i = 0:=by omega
  exact A4C hi
 ·obtain ⟨β,hβ,hb⟩:=A7e hs hc i (by omega)
  exact ⟨_,β,hβ,hb⟩
end
theorem A7o (lo hi : Rat) : D6 lo hi = (lo + hi) / 2:=rfl
theorem A32 {lo hi : Rat} (h : lo < hi) : lo < D6 lo hi ∧ D6 lo hi < hi ∧ D6 lo hi - lo = (hi - lo) / 2 ∧ hi - D6 lo hi = (hi - lo) / 2:=by
 rw [A7o]
 refine ⟨by grind,by grind,by grind,by grind⟩
def O4 (V : Rat → Nat) : Nat → Rat → Rat → List (Rat × Rat)
 | 0,lo,hi=>if V lo = V hi then [] else [(lo,hi)]
 | d + 1,lo,hi=>if V lo = V hi then [] else if V lo = V hi + 1 then [(lo,hi)] else O4 V d lo (D6 lo hi) ++ O4 V d (D6 lo hi) hi
def Y6 (V : Rat → Nat) : Nat → Rat → Rat → Prop
 | 0,lo,hi=>V lo = V hi ∨ V lo = V hi + 1
 | d + 1,lo,hi=>V lo = V hi ∨ V lo = V hi + 1 ∨ (Y6 V d lo (D6 lo hi) ∧ Y6 V d (D6 lo hi) hi)
theorem A4z {V : Rat → Nat} {A B δ : Rat} (h1 : ∀ a b,A ≤ a → a < b → b ≤ B → V b ≤ V a) (h2 : ∀ a b,A ≤ a → a < b → b ≤ B → b - a ≤ δ → V a ≤ V b + 1) : ∀ (d : Nat) (lo hi : Rat),A ≤ lo → lo < hi → hi ≤ B → hi - lo ≤ δ * 2 ^ d → Y6 V d lo hi
 | 0,lo,hi,ha,hlt,hb,hd=>by
  rw [Rat.pow_zero] at hd
  have := h1 lo hi ha hlt hb
  have := h2 lo hi ha hlt hb (by grind)
  show _ ∨ _
  omega
 | d + 1,lo,hi,ha,hlt,hb,hd=>by
  obtain ⟨m1,m2,m3,m4⟩:=A32 hlt
  rw [Rat.pow_succ] at hd
  have l:=A4z h1 h2 d lo (D6 lo hi) ha m1 (by grind) (by grind)
  have r:=A4z h1 h2 d (D6 lo hi) hi (by grind) m2 hb (by grind)
  exact .inr (.inr ⟨l,r⟩)
def A1e (V : Rat → Nat) : List (Rat × Rat) × List (Rat × Rat) → List (Rat × Rat) × List (Rat × Rat)
 | ([],o)=>([],o)
 | ((lo,hi) :: r,o)=>if V lo = V hi then (r,o) else if V lo = V hi + 1 then (r,o ++ [(lo,hi)]) else ((lo,D6 lo hi) :: (D6 lo hi,hi) :: r,o)
theorem X6 (V : Rat → Nat) (lo hi : Rat) (r o : List (Rat × Rat)) : A1e V ((lo,hi) :: r,o) = if V lo = V hi then (r,o) else if V lo = V hi + 1 then (r,o ++ [(lo,hi)]) else ((lo,D6 lo hi) :: (D6 lo hi,hi) :: r,o):=rfl
def F7 (V : Rat → Nat) (S : List (Rat × Rat) × List (Rat × Rat)) : Nat → List (Rat × Rat) × List (Rat × Rat)
 | 0=>S
 | n + 1=>A1e V (F7 V S n)
theorem A5x (V : Rat → Nat) (S : List (Rat × Rat) × List (Rat × Rat)) (m : Nat) : ∀ n,F7 V S (m + n) = F7 V (F7 V S m) n
 | 0=>rfl
 | n + 1=>by rw [show m + (n + 1) = m + n + 1 from rfl,F7,A5x V S m n];rfl
def Z2 (V : Rat → Nat) : Nat → Rat → Rat → Nat
 | 0,_,_=>1
 | d + 1,lo,hi=>if V lo = V hi then 1 else if V lo = V hi + 1 then 1 else Z2 V d lo (D6 lo hi) + Z2 V d (D6 lo hi) hi + 1
theorem A6R (V : Rat → Nat) : ∀ (d : Nat) (lo hi : Rat),Y6 V d lo hi → ∀ r o,F7 V ((lo,hi) :: r,o) (Z2 V d lo hi) = (r,o ++ O4 V d lo hi)
 | 0,lo,hi,h,r,o=>by
  show A1e V ((lo,hi) :: r,o) = _
  rw [X6]
  unfold O4
  by_cases h0 : V lo = V hi
  ·rw [if_pos h0,if_pos h0,List.append_nil]
  ·rcases h with h | h
   ·exact absurd h h0
   ·rw [if_neg h0,if_neg h0,if_pos h]
 | d + 1,lo,hi,h,r,o=>by
  unfold Z2 O4
  by_cases h0 : V lo = V hi
  ·rw [if_pos h0,if_pos h0]
   show A1e V ((lo,hi) :: r,o) = _
   rw [X6]
   rw [if_pos h0,List.append_nil]
  ·rw [if_neg h0,if_neg h0]
   by_cases h1 : V lo = V hi + 1
   ·rw [if_pos h1,if_pos h1]
    show A1e V ((lo,hi) :: r,o) = _
    rw [X6]
    rw [if_neg h0,if_pos h1]
   ·rw [if_neg h1,if_neg h1]
    rcases h with h | h | ⟨hl,hr⟩
    ·exact absurd h h0
    ·exact absurd h h1
    ·have e1 : F7 V ((lo,hi) :: r,o) 1 = ((lo,D6 lo hi) :: (D6 lo hi,hi) :: r,o):=by
      show A1e V ((lo,hi) :: r,o) = _
      rw [X6]
      rw [if_neg h0,if_neg h1]
     rw [show Z2 V d lo (D6 lo hi) + Z2 V d (D6 lo hi) hi + 1 = 1 + Z2 V d lo (D6 lo hi) + Z2 V d (D6 lo hi) hi by omega,A5x,A5x,e1,A6R V d _ _ hl,A6R V d _ _ hr,List.append_assoc]
def A0l : Rat → List (Rat × Rat) → Prop
 | _,[]=>True
 | a,s :: l=>a ≤ s.1 ∧ s.1 < s.2 ∧ A0l s.2 l
theorem A6m {b : Rat} : ∀ {a : Rat} {l m : List (Rat × Rat)},A0l a l → (∀ s ∈ l,s.2 ≤ b) → a ≤ b → A0l b m → A0l a (l ++ m)
 | a,[],m,_,_,hab,h=>by
  cases m with
  | nil=>trivial
  | cons s m=>exact ⟨Rat.le_trans hab h.1,h.2⟩
 | a,s :: l,m,h1,h2,_,h3=>⟨h1.1,h1.2.1,A6m h1.2.2 (fun t ht=>h2 t (List.mem_cons_of_mem _ ht)) (h2 s List.mem_cons_self) h3⟩
theorem B4e {V : Rat → Nat} {A B : Rat} (h1 : ∀ a b,A ≤ a → a < b → b ≤ B → V b ≤ V a) : ∀ (d : Nat) (lo hi : Rat),A ≤ lo → lo < hi → hi ≤ B → Y6 V d lo hi →
  (O4 V d lo hi).length + V hi = V lo ∧ (∀ s ∈ O4 V d lo hi,V s.1 = V s.2 + 1 ∧ lo ≤ s.1 ∧ s.1 < s.2 ∧ s.2 ≤ hi) ∧ A0l lo (O4 V d lo hi):=by
 have one : ∀ lo hi,lo < hi → V lo = V hi + 1 → ([(lo,hi)] : List (Rat × Rat)).length + V hi = V lo ∧ (∀ s ∈ ([(lo,hi)] : List (Rat × Rat)),V s.1 = V s.2 + 1 ∧ lo ≤ s.1 ∧ s.1 < s.2 ∧ s.2 ≤ hi) ∧ A0l lo [(lo,hi)]:=fun lo hi hlt h=>by
  refine ⟨by rw [h];simp;omega,fun s hs=>?_,Rat.le_refl,hlt,trivial⟩
  obtain rfl:=List.mem_singleton.1 hs
  exact ⟨h,Rat.le_refl,hlt,Rat.le_refl⟩
 have non : ∀ lo hi,V lo = V hi → ([] : List (Rat × Rat)).length + V hi = V lo ∧ (∀ s ∈ ([] : List (Rat × Rat)),V s.1 = V s.2 + 1 ∧ lo ≤ s.1 ∧ s.1 < s.2 ∧ s.2 ≤ hi) ∧ A0l lo []:=fun lo hi h=>⟨by simp [h],(fun s hs=>by cases hs),trivial⟩
 intro d
 induction d with
 | zero =>
  intro lo hi ha hlt hb h
  unfold O4
  by_cases h0 : V lo = V hi
  ·rw [if_pos h0];exact non lo hi h0
  ·rw [if_neg h0]
   rcases h with h | h
   ·exact absurd h h0
   ·exact one lo hi hlt h
 | succ d ih =>
  intro lo hi ha hlt hb h
  unfold O4
  by_cases h0 : V lo = V hi
  ·rw [if_pos h0];exact non lo hi h0
  ·rw [if_neg h0]
   by_cases h2 : V lo = V hi + 1
   ·rw [if_pos h2];exact one lo hi hlt h2
   ·rw [if_neg h2]
    obtain ⟨m1,m2,m3,m4⟩:=A32 hlt
    rcases h with h | h | ⟨hl,hr⟩
    ·exact absurd h h0
    ·exact absurd h h2
    ·obtain ⟨a1,a2,a3⟩:=ih lo (D6 lo hi) ha m1 (by grind) hl
     obtain ⟨b1,b2,b3⟩:=ih (D6 lo hi) hi (by grind) m2 hb hr
     refine ⟨by rw [List.length_append];omega,fun s hs=>?_,A6m a3 (fun s hs=>(a2 s hs).2.2.2) (by grind) b3⟩
     rcases List.mem_append.1 hs with hs | hs
     ·obtain ⟨c1,c2,c3,c4⟩:=a2 s hs
      exact ⟨c1,c2,c3,by grind⟩
     ·obtain ⟨c1,c2,c3,c4⟩:=b2 s hs
      exact ⟨c1,by grind,c3,c4⟩
end Go.Proofs.YtlkniebmjdoopaaGreatDoor
