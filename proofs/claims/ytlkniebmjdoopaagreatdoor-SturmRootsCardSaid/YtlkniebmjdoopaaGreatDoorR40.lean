/- Contracts and laws. -/
import Derived.Test.YtlkniebmjdoopaaGreatDoorR39
set_option linter.unusedSimpArgs false
set_option linter.unusedVariables false
namespace Go.Proofs.YtlkniebmjdoopaaGreatDoor
def Cd (l : List Rat) (d : Int) (Z : Nat) : Prop:=∀ i,∃ m : Int,gq l i * (d : Rat) = (m : Rat) ∧ m.natAbs < 2 ^ Z
def Czl (l : List Rat) (Z : Nat) : Prop:=∃ d : Int,d ≠ 0 ∧ d.natAbs < 2 ^ Z ∧ Cd l d Z
theorem Cd.mono {l : List Rat} {d : Int} {Z Y : Nat} (h : Cd l d Z) (hle : Z ≤ Y) : Cd l d Y:=fun i=>by
 obtain ⟨m,h1,h2⟩:=h i
 exact ⟨m,h1,Nat.lt_of_lt_of_le h2 (Nat.pow_le_pow_right (by omega) hle)⟩
theorem Czl.mono {l : List Rat} {Z Y : Nat} (h : Czl l Z) (hle : Z ≤ Y) : Czl l Y:=by
 obtain ⟨d,h0,h1,h2⟩:=h
 exact ⟨d,h0,Nat.lt_of_lt_of_le h1 (Nat.pow_le_pow_right (by omega) hle),h2.mono hle⟩
theorem A8q {l m : List Rat} {d : Int} {Z : Nat} (h : Cd l d Z) (he : ∀ i,gq l i = gq m i) : Cd m d Z:=fun i=>by
 rw [← he];exact h i
theorem Y4 {d : Int} (h : d ≠ 0) : (d : Rat) ≠ 0:=fun e=>h (Rat.intCast_inj.1 (e.trans rfl))
theorem A5Z {x : Rat} {d m : Int} {Z : Nat} (hd : d ≠ 0) (h1 : d.natAbs < 2 ^ Z) (h : x * (d : Rat) = (m : Rat)) (h2 : m.natAbs < 2 ^ Z) : qs x ≤ Z:=by
 have hx : x = Rat.divInt m d:=by
  rw [Rat.divInt_eq_div,← h,Rat.div_def,Rat.mul_assoc,Rat.mul_inv_cancel _ (Y4 hd)];grind
 unfold qs
 obtain ⟨k,hk,e1,e2⟩:=Rat.divInt_num_den (n':=x.num) (d':=x.den) (z':=x.den_nz) (c:=x.reduced) hd hx.symm
 have hkp : 1 ≤ k.natAbs:=Int.natAbs_pos.2 hk
 have hn : x.num.natAbs ≤ m.natAbs:=by
  rw [e1,Int.natAbs_mul];exact Nat.le_mul_of_pos_right _ hkp
 have hdn : x.den ≤ d.natAbs:=by
  rw [e2,Int.natAbs_mul];exact Nat.le_mul_of_pos_right _ hkp
 have i1 : bl x.num.natAbs ≤ Z:=K5.2 (Nat.lt_of_le_of_lt hn h2)
 have i2 : bl x.den ≤ Z:=K5.2 (Nat.lt_of_le_of_lt hdn h1)
 omega
theorem A39 {l : List Rat} {d : Int} {Z : Nat} (hd : d ≠ 0) (h1 : d.natAbs < 2 ^ Z) (h : Cd l d Z) : ∀ x ∈ l,qs x ≤ Z:=fun x hx=>by
 obtain ⟨i,hi,e⟩:=List.getElem_of_mem hx
 obtain ⟨m,h2,h3⟩:=h i
 have : gq l i = x:=by unfold gq;rw [List.getElem?_eq_getElem hi,e];rfl
 rw [this] at h2
 exact A5Z hd h1 h2 h3
theorem I9 {l : List Rat} {Z : Nat} (h : Czl l Z) : ∀ x ∈ l,qs x ≤ Z:=by
 obtain ⟨d,h0,h1,h2⟩:=h
 exact A39 h0 h1 h2
theorem T8 {a b Y Z : Nat} (h1 : a < 2 ^ Y) (h2 : b < 2 ^ Z) : a * b < 2 ^ (Y + Z):=by
 rw [Nat.pow_add]
 rcases Nat.eq_zero_or_pos b with h | h
 ·subst h;rw [Nat.mul_zero];exact Nat.mul_pos (Nat.two_pow_pos _) (Nat.two_pow_pos _)
 ·exact Nat.lt_of_lt_of_le (Nat.mul_lt_mul_of_pos_right h1 h) (Nat.mul_le_mul_left _ (Nat.le_of_lt h2))
theorem A5E {a b Y : Nat} (h1 : a < 2 ^ Y) (h2 : b < 2 ^ Y) : a + b < 2 ^ (Y + 1):=by
 rw [Nat.pow_succ];omega
theorem Cd.up {l : List Rat} {d B : Int} {Z Y : Nat} (h : Cd l d Z) (hB : B.natAbs < 2 ^ Y) : Cd l (d * B) (Z + Y):=fun i=>by
 obtain ⟨m,h1,h2⟩:=h i
 refine ⟨m * B,?_,by rw [Int.natAbs_mul];exact T8 h2 hB⟩
 rw [Rat.intCast_mul,Rat.intCast_mul,← h1];grind
theorem B6n {l : List Rat} {d : Int} {Z k : Nat} {v : Rat} (h : Cd l d Z) (hk : k < l.length) (hv : ∃ m : Int,v * (d : Rat) = (m : Rat) ∧ m.natAbs < 2 ^ Z) : Cd (l.set k v) d Z:=fun i=>by
 rw [A1H hk]
 by_cases e : i = k
 ·rw [if_pos e];exact hv
 ·rw [if_neg e];exact h i
section
variable {r b : List Rat} {d db B : Int} {Zr Zb : Nat}
theorem A7m (hr : Cd r d Zr) (hb : Cd b db Zb) (hd : d ≠ 0) (hdb : db ≠ 0) (hdbz : db.natAbs < 2 ^ Zb) (hB : gq b (b.length - 1) * (db : Rat) = (B : Rat)) (hB0 : B ≠ 0) (hBz : B.natAbs < 2 ^ Zb) (i : Nat) :
  (∃ m : Int,dvX r b i * ((d * B : Int) : Rat) = (m : Rat) ∧ m.natAbs < 2 ^ (Zr + (Zb + 1))) ∧ ∀ j,i + j ≤ r.length → Cd (J8 r b (dvX r b i) i j) (d * B) (Zr + (Zb + 1)):=by
 obtain ⟨T,hT,hTz⟩:=hr (i + b.length - 1)
 have hbt : gq b (b.length - 1) ≠ 0:=fun e=>by
  rw [e] at hB
  have : (B : Rat) = 0:=by rw [← hB];grind
  exact Y4 hB0 this
 have hq : dvX r b i * gq b (b.length - 1) = gq r (i + b.length - 1):=by
  show gq r _ / gq b _ * _ = _
  exact Rat.div_mul_cancel hbt
 have hqd : dvX r b i * ((d * B : Int) : Rat) = ((T * db : Int) : Rat):=by
  rw [Rat.intCast_mul,Rat.intCast_mul,← hB,← hT,← hq];grind
 have h0 : Cd r (d * B) (Zr + (Zb + 1)):=by
  have := hr.up hBz
  exact this.mono (by omega)
 refine ⟨⟨T * db,hqd,Nat.lt_of_lt_of_le (by rw [Int.natAbs_mul];exact T8 hTz hdbz) (Nat.pow_le_pow_right (by omega) (by omega))⟩,fun j hj=>fun m=>?_⟩
 rw [A4g r b (dvX r b i) i j hj]
 by_cases hm : i ≤ m ∧ m < i + j
 ·rw [if_pos hm]
  obtain ⟨M,hM,hMz⟩:=hr m
  obtain ⟨N,hN,hNz⟩:=hb (m - i)
  refine ⟨M * B - T * N,?_,?_⟩
  ·have e : dvX r b i * gq b (m - i) * ((d * B : Int) : Rat) = ((T * N : Int) : Rat):=by
    have : dvX r b i * gq b (m - i) * ((d * B : Int) : Rat) = (dvX r b i * ((d * B : Int) : Rat)) * gq b (m - i):=by grind
    rw [this,hqd,Rat.intCast_mul,Rat.intCast_mul,← hN];grind
   rw [Rat.intCast_sub,← e,Rat.intCast_mul,Rat.intCast_mul,← hM];grind
  ·have h1 : (M * B).natAbs < 2 ^ (Zr + Zb):=by rw [Int.natAbs_mul];exact T8 hMz hBz
   have h2 : (T * N).natAbs < 2 ^ (Zr + Zb):=by rw [Int.natAbs_mul];exact T8 hTz hNz
   have h3:=A5E h1 h2
   rw [show Zr + (Zb + 1) = Zr + Zb + 1 by omega]
   omega
 ·rw [if_neg hm]
  obtain ⟨M,h1,h2⟩:=h0 m
  exact ⟨M,by rw [← h1];grind,h2⟩
theorem A8f (hr : Cd r d Zr) (hb : Cd b db Zb) (hd : d ≠ 0) (hdb : db ≠ 0) (hdbz : db.natAbs < 2 ^ Zb) (hB : gq b (b.length - 1) * (db : Rat) = (B : Rat)) (hB0 : B ≠ 0) (hBz : B.natAbs < 2 ^ Zb) (hbl : 0 < b.length) :
  ∀ s,s ≤ dvK r b → Cd (D0 r b (dvK r b) s).1 (d * B ^ s) (Zr + s * (Zb + 1)) ∧ Cd (D0 r b (dvK r b) s).2 (d * B ^ s) (Zr + s * (Zb + 1))
 | 0,_=>by
  rw [Int.pow_zero,Int.mul_one,Nat.zero_mul]
  refine ⟨fun i=>⟨0,?_,Nat.two_pow_pos _⟩,hr⟩
  have : gq (D0 r b (dvK r b) 0).1 i = 0:=by
   show gq (List.replicate _ _) i = 0
   unfold gq
   rw [List.getElem?_replicate]
   split <;> rfl
  rw [this];grind
 | s + 1,h=>by
  obtain ⟨h1,h2⟩:=A8f hr hb hd hdb hdbz hB hB0 hBz hbl s (by omega)
  obtain ⟨l1,l2⟩:=A0f r b (dvK r b) s
  have hk : dvK r b ≤ r.length + 1 - b.length:=Nat.le_refl _
  have e1 : d * B ^ (s + 1) = d * B ^ s * B:=by rw [Int.pow_succ,Int.mul_assoc]
  have e2 : Zr + (s + 1) * (Zb + 1) = Zr + s * (Zb + 1) + (Zb + 1):=by rw [Nat.succ_mul];omega
  have hdB : d * B ^ s ≠ 0:=Int.mul_ne_zero hd (Int.pow_ne_zero hB0)
  rw [D0,e1,e2]
  simp only
  generalize (D0 r b (dvK r b) s).1 = Q at *
  generalize (D0 r b (dvK r b) s).2 = P at *
  obtain ⟨h3,h4⟩:=A7m h2 hb hdB hdb hdbz hB hB0 hBz (dvK r b - 1 - s)
  have hup : ∀ {l : List Rat},Cd l (d * B ^ s) (Zr + s * (Zb + 1)) → Cd l (d * B ^ s * B) (Zr + s * (Zb + 1) + (Zb + 1)):=fun h=>(h.up hBz).mono (by omega)
  refine ⟨B6n (hup h1) (by omega) h3,?_⟩
  split
  ·exact hup h2
  ·exact h4 _ (by omega)
end
theorem A0Q {l : List Rat} {Z : Nat} (h : Czl l Z) : Czl (trL l) Z:=by
 obtain ⟨d,h0,h1,h2⟩:=h
 exact ⟨d,h0,h1,A8q h2 fun i=>(Q8 l i).symm⟩
theorem A6c {B : Int} {Z : Nat} (h : B.natAbs < 2 ^ Z) : ∀ s,(B ^ s).natAbs ≤ 2 ^ (s * Z)
 | 0=>by rw [Int.pow_zero,Nat.zero_mul];exact Nat.le_refl _
 | s + 1=>by
  rw [Int.pow_succ,Int.natAbs_mul,Nat.succ_mul,Nat.pow_add]
  exact Nat.mul_le_mul (A6c h s) (Nat.le_of_lt h)
theorem A1I {l m : List Rat} {Zl Zm : Nat} (hl : Czl l Zl) (hm : Czl m Zm) (h0 : trN m ≠ 0) : Czl (B9 l m).1 (Zl + (trN l + 1 - trN m) * (Zm + 1)) ∧ Czl (B9 l m).2 (Zl + (trN l + 1 - trN m) * (Zm + 1)) ∧ DvZ (trL l) (trL m) (Zl + Zm + (trN l + 1 - trN m) * (Zm + 1)):=by
 obtain ⟨d,d0,dz,hd⟩:=A0Q hl
 have hm2:=A0Q hm
 obtain ⟨e,e0,ez,he⟩:=A0Q hm
 have hbl : 0 < (trL m).length:=by rw [E6];omega
 obtain ⟨B,hB,hBz⟩:=he ((trL m).length - 1)
 have htop : gq (trL m) ((trL m).length - 1) ≠ 0:=by rw [E6,Q8];exact A20 m h0
 have hB0 : B ≠ 0:=fun e1=>by
  rw [e1] at hB
  rcases Rat.mul_eq_zero.1 (hB.trans rfl) with h | h
  ·exact htop h
  ·exact Y4 e0 h
 have hK : dvK (trL l) (trL m) = trN l + 1 - trN m:=by unfold dvK;rw [E6,E6]
 have key:=A8f hd he d0 e0 ez hB hB0 hBz hbl
 have hdb : ∀ s,d * B ^ s ≠ 0:=fun s=>Int.mul_ne_zero d0 (Int.pow_ne_zero hB0)
 have hdz : ∀ s,(d * B ^ s).natAbs < 2 ^ (Zl + s * (Zm + 1)):=fun s=>by
  rw [Int.natAbs_mul,Nat.pow_add]
  have h1:=A6c hBz s
  have h2 : 2 ^ (s * Zm) ≤ 2 ^ (s * (Zm + 1)):=Nat.pow_le_pow_right (by omega) (Nat.mul_le_mul_left _ (by omega))
  have h3 : 0 < (B ^ s).natAbs:=Int.natAbs_pos.2 (Int.pow_ne_zero hB0)
  exact Nat.lt_of_lt_of_le (Nat.mul_lt_mul_of_pos_right dz h3) (Nat.mul_le_mul_left _ (Nat.le_trans h1 h2))
 have hmono : ∀ s,s ≤ dvK (trL l) (trL m) → Zl + s * (Zm + 1) ≤ Zl + Zm + (trN l + 1 - trN m) * (Zm + 1):=fun s hs=>by
  rw [hK] at hs
  have := Nat.mul_le_mul_right (Zm + 1) hs
  omega
 refine ⟨?_,?_,?_,?_,?_⟩
 ·unfold B9
  rw [← hK]
  exact A0Q ⟨_,hdb _,hdz _,(key _ (Nat.le_refl _)).1⟩
 ·unfold B9
  rw [← hK]
  exact A0Q ⟨_,hdb _,hdz _,(key _ (Nat.le_refl _)).2⟩
 ·intro x hx
  exact Nat.le_trans (I9 hm2 x hx) (by omega)
 ·intro s hs x hx
  exact Nat.le_trans (A39 (hdb s) (hdz s) (key s hs).2 x hx) (hmono s hs)
 ·intro s hs j hj x hx
  have h1:=(A7m (key s (by omega)).2 he (hdb s) e0 ez hB hB0 hBz (dvK (trL l) (trL m) - 1 - s)).2 j (by
   have := (A0f (trL l) (trL m) (dvK (trL l) (trL m)) s).2
   rw [this]
   unfold dvK at *
   omega)
  have e1 : d * B ^ s * B = d * B ^ (s + 1):=by rw [Int.pow_succ,Int.mul_assoc]
  have e2 : Zl + s * (Zm + 1) + (Zm + 1) = Zl + (s + 1) * (Zm + 1):=by rw [Nat.succ_mul];omega
  rw [e1,e2] at h1
  exact Nat.le_trans (A39 (hdb _) (hdz _) h1 x hx) (hmono (s + 1) hs)
theorem A5i {l l' : List Rat} {Z : Nat} (h : Czl l Z) (h0 : trN l ≠ 0) (k : Int) (hk : k = 1 ∨ k = -1) (hl : ∀ i,gq l' i * B6 l = (k : Rat) * gq l i) : Czl l' Z:=by
 obtain ⟨d,d0,dz,hd⟩:=h
 obtain ⟨B,hB,hBz⟩:=hd (trN l - 1)
 have ht:=S2 h0
 have hB : B6 l * (d : Rat) = (B : Rat):=hB
 have hB0 : B ≠ 0:=fun e1=>by
  rw [e1] at hB
  rcases Rat.mul_eq_zero.1 (hB.trans rfl) with h | h
  ·exact ht h
  ·exact Y4 d0 h
 refine ⟨B,hB0,hBz,fun i=>?_⟩
 obtain ⟨M,hM,hMz⟩:=hd i
 refine ⟨k * M,?_,by rw [Int.natAbs_mul];rcases hk with rfl | rfl <;> simpa using hMz⟩
 rw [Rat.intCast_mul,← hM,← hB,← Rat.mul_assoc,hl i];grind
theorem A2l {l : List Rat} {Z : Nat} (h : Czl l Z) : Czl (E8 l) Z:=by
 by_cases h0 : trN l = 0
 ·rw [A3u h0]
  exact ⟨1,by omega,by
   obtain ⟨d,d0,dz,-⟩:=h
   have : 0 < d.natAbs:=Int.natAbs_pos.2 d0
   show 1 < 2 ^ Z
   omega,fun i=>⟨0,by rw [P6 (by simp),Rat.intCast_zero];grind,Nat.two_pow_pos _⟩⟩
 ·refine A5i h h0 1 (.inl rfl) fun i=>?_
  unfold E8
  rw [if_neg h0,Q8,A4o,Q8]
  have : M0 (B1 1) (B6 l) * B6 l = 1:=Rat.div_mul_cancel (S2 h0)
  rw [Rat.mul_assoc,this,Rat.intCast_one];grind
theorem A8R {l : List Rat} {Z : Nat} (h : Czl l Z) : Czl (O9 l) Z:=by
 unfold O9
 refine A0Q (A0Q ?_)
 obtain ⟨d,d0,dz,hd⟩:=h
 refine ⟨d,d0,dz,fun i=>?_⟩
 obtain ⟨M,hM,hMz⟩:=hd i
 refine ⟨-M,?_,by rw [Int.natAbs_neg];exact hMz⟩
 rw [A4o,Rat.intCast_neg,← hM,show B1 (-1) = -1 from rfl];grind
theorem B3D {l : List Rat} {Z : Nat} (h : Czl l Z) : Czl (shL l) Z:=by
 by_cases h0 : trN l = 0
 ·have : shL l = l:=by unfold shL;rw [if_pos h0]
  rw [this];exact h
 ·have ht:=S2 h0
  have hq : I0 (B6 l) ≠ 0:=fun e2=>ht (A3V (by rw [← A0D,e2];exact Rat.le_refl))
  by_cases hp : 0 ≤ B6 l
  ·refine A5i h h0 1 (.inl rfl) fun i=>?_
   unfold shL shF
   rw [if_neg h0,A0z]
   split
   ·have e : I0 (B6 l) = B6 l:=by rw [A0D];unfold mg;rw [if_pos hp]
    have : M0 (gq l i) (I0 (B6 l)) * I0 (B6 l) = gq l i:=Rat.div_mul_cancel hq
    rw [e] at this ⊢
    rw [this,Rat.intCast_one];grind
   ·rw [A4K l (by omega)];grind
  ·refine A5i h h0 (-1) (.inr rfl) fun i=>?_
   unfold shL shF
   rw [if_neg h0,A0z]
   split
   ·have e : I0 (B6 l) = -B6 l:=by rw [A0D];unfold mg;rw [if_neg hp]
    have : M0 (gq l i) (I0 (B6 l)) * I0 (B6 l) = gq l i:=Rat.div_mul_cancel hq
    rw [e] at this ⊢
    rw [show ((-1 : Int) : Rat) = -1 from rfl]
    grind
   ·rw [A4K l (by omega)];grind
theorem A6H {l : List Rat} {Z Y : Nat} (h : Czl l Z) (hl : l.length ≤ 2 ^ Y) : Czl (D7 l) (Z + Y):=by
 unfold D7
 refine A0Q ?_
 obtain ⟨d,d0,dz,hd⟩:=h
 refine ⟨d,d0,Nat.lt_of_lt_of_le dz (Nat.pow_le_pow_right (by omega) (by omega)),fun i=>?_⟩
 unfold O0
 rw [A0z]
 split
 ·rename_i hi
  obtain ⟨M,hM,hMz⟩:=hd (i + 1)
  refine ⟨M * ((i + 1 : Nat) : Int),?_,?_⟩
  ·rw [Rat.intCast_mul,← hM]
   show gq (trL l) (i + 1) * B1 _ * _ = _
   rw [Q8]
   unfold B1
   grind
  ·rw [Int.natAbs_mul,Nat.pow_add]
   have h1 : (((i + 1 : Nat) : Int)).natAbs = i + 1:=rfl
   have h2:=H8 l
   rw [E6] at hi
   rw [h1]
   exact Nat.lt_of_lt_of_le (Nat.mul_lt_mul_of_pos_right hMz (by omega)) (Nat.mul_le_mul_left _ (by omega))
 ·exact ⟨0,by rw [Rat.intCast_zero];grind,Nat.two_pow_pos _⟩
def E5 : Nat → Nat
 | 0=>1
 | 1=>1
 | t + 2=>2 * E5 (t + 1) + E5 t
theorem A6g : ∀ t,1 ≤ E5 t
 | 0=>Nat.le_refl _
 | 1=>Nat.le_refl _
 | t + 2=>by have := A6g t;unfold E5;omega
theorem B2k (t : Nat) : E5 t ≤ E5 (t + 1):=by
 cases t with
 | zero=>exact Nat.le_refl _
 | succ t=>rw [E5];omega
theorem A1v {s t : Nat} (h : s ≤ t) : E5 s ≤ E5 t:=by
 obtain ⟨k,rfl⟩:=Nat.exists_eq_add_of_le h
 induction k with
 | zero=>exact Nat.le_refl _
 | succ k ih=>exact Nat.le_trans (ih (by omega)) (B2k _)
theorem A9X (t : Nat) : ∀ d,E5 t + (d + 2) * E5 (t + 1) ≤ E5 (t + 1 + (d + 1))
 | 0=>by rw [show t + 1 + (0 + 1) = t + 2 from rfl,E5];omega
 | d + 1=>by
  have ih:=A9X t d
  have h1 : E5 (t + 1) ≤ E5 (t + 1 + (d + 1)):=A1v (by omega)
  rw [show t + 1 + (d + 1 + 1) = (t + 1 + d) + 2 by omega,E5,show t + 1 + d + 1 = t + 1 + (d + 1) by omega]
  have e : (d + 1 + 2) * E5 (t + 1) = (d + 2) * E5 (t + 1) + E5 (t + 1):=by rw [show d + 1 + 2 = (d + 2) + 1 by omega,Nat.succ_mul]
  omega
theorem A6z {n M : Nat → Nat} {S N : Nat} (h0 : M 0 ≤ S) (h1 : M 1 ≤ S) (hd : ∀ i,i ≤ N → n (i + 1) < n i) (hM : ∀ i,i < N → M (i + 2) ≤ M i + (n i + 1 - n (i + 1)) * M (i + 1)) :
  ∀ i,i ≤ N → M (i + 1) ≤ S * E5 (n 0 - n i + 1) ∧ n i ≤ n 0
 | 0,_=>by rw [Nat.sub_self];exact ⟨by rw [show E5 (0 + 1) = 1 from rfl];show M 1 ≤ _;omega,Nat.le_refl _⟩
 | i + 1,h=>by
  obtain ⟨a1,a2⟩:=A6z h0 h1 hd hM i (by omega)
  have a3:=hd i (by omega)
  have a4:=hM i (by omega)
  refine ⟨?_,by omega⟩
  have a5 : M i ≤ S * E5 (n 0 - n i):=by
   cases i with
   | zero=>rw [Nat.sub_self,show E5 0 = 1 from rfl];omega
   | succ i =>
    obtain ⟨b1,b2⟩:=A6z h0 h1 hd hM i (by omega)
    have b3:=hd i (by omega)
    exact Nat.le_trans b1 (Nat.mul_le_mul_left _ (A1v (by omega)))
  obtain ⟨d,hdd⟩ : ∃ d,n i = n (i + 1) + d + 1:=⟨n i - n (i + 1) - 1,by omega⟩
  have a6:=A9X (n 0 - n i) d
  have a7 : S * (E5 (n 0 - n i) + (d + 2) * E5 (n 0 - n i + 1)) ≤ S * E5 (n 0 - n i + 1 + (d + 1)):=Nat.mul_le_mul_left _ a6
  rw [Nat.mul_add] at a7
  have a8 : (d + 2) * M (i + 1) ≤ S * ((d + 2) * E5 (n 0 - n i + 1)):=by
   rw [Nat.mul_left_comm];exact Nat.mul_le_mul_left _ a1
  rw [show n i + 1 - n (i + 1) = d + 2 by omega] at a4
  rw [show n 0 - n (i + 1) + 1 = n 0 - n i + 1 + (d + 1) by omega]
  show M (i + 2) ≤ _
  omega
end Go.Proofs.YtlkniebmjdoopaaGreatDoor
