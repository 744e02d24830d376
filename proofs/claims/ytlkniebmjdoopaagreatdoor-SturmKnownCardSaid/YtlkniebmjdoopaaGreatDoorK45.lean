/- Contracts and laws. -/
import Derived.Test.YtlkniebmjdoopaaGreatDoorK43
set_option linter.unusedSimpArgs false
set_option linter.unusedVariables false
namespace Go.Proofs.YtlkniebmjdoopaaGreatDoor
def Xz (x : Rat) (D : Nat) : Prop:=∃ u v : Int,v ≠ 0 ∧ u.natAbs < 2 ^ D ∧ v.natAbs < 2 ^ D ∧ x * (v : Rat) = (u : Rat)
def Spn (lo hi : Rat) (D : Nat) : Prop:=∃ v u1 u2 : Int,v ≠ 0 ∧ v.natAbs < 2 ^ D ∧ u1.natAbs < 2 ^ D ∧ u2.natAbs < 2 ^ D ∧ lo * (v : Rat) = (u1 : Rat) ∧ hi * (v : Rat) = (u2 : Rat)
theorem Spn.lo {lo hi : Rat} {D : Nat} (h : Spn lo hi D) : Xz lo D:=by
 obtain ⟨v,u1,u2,h0,h1,h2,h3,h4,h5⟩:=h
 exact ⟨u1,v,h0,h2,h1,h4⟩
theorem Spn.hi {lo hi : Rat} {D : Nat} (h : Spn lo hi D) : Xz hi D:=by
 obtain ⟨v,u1,u2,h0,h1,h2,h3,h4,h5⟩:=h
 exact ⟨u2,v,h0,h3,h1,h5⟩
theorem A0G {a D E : Nat} (h : a < 2 ^ D) (hle : D ≤ E) : a < 2 ^ E:=Nat.lt_of_lt_of_le h (Nat.pow_le_pow_right (by omega) hle)
theorem Xz.mono {x : Rat} {D E : Nat} (h : Xz x D) (hle : D ≤ E) : Xz x E:=by
 obtain ⟨u,v,h0,h1,h2,h3⟩:=h
 exact ⟨u,v,h0,A0G h1 hle,A0G h2 hle,h3⟩
theorem Spn.mono {lo hi : Rat} {D E : Nat} (h : Spn lo hi D) (hle : D ≤ E) : Spn lo hi E:=by
 obtain ⟨v,u1,u2,h0,h1,h2,h3,h4,h5⟩:=h
 exact ⟨v,u1,u2,h0,A0G h1 hle,A0G h2 hle,A0G h3 hle,h4,h5⟩
theorem Xz.qs {x : Rat} {D : Nat} (h : Xz x D) : Go.Proofs.YtlkniebmjdoopaaGreatDoor.qs x ≤ D:=by
 obtain ⟨u,v,h0,h1,h2,h3⟩:=h
 exact A59 h0 h2 h3 h1
theorem Spn.of {lo hi : Rat} {D E : Nat} (h1 : Xz lo D) (h2 : Xz hi E) : Spn lo hi (D + E):=by
 obtain ⟨u,v,a0,a1,a2,a3⟩:=h1
 obtain ⟨p,q,b0,b1,b2,b3⟩:=h2
 refine ⟨v * q,u * q,p * v,Int.mul_ne_zero a0 b0,?_,?_,?_,?_,?_⟩
 ·rw [Int.natAbs_mul];exact A0Q a2 b2
 ·rw [Int.natAbs_mul];exact A0Q a1 b2
 ·rw [Int.natAbs_mul,Nat.add_comm];exact A0Q b1 a2
 ·rw [Rat.intCast_mul,Rat.intCast_mul,← a3];grind
 ·rw [Rat.intCast_mul,Rat.intCast_mul,← b3];grind
theorem Spn.mid {lo hi : Rat} {D : Nat} (h : Spn lo hi D) : Spn lo (D6 lo hi) (D + 1) ∧ Spn (D6 lo hi) hi (D + 1):=by
 obtain ⟨v,u1,u2,h0,h1,h2,h3,h4,h5⟩:=h
 have e2 : 2 ^ (D + 1) = 2 * 2 ^ D:=by rw [Nat.pow_succ];omega
 have em : D6 lo hi * ((2 * v : Int) : Rat) = ((u1 + u2 : Int) : Rat):=by
  rw [A7o,Rat.intCast_mul,Rat.intCast_add,← h4,← h5,show ((2 : Int) : Rat) = 2 from rfl];grind
 have el : lo * ((2 * v : Int) : Rat) = ((2 * u1 : Int) : Rat):=by
  rw [Rat.intCast_mul,Rat.intCast_mul,← h4];grind
 have eh : hi * ((2 * v : Int) : Rat) = ((2 * u2 : Int) : Rat):=by
  rw [Rat.intCast_mul,Rat.intCast_mul,← h5];grind
 exact ⟨⟨2 * v,2 * u1,u1 + u2,by omega,by omega,by omega,by omega,el,em⟩,⟨2 * v,u1 + u2,2 * u2,by omega,by omega,by omega,by omega,em,eh⟩⟩
theorem B2B {l : List Rat} {x : Rat} {Z D : Nat} (hl : Czl l Z) (hx : Xz x D) (i : Nat) : qs (O3 l x i) ≤ Z + i * (D + 1):=by
 obtain ⟨d,d0,dz,hd⟩:=hl
 obtain ⟨u,v,v0,uz,vz,hv⟩:=hx
 have hvp : ∀ i : Nat,(v ^ i).natAbs ≤ 2 ^ (i * D):=A5I vz
 have key : ∀ i : Nat,∃ H : Int,O3 l x i * ((d * v ^ i : Int) : Rat) = (H : Rat) ∧ H.natAbs < 2 ^ (Z + i * (D + 1)):=by
  intro i
  induction i with
  | zero=>exact ⟨0,by rw [O3,Rat.intCast_zero];grind,Nat.two_pow_pos _⟩
  | succ i ih =>
   obtain ⟨H,h1,h2⟩:=ih
   obtain ⟨G,h3,h4⟩:=hd (l.length - 1 - i)
   refine ⟨H * u + G * v ^ (i + 1),?_,?_⟩
   ·show (O3 l x i * x + gq l (l.length - 1 - i)) * _ = _
    simp only [Rat.intCast_add,Rat.intCast_mul,Int.pow_succ] at h1 ⊢
    rw [← h1,← h3,← hv]
    grind
   ·have e1 : (H * u).natAbs < 2 ^ (Z + i * (D + 1) + D):=by rw [Int.natAbs_mul];exact A0Q h2 uz
    have e2 : (G * v ^ (i + 1)).natAbs < 2 ^ (Z + (i + 1) * D):=by
     rw [Int.natAbs_mul,Nat.pow_add]
     have h5 : 0 < (v ^ (i + 1)).natAbs:=Int.natAbs_pos.2 (Int.pow_ne_zero v0)
     exact Nat.lt_of_lt_of_le (Nat.mul_lt_mul_of_pos_right h4 h5) (Nat.mul_le_mul_left _ (hvp (i + 1)))
    have e3:=A0G e2 (show Z + (i + 1) * D ≤ Z + i * (D + 1) + D by rw [Nat.succ_mul,Nat.mul_succ];omega)
    have e4:=A6Q e1 e3
    rw [show Z + (i + 1) * (D + 1) = Z + i * (D + 1) + D + 1 by rw [Nat.succ_mul];omega]
    omega
 obtain ⟨H,h1,h2⟩:=key i
 refine A59 (Int.mul_ne_zero d0 (Int.pow_ne_zero v0)) ?_ h1 h2
 rw [Int.natAbs_mul]
 have h5 : 0 < (v ^ i).natAbs:=Int.natAbs_pos.2 (Int.pow_ne_zero v0)
 have h6 : d.natAbs * (v ^ i).natAbs < 2 ^ (Z + i * D):=by
  rw [Nat.pow_add]
  exact Nat.lt_of_lt_of_le (Nat.mul_lt_mul_of_pos_right dz h5) (Nat.mul_le_mul_left _ (hvp i))
 exact A0G h6 (by have := Nat.mul_le_mul_left i (show D ≤ D + 1 by omega);omega)
theorem A4M {l : List Rat} {x : Rat} {Z D n : Nat} (hl : Czl l Z) (hx : Xz x D) (hn : l.length ≤ n) (hn2 : n ≤ 1000) (hB : 8 * (Z + D + n * (D + 1)) + 10 ≤ BIG) : T3 l x:=by
 refine ⟨by omega,Z + D + n * (D + 1),fun y hy=>Nat.le_trans (G9 hl y hy) (by omega),Nat.le_trans hx.qs (by omega),fun i hi=>?_,hB⟩
 have h1:=B2B hl hx i
 have h2:=Nat.mul_le_mul_right (D + 1) (Nat.le_trans hi hn)
 omega
def p2 (n : Nat) : Rat:=((2 ^ n : Nat) : Rat)
theorem M0 (a b : Nat) : p2 (a + b) = p2 a * p2 b:=by unfold p2;rw [Nat.pow_add,Rat.natCast_mul]
theorem Z0 {a b : Nat} (h : a ≤ b) : p2 a ≤ p2 b:=by
 unfold p2;rw [Rat.natCast_le_natCast];exact Nat.pow_le_pow_right (by omega) h
theorem O2 (a : Nat) : 0 < p2 a:=by
 unfold p2
 exact Rat.natCast_pos.2 (Nat.two_pow_pos _)
theorem A4R : p2 0 = 1:=rfl
theorem A0F : p2 1 = 2:=rfl
theorem A2h (a : Nat) : 1 ≤ p2 a:=by rw [← A4R];exact Z0 (by omega)
theorem A54 (t : Nat) : ∀ k : Nat,p2 t ^ k = p2 (k * t)
 | 0=>by rw [Rat.pow_zero,Nat.zero_mul,A4R]
 | k + 1=>by rw [Rat.pow_succ,A54 t k,Nat.succ_mul,M0]
theorem A1L {m : Int} {Z : Nat} (h : m.natAbs < 2 ^ Z) : mg (m : Rat) ≤ p2 Z:=by
 rw [A0n]
 unfold p2
 rw [← Rat.intCast_natCast,← Rat.intCast_neg,Rat.intCast_le_intCast,Rat.intCast_le_intCast]
 have : ((2 ^ Z : Nat) : Int) = (2 ^ Z : Nat):=rfl
 constructor <;> omega
theorem A1Y {d : Int} (h : d ≠ 0) : 1 ≤ mg (d : Rat):=by
 have : (1 : Rat) ≤ (d : Rat) ∨ (1 : Rat) ≤ -(d : Rat):=by
  rw [← Rat.intCast_neg,show (1 : Rat) = ((1 : Int) : Rat) from rfl,Rat.intCast_le_intCast,Rat.intCast_le_intCast]
  omega
 unfold mg;grind
theorem A6a {l : List Rat} {Z : Nat} (h : Czl l Z) (i : Nat) : mg (gq l i) ≤ p2 Z:=by
 obtain ⟨d,d0,dz,hd⟩:=h
 obtain ⟨m,h1,h2⟩:=hd i
 have h3:=A1L h2
 rw [← h1,A0E] at h3
 have h4:=Rat.mul_le_mul_of_nonneg_left (A1Y d0) (I2 (gq l i))
 grind
theorem B6y {l : List Rat} {Z : Nat} (h : Czl l Z) {i : Nat} (hi : gq l i ≠ 0) : 1 ≤ mg (gq l i) * p2 Z:=by
 obtain ⟨d,d0,dz,hd⟩:=h
 obtain ⟨m,h1,h2⟩:=hd i
 have hm : m ≠ 0:=fun e=>by
  rw [e] at h1
  rcases Rat.mul_eq_zero.1 (h1.trans rfl) with h | h
  ·exact hi h
  ·exact X5 d0 h
 have h3:=A1Y hm
 rw [← h1,A0E] at h3
 have h4:=Rat.mul_le_mul_of_nonneg_left (A1L dz) (I2 (gq l i))
 grind
theorem A3l {Z : Nat} (ρ : Nat) : ∀ {l : List Rat},(∀ i,mg (gq l i) ≤ p2 Z) → bp l (p2 ρ) ≤ p2 (Z + l.length * (ρ + 1)) ∧ bq l (p2 ρ) ≤ p2 (Z + l.length * (ρ + 2)) ∧ bw l (p2 ρ) ≤ p2 (Z + l.length * (ρ + 2))
 | [],_=>by
  have h1:=O2 (Z + ([] : List Rat).length * (ρ + 1))
  have h2:=O2 (Z + ([] : List Rat).length * (ρ + 2))
  simp only [bp,bq,bw]
  exact ⟨by grind,by grind,by grind⟩
 | a :: l,h=>by
  obtain ⟨h1,h2,h3⟩:=A3l ρ (l:=l) fun i=>h (i + 1)
  have h0 : mg a ≤ p2 Z:=h 0
  have hρ:=O2 ρ
  have hρ1:=A2h ρ
  have g1 : p2 ρ * bp l (p2 ρ) ≤ p2 ρ * p2 (Z + l.length * (ρ + 1)):=Rat.mul_le_mul_of_nonneg_left h1 (by grind)
  have g2 : p2 ρ * bq l (p2 ρ) ≤ p2 ρ * p2 (Z + l.length * (ρ + 2)):=Rat.mul_le_mul_of_nonneg_left h2 (by grind)
  have g3 : p2 ρ * bw l (p2 ρ) ≤ p2 ρ * p2 (Z + l.length * (ρ + 2)):=Rat.mul_le_mul_of_nonneg_left h3 (by grind)
  rw [← M0] at g1 g2 g3
  have e1 : p2 (Z + (a :: l).length * (ρ + 1)) = 2 * p2 (ρ + (Z + l.length * (ρ + 1))):=by
   rw [show Z + (a :: l).length * (ρ + 1) = 1 + (ρ + (Z + l.length * (ρ + 1))) by rw [List.length_cons,Nat.succ_mul];omega,M0,A0F]
  have e2 : p2 (Z + (a :: l).length * (ρ + 2)) = 4 * p2 (ρ + (Z + l.length * (ρ + 2))):=by
   rw [show Z + (a :: l).length * (ρ + 2) = 1 + (1 + (ρ + (Z + l.length * (ρ + 2)))) by rw [List.length_cons,Nat.succ_mul];omega,M0,M0,A0F];grind
  have m1 : p2 Z ≤ p2 (ρ + (Z + l.length * (ρ + 1))):=Z0 (by omega)
  have m2 : p2 (Z + l.length * (ρ + 1)) ≤ p2 (ρ + (Z + l.length * (ρ + 2))):=Z0 (by have := Nat.mul_le_mul_left l.length (show ρ + 1 ≤ ρ + 2 by omega);omega)
  have m3 : p2 (Z + l.length * (ρ + 2)) ≤ p2 (ρ + (Z + l.length * (ρ + 2))):=Z0 (by omega)
  have m4:=O2 (ρ + (Z + l.length * (ρ + 2)))
  rw [e1,e2]
  simp only [bp,bq,bw]
  exact ⟨by grind,by grind,by grind⟩
theorem B3Z {f : List Rat} {Z n ρ : Nat} (hf : Trm f) (hq : Sqf f) (hK : cK (fun r=>r) f ≤ n) (hZq : ∀ i,i < cK (fun r=>r) f → Czl (B7 (cC (fun r=>r) f i) (cC (fun r=>r) f (i + 1))).1 Z ∧ (B7 (cC (fun r=>r) f i) (cC (fun r=>r) f (i + 1))).1.length ≤ n) (hZl : Czl (cC (fun r=>r) f (cK (fun r=>r) f)) Z) :
  ∀ x,mg x ≤ p2 ρ → 1 ≤ mg (pv f x) * p2 (Z + n * (Z + n * (ρ + 1) + 1)) ∨ 1 ≤ mg (pv (D2 f) x) * p2 (Z + n * (Z + n * (ρ + 1) + 1)):=by
 intro x hx
 have hS:=A58 A0u hf hq
 obtain ⟨c,hc,hlast⟩:=hS.last
 have hκ : 1 ≤ mg c * p2 Z:=by
  have h0 : gq (cC (fun r=>r) f (cK (fun r=>r) f)) 0 ≠ 0:=fun e=>hc (by
   rw [← hlast 0]
   have : ∀ l : List Rat,pv l 0 = gq l 0:=fun l=>by
    cases l with
    | nil=>rfl
    | cons a l=>simp only [pv,A27];grind
   rw [this,e])
  have h1:=B6y hZl h0
  have : ∀ l : List Rat,pv l 0 = gq l 0:=fun l=>by
   cases l with
   | nil=>rfl
   | cons a l=>simp only [pv,A27];grind
  rw [← this,hlast] at h1
  exact h1
 by_cases hK0 : cK (fun r=>r) f = 0
 ·left
  rw [hK0] at hlast
  rw [show pv f x = c from hlast x,M0]
  have h2:=A2h (n * (Z + n * (ρ + 1) + 1))
  have h3:=Rat.mul_le_mul_of_nonneg_left h2 (show (0 : Rat) ≤ mg c * p2 Z by grind)
  grind
 have ht : ∀ i,i + 2 ≤ cK (fun r=>r) f → ∃ (q : List Rat) (β : Rat),0 < β ∧ (∀ x,mg x ≤ p2 ρ → 1 + mg (pv q x) ≤ p2 (Z + n * (ρ + 1) + 1) * β) ∧ ∀ x,pv (cC (fun r=>r) f i) x = pv q x * pv (cC (fun r=>r) f (i + 1)) x - β * pv (cC (fun r=>r) f (i + 2)) x:=fun i hi=>by
  obtain ⟨z1,z2⟩:=hZq i (by omega)
  have hz:=(A2o A0u hf).2 i (by omega)
  have hd:=A2f (cC (fun r=>r) f i) (cC (fun r=>r) f (i + 1)) (by rw [E5 (A14 A0u hf (i + 1))];exact hz)
  refine ⟨(B7 (cC (fun r=>r) f i) (cC (fun r=>r) f (i + 1))).1,1,by grind,fun y hy=>?_,fun y=>?_⟩
  ·have h1:=A09 hy (B7 (cC (fun r=>r) f i) (cC (fun r=>r) f (i + 1))).1
   have h2:=(A3l ρ (l:=(B7 (cC (fun r=>r) f i) (cC (fun r=>r) f (i + 1))).1) (A6a z1)).1
   have h3 : p2 (Z + (B7 (cC (fun r=>r) f i) (cC (fun r=>r) f (i + 1))).1.length * (ρ + 1)) ≤ p2 (Z + n * (ρ + 1)):=Z0 (by have := Nat.mul_le_mul_right (ρ + 1) z2;omega)
   have h4:=A2h (Z + n * (ρ + 1))
   rw [M0,A0F]
   grind
  ·rw [A1R,A5X,hd];grind
 have hT : 1 ≤ p2 (Z + n * (ρ + 1) + 1):=A2h _
 have hmc : 0 < mg c:=by unfold mg;grind
 have h:=A9Q (C:=cC (fun r=>r) f) (K:=cK (fun r=>r) f) hT hmc ht (fun y _=>by rw [hlast];exact Rat.le_refl) 0 (by omega) x hx
 rw [A54] at h
 have hP:=O2 (cK (fun r=>r) f * (Z + n * (ρ + 1) + 1))
 have e : mg c / p2 (cK (fun r=>r) f * (Z + n * (ρ + 1) + 1)) * p2 (cK (fun r=>r) f * (Z + n * (ρ + 1) + 1)) = mg c:=Rat.div_mul_cancel (by grind)
 have hfin : ∀ y : Rat,mg c / p2 (cK (fun r=>r) f * (Z + n * (ρ + 1) + 1)) ≤ mg y → 1 ≤ mg y * p2 (Z + n * (Z + n * (ρ + 1) + 1)):=fun y hy=>by
  have h1:=Rat.mul_le_mul_of_nonneg_right hy (Rat.le_of_lt hP)
  rw [e] at h1
  have h2:=Rat.mul_le_mul_of_nonneg_right h1 (Rat.le_of_lt (O2 Z))
  have h3 : p2 (cK (fun r=>r) f * (Z + n * (ρ + 1) + 1)) * p2 Z ≤ p2 (Z + n * (Z + n * (ρ + 1) + 1)):=by
   rw [← M0]
   exact Z0 (by have := Nat.mul_le_mul_right (Z + n * (ρ + 1) + 1) hK;omega)
  have h4:=Rat.mul_le_mul_of_nonneg_left h3 (I2 y)
  grind
 rcases h with h | h
 ·exact .inl (hfin _ h)
 ·exact .inr (hfin _ h)
theorem B3z {f : List Rat} {E Z ρ : Nat} (hZ : Czl f Z) (hZ' : Czl (D2 f) Z) (hsep : ∀ x,mg x ≤ p2 ρ → 1 ≤ mg (pv f x) * p2 E ∨ 1 ≤ mg (pv (D2 f) x) * p2 E) {n : Nat} (hn : f.length ≤ n) {a b : Rat} (ha : mg a ≤ p2 ρ) (hb : mg b ≤ p2 ρ) (hab : a < b) (hd : (b - a) * p2 (E + Z + n * (ρ + 2)) < 1) : (∃ t,Cn f a b t) ∨ ∃ t,Mn f a b t:=by
 have hE:=O2 E
 have e : 1 / p2 E * p2 E = 1:=Rat.div_mul_cancel (by grind)
 have hε : ∀ y : Rat,1 ≤ mg y * p2 E → 1 / p2 E ≤ mg y:=fun y hy=>by
  by_cases h : 1 / p2 E ≤ mg y
  ·exact h
  ·have := Rat.mul_lt_mul_of_pos_right (Rat.not_le.1 h) hE
   rw [e] at this
   grind
 have hB : ∀ v : Rat,0 ≤ v → v ≤ p2 (Z + n * (ρ + 2)) → (b - a) * v < 1 / p2 E:=fun v hv0 hv=>by
  by_cases h : (b - a) * v < 1 / p2 E
  ·exact h
  ·exfalso
   have h1:=Rat.mul_le_mul_of_nonneg_right (Rat.not_lt.1 h) (Rat.le_of_lt hE)
   rw [e] at h1
   have h2 : (b - a) * v ≤ (b - a) * p2 (Z + n * (ρ + 2)):=Rat.mul_le_mul_of_nonneg_left hv (by grind)
   have h3:=Rat.mul_le_mul_of_nonneg_right h2 (Rat.le_of_lt hE)
   rw [show E + Z + n * (ρ + 2) = (Z + n * (ρ + 2)) + E by omega,M0] at hd
   grind
 have hle : ∀ l : List Rat,l.length ≤ n → p2 (Z + l.length * (ρ + 2)) ≤ p2 (Z + n * (ρ + 2)):=fun l hl=>Z0 (by have := Nat.mul_le_mul_right (ρ + 2) hl;omega)
 have hρ : 0 ≤ p2 ρ:=Rat.le_of_lt (O2 ρ)
 have hdl : (D2 f).length ≤ n:=by have := A3U f;have := G4 f;omega
 obtain ⟨-,b1,b2⟩:=A3l ρ (A6a hZ)
 obtain ⟨-,b3,-⟩:=A3l ρ (A6a hZ')
 exact A8Q (g:=D2 f) (ε:=1 / p2 E) (A18 f) (Rat.le_of_lt hab) ha hb (fun x hx=>(hsep x hx).imp (hε _) (hε _)) (hB _ (A0t hρ f) (Rat.le_trans b1 (hle f hn))) (hB _ (A0t hρ _) (Rat.le_trans b3 (hle _ hdl))) (hB _ (A3O hρ f) (Rat.le_trans b2 (hle f hn)))
theorem A5q : ∀ (p q : List Rat) (i : Nat),gq (E3 p q) i = gq p i + gq q i
 | [],q,i=>by rw [E3,O9 (l:=[]) (by simp)];grind
 | a :: l,[],i=>by rw [E3,O9 (l:=[]) (by simp)];grind
 | a :: l,b :: m,0=>rfl
 | a :: l,b :: m,i + 1=>by rw [E3,A1E,A1E,A1E,A5q l m i]
theorem A7i {l m : List Rat} (h : ∀ x,pv l x = pv m x) (i : Nat) : gq l i = gq m i:=by
 have h1:=A2n (l:=K7 l m) fun x=>by rw [Y3,h x];grind
 have h2 : gq (K7 l m) i = 0:=by
  by_cases hi : i < (K7 l m).length
  ·exact h1 _ (A39 hi)
  ·exact O9 (by omega)
 unfold K7 at h2
 rw [A5q,A2b] at h2
 grind
theorem Czl.congr {l m : List Rat} {Z : Nat} (h : Czl l Z) (he : ∀ x,pv l x = pv m x) : Czl m Z:=by
 obtain ⟨d,d0,dz,hd⟩:=h
 exact ⟨d,d0,dz,A7N hd (A7i he)⟩
theorem A5e {a b c : List Rat} (h : ∀ x,pv c x = pv a x * pv b x) (hc : Nz c) : Nz a ∧ Nz b:=by
 obtain ⟨x,hx⟩:=hc
 rw [h] at hx
 exact ⟨⟨x,fun e=>hx (by rw [e];grind)⟩,⟨x,fun e=>hx (by rw [e];grind)⟩⟩
theorem B57 {a b : List Rat} (ha : Mon a) (hb : Mon b) : ∃ t,Mon t ∧ t.length + 1 = a.length + b.length ∧ ∀ x,pv t x = pv a x * pv b x:=by
 obtain ⟨t,h1,h2,h3⟩:=A6B ha.1 hb.1 ha.tr hb.tr
 obtain ⟨a1,a2⟩:=ha
 obtain ⟨b1,b2⟩:=hb
 have la:=List.length_pos_iff.2 a1
 have lb:=List.length_pos_iff.2 b1
 have ht : t ≠ []:=fun e=>by rw [e] at h2;simp at h2;omega
 refine ⟨t,⟨ht,?_⟩,h2,h3⟩
 have key : ∀ (a b : List Rat),a ≠ [] → b ≠ [] → gq (B8 a b) (a.length + b.length - 2) = gq a (a.length - 1) * gq b (b.length - 1):=by
  intro a
  induction a with
  | nil=>intro b h;exact absurd rfl h
  | cons a0 l ih =>
   intro b _ hb
   have lb:=List.length_pos_iff.2 hb
   rw [B8,A5q,A2b]
   by_cases hl : l = []
   ·subst hl
    have e1 : ([a0] : List Rat).length + b.length - 2 = b.length - 1:=by simp;omega
    rw [e1]
    have e2 : gq (0 :: B8 [] b) (b.length - 1) = 0:=by
     by_cases h : b.length - 1 = 0
     ·rw [h];rfl
     ·exact O9 (by simp [B8];omega)
    rw [e2]
    show a0 * gq b (b.length - 1) + 0 = a0 * gq b (b.length - 1)
    grind
   ·have ll:=List.length_pos_iff.2 hl
    have e1 : (a0 :: l).length + b.length - 2 = (l.length + b.length - 2) + 1:=by simp;omega
    rw [e1,A1E,ih b hl hb,O9 (l:=b) (by omega)]
    have e2 : (a0 :: l).length - 1 = (l.length - 1) + 1:=by simp;omega
    rw [e2,A1E]
    grind
 rw [A1s ht,A7i (m:=B8 a b) (fun x=>by rw [h3,E4]),show t.length - 1 = a.length + b.length - 2 by omega,key a b a1 b1,← A1s a1,← A1s b1,a2,b2]
 grind
def Sm (a : List Rat) (S : Nat) : Prop:=Nz a ∧ ∀ f,Mon f → Dv f a → Czl f S
theorem Dv.len {f a : List Rat} (hf : Mon f) (ha : Nz a) (h : Dv f a) : f.length ≤ trN a:=by
 obtain ⟨u,hu⟩:=h
 obtain ⟨-,hun⟩:=A5e hu ha
 obtain ⟨j,hj⟩:=Y2 hun
 have hl:=List.length_pos_iff.2 hf.1
 have h1 : Dg f (f.length - 1 + 1):=⟨f,hf.tr,by omega,fun x=>rfl⟩
 have h2:=X3 (Z5 a) (A06 h1 hj) fun x=>by rw [hu,E4]
 omega
theorem B45 {S : Nat} (h : 1 ≤ S) : Czl [1] S:=by
 have h2 : 1 < 2 ^ S:=Nat.one_lt_two_pow (by omega)
 refine ⟨1,by omega,by simpa using h2,fun i=>?_⟩
 cases i with
 | zero=>exact ⟨1,by rw [A27,Rat.intCast_one];grind,by simpa using h2⟩
 | succ i=>exact ⟨0,by rw [A1E,O9 (by simp),Rat.intCast_zero];grind,by simp;omega⟩
theorem A87 {r : Rat} {D : Nat} (h : Xz r D) : Czl [-r,1] D:=by
 obtain ⟨u,v,v0,h1,h2,h3⟩:=h
 refine ⟨v,v0,h2,fun i=>?_⟩
 match i with
 | 0=>exact ⟨-u,by rw [A27,Rat.intCast_neg,← h3];grind,by rw [Int.natAbs_neg];exact h1⟩
 | 1=>exact ⟨v,by rw [A1E,A27];grind,h2⟩
 | i + 2=>exact ⟨0,by rw [O9 (by simp),Rat.intCast_zero];grind,Nat.two_pow_pos _⟩
theorem B6t {f : List Rat} (h : Mon f) (hl : f.length ≤ 1) : f = [1]:=by
 obtain ⟨h1,h2⟩:=h
 have := List.length_pos_iff.2 h1
 obtain ⟨a,rfl⟩:=List.length_eq_one_iff.1 (show f.length = 1 by omega)
 rw [List.getLast_singleton] at h2
 rw [h2]
theorem A8U {f : List Rat} (h : Mon f) (hl : f.length = 2) : ∃ r,f = [-r,1]:=by
 obtain ⟨h1,h2⟩:=h
 match f,hl with
 | [a,b],_ =>
  refine ⟨-a,?_⟩
  have : b = 1:=h2
  rw [this];simp
theorem A2W (r x : Rat) : pv [-r,1] x = x - r:=by simp only [pv];grind
theorem B12 (r : Rat) : Nz [-r,1]:=⟨r + 1,by rw [A2W];grind⟩
theorem B0e (r : Rat) : Mon [-r,1]:=⟨by simp,rfl⟩
theorem A9B (r : Rat) : trN [-r,1] = 2:=by rw [E5 (B0e r).tr];rfl
theorem A8l {M : Rat} (hM : 0 ≤ M) : ∀ (l : List Rat) (hne : l ≠ []),(∀ b ∈ l,mg b ≤ M * mg (l.getLast hne)) ∨ l.length = 1 → ∀ x,1 + M ≤ mg x → mg (l.getLast hne) ≤ mg (pv l x)
 | [],h,_,_,_=>absurd rfl h
 | [a],_,_,x,_=>by rw [R0];exact Rat.le_refl
 | a :: b :: l,_,h,x,hx=>by
  rcases h with h | h
  ·have hl : (a :: b :: l).getLast (by simp) = (b :: l).getLast (by simp):=List.getLast_cons (by simp)
   rw [hl] at h ⊢
   have ih:=A8l hM (b :: l) (by simp) (.inl fun c hc=>h c (List.mem_cons_of_mem _ hc)) x hx
   have h1:=h a List.mem_cons_self
   generalize (b :: l).getLast _ = t at *
   have h2 : (1 + M) * mg t ≤ mg x * mg (pv (b :: l) x):=by
    have g1:=Rat.mul_le_mul_of_nonneg_right hx (I2 t)
    have g2:=Rat.mul_le_mul_of_nonneg_left ih (I2 x)
    grind
   rw [← A0E] at h2
   have h3:=A1o (pv (a :: b :: l) x) (-a)
   rw [B0E] at h3
   have h4 : pv (a :: b :: l) x + -a = x * pv (b :: l) x:=by rw [pv];grind
   rw [h4] at h3
   grind
  ·simp at h
theorem A7w {u v : Int} {ρ : Rat} (hv : ρ * (v : Rat) = (u : Rat)) : ∀ (l : List Rat) (hne : l ≠ []),(∀ a ∈ l,∃ m : Int,a = (m : Rat)) → ∃ (N k : Int),l.getLast hne = (N : Rat) ∧ pv l ρ * ((v ^ (l.length - 1) : Int) : Rat) = ((N * u ^ (l.length - 1) + v * k : Int) : Rat)
 | [],h,_=>absurd rfl h
 | [a],_,h=>by
  obtain ⟨m,hm⟩:=h a List.mem_cons_self
  refine ⟨m,0,hm,?_⟩
  rw [R0,hm]
  simp
 | a :: b :: l,_,h=>by
  obtain ⟨m,hm⟩:=h a List.mem_cons_self
  obtain ⟨N,k,h1,h2⟩:=A7w hv (b :: l) (by simp) fun c hc=>h c (List.mem_cons_of_mem _ hc)
  refine ⟨N,u * k + m * v ^ (b :: l).length.pred,by rw [List.getLast_cons (by simp)];exact h1,?_⟩
  have e : (a :: b :: l).length - 1 = (b :: l).length - 1 + 1:=by simp
  have e2 : (b :: l).length.pred = (b :: l).length - 1:=rfl
  rw [e,e2,pv,hm]
  generalize (b :: l).length - 1 = n at *
  rw [Int.pow_succ,Int.pow_succ,Rat.intCast_mul]
  have h3 : ((m : Rat) + ρ * pv (b :: l) ρ) * (((v ^ n : Int) : Rat) * (v : Rat)) = (m : Rat) * ((v ^ n : Int) : Rat) * (v : Rat) + (ρ * (v : Rat)) * (pv (b :: l) ρ * ((v ^ n : Int) : Rat)):=by grind
  rw [h3,h2,hv]
  simp only [Rat.intCast_add,Rat.intCast_mul]
  grind
theorem B6L {m : Int} {E : Nat} (h : mg (m : Rat) < p2 E) : m.natAbs < 2 ^ E:=by
 rw [B2v] at h
 unfold p2 at h
 rw [← Rat.intCast_natCast,← Rat.intCast_neg,Rat.intCast_lt_intCast,Rat.intCast_lt_intCast] at h
 omega
theorem A6l {c : List Rat} {Z : Nat} (hc : Czl c Z) {ρ : Rat} (hn : Nz c) (h0 : pv c ρ = 0) : Xz ρ (2 * Z + 1):=by
 obtain ⟨d,d0,dz,hd⟩:=Z7 hc
 have hT:=P0.1 hn
 have hne : trL c ≠ []:=fun e=>hT (by rw [← F4,e];rfl)
 have hne2 : psc (d : Rat) (trL c) ≠ []:=by unfold psc;simp [hne]
 have hpv : pv (psc (d : Rat) (trL c)) ρ = 0:=by rw [F1,R2,h0];grind
 have hint : ∀ a ∈ psc (d : Rat) (trL c),∃ m : Int,a = (m : Rat) ∧ m.natAbs < 2 ^ Z:=fun a ha=>by
  obtain ⟨i,hi,e⟩:=List.getElem_of_mem ha
  obtain ⟨m,h1,h2⟩:=hd i
  refine ⟨m,?_,h2⟩
  have h3:=A0J hi
  rw [List.getElem?_eq_getElem hi,e] at h3
  rw [Option.some.inj h3,A2b,← h1];grind
 have hv : ρ * (((ρ.den : Int)) : Rat) = (ρ.num : Rat):=by
  have h1 : ρ = (ρ.num : Rat) / ((ρ.den : Int) : Rat):=by
   have h2:=Rat.mkRat_self ρ
   rw [Rat.mkRat_eq_div] at h2
   exact h2.symm
  have h2 : ((ρ.den : Int)) ≠ 0:=by have := ρ.den_nz;omega
  have h3 : (ρ.num : Rat) / ((ρ.den : Int) : Rat) * ((ρ.den : Int) : Rat) = (ρ.num : Rat):=Rat.div_mul_cancel (X5 h2)
  rw [← h1] at h3
  exact h3
 obtain ⟨N,k,h1,h2⟩:=A7w hv _ hne2 fun a ha=>(hint a ha).imp fun m hm=>hm.1
 rw [hpv] at h2
 obtain ⟨N',h3,h4⟩:=hint _ (List.getLast_mem hne2)
 have hNN : N = N':=Rat.intCast_inj.1 (h1.symm.trans h3)
 subst hNN
 have hN0 : N ≠ 0:=fun e=>by
  have := A2R (X5 d0) (Z9 c) hne2
  rw [h1,e] at this
  exact this rfl
 have hdvd : ((ρ.den : Int)) ∣ N * ρ.num ^ ((psc (d : Rat) (trL c)).length - 1):=by
  have h5 : (N * ρ.num ^ ((psc (d : Rat) (trL c)).length - 1) + (ρ.den : Int) * k : Int) = 0:=Rat.intCast_inj.1 (by rw [← h2,Rat.intCast_zero];grind)
  exact ⟨-k,by rw [Int.mul_neg];omega⟩
 have hden : ρ.den ∣ N.natAbs:=by
  have h6:=Int.natAbs_dvd_natAbs.2 hdvd
  rw [Int.natAbs_mul,Int.natAbs_pow,Int.natAbs_natCast] at h6
  exact (Nat.Coprime.pow_right _ ρ.reduced.symm).dvd_of_dvd_mul_right h6
 have hdz : ρ.den < 2 ^ Z:=Nat.lt_of_le_of_lt (Nat.le_of_dvd (Int.natAbs_pos.2 hN0) hden) h4
 have hlt : mg ρ < 1 + p2 Z:=by
  by_cases h : mg ρ < 1 + p2 Z
  ·exact h
  ·exfalso
   have hN1:=A1Y hN0
   have h7:=A8l (Rat.le_of_lt (O2 Z)) _ hne2 (.inl fun b hb=>by
    obtain ⟨m,h8,h9⟩:=hint b hb
    rw [h1,h8]
    have h10:=A1L h9
    have h11:=Rat.mul_le_mul_of_nonneg_left hN1 (Rat.le_of_lt (O2 Z))
    grind) ρ (Rat.not_lt.1 h)
   rw [hpv,h1] at h7
   have : mg 0 = 0:=rfl
   grind
 have hden0 : ((ρ.den : Int)) ≠ 0:=by have := ρ.den_nz;omega
 refine ⟨ρ.num,ρ.den,hden0,?_,by rw [Int.natAbs_natCast];exact A0G hdz (by omega),hv⟩
 refine B6L ?_
 rw [← hv,A0E,show 2 * Z + 1 = Z + 1 + Z by omega,M0]
 have g1 : mg ρ < p2 (Z + 1):=by rw [M0,A0F];have := A2h Z;grind
 have g2 : mg (((ρ.den : Int)) : Rat) ≤ p2 Z:=A1L (by rw [Int.natAbs_natCast];exact hdz)
 have g3:=Rat.mul_lt_mul_of_pos_right g1 (show 0 < mg (((ρ.den : Int)) : Rat) by have := A1Y hden0;grind)
 have g4:=Rat.mul_le_mul_of_nonneg_left g2 (Rat.le_of_lt (O2 (Z + 1)))
 grind
theorem A9n {c : List Rat} {Z : Nat} (hc : Czl c Z) (hn : Nz c) (hl : trN c ≤ 4) (hZ : 1 ≤ Z) : Sm c (7 * Z + 6):=by
 refine ⟨hn,fun f hf hd=>?_⟩
 have hfl:=hd.len hf hn
 have hfp:=List.length_pos_iff.2 hf.1
 obtain ⟨w,hw⟩:=hd
 obtain ⟨-,hwn⟩:=A5e hw hn
 obtain ⟨j,hj⟩:=Y2 hwn
 have hfd : Dg f (f.length - 1 + 1):=⟨f,hf.tr,by omega,fun x=>rfl⟩
 have hdeg:=X3 (Z5 c) (A06 hfd hj) fun x=>by rw [hw,E4]
 by_cases h1 : f.length ≤ 1
 ·rw [B6t hf h1];exact B45 (by omega)
 by_cases h2 : f.length = 2
 ·obtain ⟨ρ,rfl⟩:=A8U hf h2
  exact (A87 (A6l hc hn (show pv c ρ = 0 by rw [hw,A2W];grind))).mono (by omega)
 by_cases h3 : j = 0
 ·subst h3
  obtain ⟨k,hk,hwk⟩:=A4C hj
  obtain ⟨k2,hk2,hm⟩:=A0V c
  have : f = E1 c:=A3t hf (X9 (P0.1 hn)) ⟨[k2 * k],fun x=>by rw [hm,hw,hwk,R0];grind⟩ ⟨[1 / (k2 * k)],fun x=>by
   have e : 1 / (k2 * k) * (k2 * k) = 1:=Rat.div_mul_cancel fun e=>(Rat.mul_eq_zero.1 e).elim hk2 hk
   rw [hm,hw,hwk,R0]
   have : k2 * (pv f x * k) * (1 / (k2 * k)) = 1 / (k2 * k) * (k2 * k) * pv f x:=by grind
   rw [this,e];grind⟩
  rw [this]
  exact (A0I hc).mono (by omega)
 ·-- the cofactor is linear
  obtain rfl : j = 1:=by omega
  obtain ⟨t,ht1,ht2,ht3⟩:=hj
  obtain ⟨k,hk,hm⟩:=A0V w
  have hmw:=X9 (P0.1 hwn)
  have hml : (E1 w).length = 2:=by rw [R7];exact X3 (Z5 w) ⟨t,ht1,ht2,ht3⟩ fun _=>rfl
  obtain ⟨ρ,hρ⟩:=A8U hmw hml
  have e1 : 1 / k * k = 1:=Rat.div_mul_cancel hk
  have hwl : ∀ x,pv w x = 1 / k * (x - ρ):=fun x=>by
   rw [← A2W,← hρ,hm,← Rat.mul_assoc,e1];grind
  have h0 : pv c ρ = 0:=by rw [hw,hwl];grind
  have hx:=A6l hc hn h0
  have hlin:=A87 hx
  have hb : trN [-ρ,1] ≠ 0:=by rw [A9B];omega
  obtain ⟨-,hq⟩:=B0L (a:=c) hb ⟨psc (1 / k) f,fun x=>by rw [hw,hwl,A2W,F1];grind⟩
  have hqc:=(V4 hc hlin hb).1
  have hqe : ∀ x,pv (B7 c [-ρ,1]).1 x = pv (psc (1 / k) f) x:=A21 (B12 ρ) fun x=>by
   have := hq x
   rw [hw,hwl] at this
   rw [A2W,F1];grind
  have hqn : Nz (B7 c [-ρ,1]).1:=by
   obtain ⟨x,hx⟩:=hf.nz
   refine ⟨x,fun e=>hx ?_⟩
   rw [hqe,F1] at e
   rcases Rat.mul_eq_zero.1 e with e | e
   ·rw [e] at e1;grind
   ·exact e
  obtain ⟨k2,hk2,hm2⟩:=A0V (B7 c [-ρ,1]).1
  have e2 : 1 / k2 * k2 = 1:=Rat.div_mul_cancel hk2
  have : f = E1 (B7 c [-ρ,1]).1:=A3t hf (X9 (P0.1 hqn)) ⟨[k2 * (1 / k)],fun x=>by rw [hm2,hqe,F1,R0];grind⟩ ⟨[k * (1 / k2)],fun x=>by
   rw [hm2,hqe,F1,R0]
   have : k2 * (1 / k * pv f x) * (k * (1 / k2)) = (1 / k2 * k2) * (1 / k * k) * pv f x:=by grind
   rw [this,e1,e2];grind⟩
  rw [this]
  refine (A0I hqc).mono ?_
  rw [A9B]
  have h5 : trN c + 1 - 2 ≤ 3:=by omega
  have h6:=Nat.mul_le_mul_right (2 * Z + 1 + 1) h5
  omega
end Go.Proofs.YtlkniebmjdoopaaGreatDoor
