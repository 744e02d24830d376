/- Contracts and laws. -/
import Derived.Test.YtlkniebmjdoopaaGreatDoorR41
set_option linter.unusedSimpArgs false
set_option linter.unusedVariables false
namespace Go.Proofs.YtlkniebmjdoopaaGreatDoor
theorem A4X : ∀ (p q : List Rat) (i : Nat),gq (E4 p q) i = gq p i + gq q i
 | [],q,i=>by rw [E4,P6 (l:=[]) (by simp)];grind
 | a :: l,[],i=>by rw [E4,P6 (l:=[]) (by simp)];grind
 | a :: l,b :: m,0=>rfl
 | a :: l,b :: m,i + 1=>by rw [E4,A1W,A1W,A1W,A4X l m i]
theorem B06 {l m : List Rat} (h : ∀ x,pv l x = pv m x) (i : Nat) : gq l i = gq m i:=by
 have h1:=A22 (l:=M3 l m) fun x=>by rw [Y3,h x];grind
 have h2 : gq (M3 l m) i = 0:=by
  by_cases hi : i < (M3 l m).length
  ·exact h1 _ (A1U hi)
  ·exact P6 (by omega)
 unfold M3 at h2
 rw [A4X,A2J] at h2
 grind
theorem Czl.congr {l m : List Rat} {Z : Nat} (h : Czl l Z) (he : ∀ x,pv l x = pv m x) : Czl m Z:=by
 obtain ⟨d,d0,dz,hd⟩:=h
 exact ⟨d,d0,dz,A8q hd (B06 he)⟩
theorem A9M {a b : List Rat} {A B Y : Nat} (ha : Czl a A) (hb : Czl b B) (hl : a.length ≤ 2 ^ Y) : Czl (B7 a b) (A + B + Y):=by
 obtain ⟨d,d0,dz,hd⟩:=ha
 obtain ⟨e,e0,ez,he⟩:=hb
 have key : ∀ a : List Rat,Cd a d A → ∀ k,∃ M : Int,gq (B7 a b) k * ((d * e : Int) : Rat) = (M : Rat) ∧ M.natAbs + a.length ≤ a.length * 2 ^ (A + B):=by
  intro a
  induction a with
  | nil=>exact fun _ k=>⟨0,by rw [B7,P6 (by simp),Rat.intCast_zero];grind,by simp⟩
  | cons a0 l ih =>
   intro hd k
   obtain ⟨m0,h1,h2⟩:=hd 0
   obtain ⟨n,h3,h4⟩:=he k
   rw [A0t] at h1
   have ih:=ih fun i=>hd (i + 1)
   have hmn : (m0 * n).natAbs < 2 ^ (A + B):=by rw [Int.natAbs_mul];exact T8 h2 h4
   have hk : ∃ M : Int,gq (0 :: B7 l b) k * ((d * e : Int) : Rat) = (M : Rat) ∧ M.natAbs + l.length ≤ l.length * 2 ^ (A + B):=by
    cases k with
    | zero =>
     refine ⟨0,by rw [A0t,Rat.intCast_zero];grind,?_⟩
     have := Nat.mul_le_mul_left l.length (Nat.two_pow_pos (A + B))
     simp;omega
    | succ k=>exact ih k
   obtain ⟨M,h5,h6⟩:=hk
   refine ⟨m0 * n + M,?_,?_⟩
   ·rw [B7,A4X,A2J,Rat.intCast_add,← h5,Rat.intCast_mul,Rat.intCast_mul,← h1,← h3];grind
   ·rw [List.length_cons,Nat.succ_mul];omega
 refine ⟨d * e,Int.mul_ne_zero d0 e0,?_,fun k=>?_⟩
 ·rw [Int.natAbs_mul];exact W5 (T8 dz ez) (by omega)
 ·obtain ⟨M,h1,h2⟩:=key a hd k
  refine ⟨M,h1,?_⟩
  have h3:=Nat.mul_le_mul_right (2 ^ (A + B)) hl
  have h4 : 2 ^ (A + B + Y) = 2 ^ Y * 2 ^ (A + B):=by rw [Nat.add_comm,Nat.pow_add]
  have h5:=Nat.two_pow_pos (A + B + Y)
  cases hal : a.length with
  | zero=>rw [hal] at h2;omega
  | succ n=>omega
theorem A4d {a b c : List Rat} (h : ∀ x,pv c x = pv a x * pv b x) (hc : Nz c) : Nz a ∧ Nz b:=by
 obtain ⟨x,hx⟩:=hc
 rw [h] at hx
 exact ⟨⟨x,fun e=>hx (by rw [e];grind)⟩,⟨x,fun e=>hx (by rw [e];grind)⟩⟩
theorem B0V {a b : List Rat} (ha : Mon a) (hb : Mon b) : ∃ t,Mon t ∧ t.length + 1 = a.length + b.length ∧ ∀ x,pv t x = pv a x * pv b x:=by
 obtain ⟨t,h1,h2,h3⟩:=A6o ha.1 hb.1 ha.tr hb.tr
 obtain ⟨a1,a2⟩:=ha
 obtain ⟨b1,b2⟩:=hb
 have la:=List.length_pos_iff.2 a1
 have lb:=List.length_pos_iff.2 b1
 have ht : t ≠ []:=fun e=>by rw [e] at h2;simp at h2;omega
 refine ⟨t,⟨ht,?_⟩,h2,h3⟩
 have key : ∀ (a b : List Rat),a ≠ [] → b ≠ [] → gq (B7 a b) (a.length + b.length - 2) = gq a (a.length - 1) * gq b (b.length - 1):=by
  intro a
  induction a with
  | nil=>intro b h;exact absurd rfl h
  | cons a0 l ih =>
   intro b _ hb
   have lb:=List.length_pos_iff.2 hb
   rw [B7,A4X,A2J]
   by_cases hl : l = []
   ·subst hl
    have e1 : ([a0] : List Rat).length + b.length - 2 = b.length - 1:=by simp;omega
    rw [e1]
    have e2 : gq (0 :: B7 [] b) (b.length - 1) = 0:=by
     by_cases h : b.length - 1 = 0
     ·rw [h];rfl
     ·exact P6 (by simp [B7];omega)
    rw [e2]
    show a0 * gq b (b.length - 1) + 0 = a0 * gq b (b.length - 1)
    grind
   ·have ll:=List.length_pos_iff.2 hl
    have e1 : (a0 :: l).length + b.length - 2 = (l.length + b.length - 2) + 1:=by simp;omega
    rw [e1,A1W,ih b hl hb,P6 (l:=b) (by omega)]
    have e2 : (a0 :: l).length - 1 = (l.length - 1) + 1:=by simp;omega
    rw [e2,A1W]
    grind
 rw [A2A ht,B06 (m:=B7 a b) (fun x=>by rw [h3,D6]),show t.length - 1 = a.length + b.length - 2 by omega,key a b a1 b1,← A2A a1,← A2A b1,a2,b2]
 grind
theorem B4J {f a b : List Rat} (hf : Mon f) (ha : Nz a) (hb : Nz b) (hd : Dv f (B7 a b)) : ∃ f1 f2,Mon f1 ∧ Mon f2 ∧ Dv f1 a ∧ Dv f2 b ∧ ∀ x,pv f x = pv f1 x * pv f2 x:=by
 obtain ⟨n,-,hn⟩:=A3A a
 obtain ⟨g,⟨u,hu⟩,⟨v,hv⟩,s,t,hg⟩:=A5p n f a hn
 obtain ⟨hgn,hun⟩:=A4d hu hf.nz
 have hc : Cop u v:=⟨s,t,fun x=>by
  have h1:=A02 hgn (u:=E4 (B7 s u) (B7 t v)) (v:=[1]) (fun x=>by
   have := hg x
   rw [hu,hv] at this
   simp only [K3,D6,N3];grind) x
  simp only [K3,D6,N3] at h1
  exact h1⟩
 have hub : Dv u b:=by
  refine A4m hc ?_
  obtain ⟨w,hw⟩:=hd
  refine ⟨w,fun x=>?_⟩
  have h1:=A02 hgn (u:=B7 v b) (v:=B7 u w) (fun x=>by
   have := hw x
   rw [D6,hu,hv] at this
   rw [D6,D6];grind) x
  rw [h1,D6]
 obtain ⟨k1,hk1,e1⟩:=A0M g
 obtain ⟨k2,hk2,e2⟩:=A0M u
 have m1:=Z9 (Q9.1 hgn)
 have m2:=Z9 (Q9.1 hun)
 have i1 : 1 / k1 * k1 = 1:=Rat.div_mul_cancel hk1
 have i2 : 1 / k2 * k2 = 1:=Rat.div_mul_cancel hk2
 have g1 : ∀ x,pv g x = 1 / k1 * pv (E8 g) x:=fun x=>by rw [e1,← Rat.mul_assoc,i1];grind
 have g2 : ∀ x,pv u x = 1 / k2 * pv (E8 u) x:=fun x=>by rw [e2,← Rat.mul_assoc,i2];grind
 refine ⟨E8 g,E8 u,m1,m2,⟨psc (1 / k1) v,fun x=>by rw [hv,g1,F2];grind⟩,?_,?_⟩
 ·obtain ⟨w,hw⟩:=hub
  exact ⟨psc (1 / k2) w,fun x=>by rw [hw,g2,F2];grind⟩
 ·obtain ⟨T,hT,-,hT2⟩:=B0V m1 m2
  have hsame : f = T:=A45 hf hT ⟨[k1 * k2],fun x=>by
   rw [hT2,e1,e2,hu,N8];grind⟩ ⟨[1 / k1 * (1 / k2)],fun x=>by
   rw [hu,g1,g2,hT2,N8];grind⟩
  intro x
  rw [hsame,hT2]
def Sm (a : List Rat) (S : Nat) : Prop:=Nz a ∧ ∀ f,Mon f → Dv f a → Czl f S
theorem Dv.len {f a : List Rat} (hf : Mon f) (ha : Nz a) (h : Dv f a) : f.length ≤ trN a:=by
 obtain ⟨u,hu⟩:=h
 obtain ⟨-,hun⟩:=A4d hu ha
 obtain ⟨j,hj⟩:=X9 hun
 have hl:=List.length_pos_iff.2 hf.1
 have h1 : Dg f (f.length - 1 + 1):=⟨f,hf.tr,by omega,fun x=>rfl⟩
 have h2:=X8 (A0U a) (A06 h1 hj) fun x=>by rw [hu,D6]
 omega
theorem A44 {a b p : List Rat} {A B Y : Nat} (ha : Sm a A) (hb : Sm b B) (hl : trN a ≤ 2 ^ Y) (hp : ∀ x,pv p x = pv a x * pv b x) : Sm p (A + B + Y):=by
 refine ⟨?_,fun f hf hd=>?_⟩
 ·obtain ⟨x,hx⟩:=A93 ha.1 hb.1
  exact ⟨x,by rw [hp,← D6];exact hx⟩
 ·obtain ⟨f1,f2,m1,m2,d1,d2,he⟩:=B4J hf ha.1 hb.1 (hd.congr fun x=>by rw [hp,D6])
  exact (A9M (ha.2 f1 m1 d1) (hb.2 f2 m2 d2) (Nat.le_trans (d1.len m1 ha.1) hl)).congr fun x=>by rw [D6,he]
theorem A4A {S : Nat} (h : 1 ≤ S) : Czl [1] S:=by
 have h2 : 1 < 2 ^ S:=Nat.one_lt_two_pow (by omega)
 refine ⟨1,by omega,by simpa using h2,fun i=>?_⟩
 cases i with
 | zero=>exact ⟨1,by rw [A0t,Rat.intCast_one];grind,by simpa using h2⟩
 | succ i=>exact ⟨0,by rw [A1W,P6 (by simp),Rat.intCast_zero];grind,by simp;omega⟩
theorem A3h {r : Rat} {D : Nat} (h : Xz r D) : Czl [-r,1] D:=by
 obtain ⟨u,v,v0,h1,h2,h3⟩:=h
 refine ⟨v,v0,h2,fun i=>?_⟩
 match i with
 | 0=>exact ⟨-u,by rw [A0t,Rat.intCast_neg,← h3];grind,by rw [Int.natAbs_neg];exact h1⟩
 | 1=>exact ⟨v,by rw [A1W,A0t];grind,h2⟩
 | i + 2=>exact ⟨0,by rw [P6 (by simp),Rat.intCast_zero];grind,Nat.two_pow_pos _⟩
theorem A62 {f : List Rat} (h : Mon f) (hl : f.length ≤ 1) : f = [1]:=by
 obtain ⟨h1,h2⟩:=h
 have := List.length_pos_iff.2 h1
 obtain ⟨a,rfl⟩:=List.length_eq_one_iff.1 (show f.length = 1 by omega)
 rw [List.getLast_singleton] at h2
 rw [h2]
theorem A5b {f : List Rat} (h : Mon f) (hl : f.length = 2) : ∃ r,f = [-r,1]:=by
 obtain ⟨h1,h2⟩:=h
 match f,hl with
 | [a,b],_ =>
  refine ⟨-a,?_⟩
  have : b = 1:=h2
  rw [this];simp
theorem Y1 (r x : Rat) : pv [-r,1] x = x - r:=by simp only [pv];grind
theorem A56 (r : Rat) : Nz [-r,1]:=⟨r + 1,by rw [Y1];grind⟩
theorem A6j (r : Rat) : Mon [-r,1]:=⟨by simp,rfl⟩
theorem A5G (r : Rat) : trN [-r,1] = 2:=by rw [F6 (A6j r).tr];rfl
theorem B2v {r : Rat} {D : Nat} (h : Xz r D) (hD : 1 ≤ D) : Sm [-r,1] D:=by
 refine ⟨A56 r,fun f hf hd=>?_⟩
 have hl:=hd.len hf (A56 r)
 rw [A5G] at hl
 by_cases h1 : f.length ≤ 1
 ·rw [A62 hf h1];exact A4A hD
 ·obtain ⟨q,rfl⟩:=A5b hf (by omega)
  obtain ⟨u,hu⟩:=hd
  have h3:=hu q
  rw [Y1,Y1] at h3
  have : q = r:=by grind
  rw [this];exact A3h h
theorem B0U {M : Rat} (hM : 0 ≤ M) : ∀ (l : List Rat) (hne : l ≠ []),(∀ b ∈ l,mg b ≤ M * mg (l.getLast hne)) ∨ l.length = 1 → ∀ x,1 + M ≤ mg x → mg (l.getLast hne) ≤ mg (pv l x)
 | [],h,_,_,_=>absurd rfl h
 | [a],_,_,x,_=>by rw [N8];exact Rat.le_refl
 | a :: b :: l,_,h,x,hx=>by
  rcases h with h | h
  ·have hl : (a :: b :: l).getLast (by simp) = (b :: l).getLast (by simp):=List.getLast_cons (by simp)
   rw [hl] at h ⊢
   have ih:=B0U hM (b :: l) (by simp) (.inl fun c hc=>h c (List.mem_cons_of_mem _ hc)) x hx
   have h1:=h a List.mem_cons_self
   generalize (b :: l).getLast _ = t at *
   have h2 : (1 + M) * mg t ≤ mg x * mg (pv (b :: l) x):=by
    have g1:=Rat.mul_le_mul_of_nonneg_right hx (G8 t)
    have g2:=Rat.mul_le_mul_of_nonneg_left ih (G8 x)
    grind
   rw [← V9] at h2
   have h3:=A1e (pv (a :: b :: l) x) (-a)
   rw [A5t] at h3
   have h4 : pv (a :: b :: l) x + -a = x * pv (b :: l) x:=by rw [pv];grind
   rw [h4] at h3
   grind
  ·simp at h
theorem A9n {u v : Int} {ρ : Rat} (hv : ρ * (v : Rat) = (u : Rat)) : ∀ (l : List Rat) (hne : l ≠ []),(∀ a ∈ l,∃ m : Int,a = (m : Rat)) → ∃ (N k : Int),l.getLast hne = (N : Rat) ∧ pv l ρ * ((v ^ (l.length - 1) : Int) : Rat) = ((N * u ^ (l.length - 1) + v * k : Int) : Rat)
 | [],h,_=>absurd rfl h
 | [a],_,h=>by
  obtain ⟨m,hm⟩:=h a List.mem_cons_self
  refine ⟨m,0,hm,?_⟩
  rw [N8,hm]
  simp
 | a :: b :: l,_,h=>by
  obtain ⟨m,hm⟩:=h a List.mem_cons_self
  obtain ⟨N,k,h1,h2⟩:=A9n hv (b :: l) (by simp) fun c hc=>h c (List.mem_cons_of_mem _ hc)
  refine ⟨N,u * k + m * v ^ (b :: l).length.pred,by rw [List.getLast_cons (by simp)];exact h1,?_⟩
  have e : (a :: b :: l).length - 1 = (b :: l).length - 1 + 1:=by simp
  have e2 : (b :: l).length.pred = (b :: l).length - 1:=rfl
  rw [e,e2,pv,hm]
  generalize (b :: l).length - 1 = n at *
  rw [Int.pow_succ,Int.pow_succ,Rat.intCast_mul]
  have h3 : ((m : Rat) + ρ * pv (b :: l) ρ) * (((v ^ n : Int) : Rat) * (v : Rat)) = (m : Rat) * ((v ^ n : Int) : Rat) * (v : Rat) + (ρ * (v : Rat)) * (pv (b :: l) ρ * ((v ^ n : Int) : Rat)):=by grind
  rw [h3,h2,hv]
  simp only [Rat.intCast_add,Rat.intCast_mul]
  grind
theorem B32 {m : Int} {E : Nat} (h : mg (m : Rat) < p2 E) : m.natAbs < 2 ^ E:=by
 rw [A9l] at h
 unfold p2 at h
 rw [← Rat.intCast_natCast,← Rat.intCast_neg,Rat.intCast_lt_intCast,Rat.intCast_lt_intCast] at h
 omega
theorem A8b {c : List Rat} {Z : Nat} (hc : Czl c Z) {ρ : Rat} (hn : Nz c) (h0 : pv c ρ = 0) : Xz ρ (2 * Z + 1):=by
 obtain ⟨d,d0,dz,hd⟩:=A0Q hc
 have hT:=Q9.1 hn
 have hne : trL c ≠ []:=fun e=>hT (by rw [← E6,e];rfl)
 have hne2 : psc (d : Rat) (trL c) ≠ []:=by unfold psc;simp [hne]
 have hpv : pv (psc (d : Rat) (trL c)) ρ = 0:=by rw [F2,P5,h0];grind
 have hint : ∀ a ∈ psc (d : Rat) (trL c),∃ m : Int,a = (m : Rat) ∧ m.natAbs < 2 ^ Z:=fun a ha=>by
  obtain ⟨i,hi,e⟩:=List.getElem_of_mem ha
  obtain ⟨m,h1,h2⟩:=hd i
  refine ⟨m,?_,h2⟩
  have h3:=A0Y hi
  rw [List.getElem?_eq_getElem hi,e] at h3
  rw [Option.some.inj h3,A2J,← h1];grind
 have hv : ρ * (((ρ.den : Int)) : Rat) = (ρ.num : Rat):=by
  have h1 : ρ = (ρ.num : Rat) / ((ρ.den : Int) : Rat):=by
   have h2:=Rat.mkRat_self ρ
   rw [Rat.mkRat_eq_div] at h2
   exact h2.symm
  have h2 : ((ρ.den : Int)) ≠ 0:=by have := ρ.den_nz;omega
  have h3 : (ρ.num : Rat) / ((ρ.den : Int) : Rat) * ((ρ.den : Int) : Rat) = (ρ.num : Rat):=Rat.div_mul_cancel (Y4 h2)
  rw [← h1] at h3
  exact h3
 obtain ⟨N,k,h1,h2⟩:=A9n hv _ hne2 fun a ha=>(hint a ha).imp fun m hm=>hm.1
 rw [hpv] at h2
 obtain ⟨N',h3,h4⟩:=hint _ (List.getLast_mem hne2)
 have hNN : N = N':=Rat.intCast_inj.1 (h1.symm.trans h3)
 subst hNN
 have hN0 : N ≠ 0:=fun e=>by
  have := A2v (Y4 d0) (X7 c) hne2
  rw [h1,e] at this
  exact this rfl
 have hdvd : ((ρ.den : Int)) ∣ N * ρ.num ^ ((psc (d : Rat) (trL c)).length - 1):=by
  have h5 : (N * ρ.num ^ ((psc (d : Rat) (trL c)).length - 1) + (ρ.den : Int) * k : Int) = 0:=Rat.intCast_inj.1 (by rw [← h2,Rat.intCast_zero];grind)
  exact ⟨-k,by rw [Int.mul_neg];omega⟩
 have hden : ρ.den ∣ N.natAbs:=by
  have h6:=Int.natAbs_dvd_natAbs.2 hdvd
  rw [Int.natAbs_mul,Int.natAbs_pow,Int.natAbs_natCast] at h6
  exact (Nat.Coprime.pow_right _ ρ.reduced.symm).dvd_of_dvd_mul_right h6
 have hdz : ρ.den < 2 ^ Z:=Nat.lt_of_le_of_lt (Nat.le_of_dvd (Int.natAbs_pos.2 hN0) hden) h4
 have hlt : mg ρ < 1 + p2 Z:=by
  by_cases h : mg ρ < 1 + p2 Z
  ·exact h
  ·exfalso
   have hN1:=A21 hN0
   have h7:=B0U (Rat.le_of_lt (R2 Z)) _ hne2 (.inl fun b hb=>by
    obtain ⟨m,h8,h9⟩:=hint b hb
    rw [h1,h8]
    have h10:=A23 h9
    have h11:=Rat.mul_le_mul_of_nonneg_left hN1 (Rat.le_of_lt (R2 Z))
    grind) ρ (Rat.not_lt.1 h)
   rw [hpv,h1] at h7
   have : mg 0 = 0:=rfl
   grind
 have hden0 : ((ρ.den : Int)) ≠ 0:=by have := ρ.den_nz;omega
 refine ⟨ρ.num,ρ.den,hden0,?_,by rw [Int.natAbs_natCast];exact W5 hdz (by omega),hv⟩
 refine B32 ?_
 rw [← hv,V9,show 2 * Z + 1 = Z + 1 + Z by omega,R5]
 have g1 : mg ρ < p2 (Z + 1):=by rw [R5,A15];have := A2Q Z;grind
 have g2 : mg (((ρ.den : Int)) : Rat) ≤ p2 Z:=A23 (by rw [Int.natAbs_natCast];exact hdz)
 have g3:=Rat.mul_lt_mul_of_pos_right g1 (show 0 < mg (((ρ.den : Int)) : Rat) by have := A21 hden0;grind)
 have g4:=Rat.mul_le_mul_of_nonneg_left g2 (Rat.le_of_lt (R2 (Z + 1)))
 grind
theorem A8Z {c : List Rat} {Z : Nat} (hc : Czl c Z) (hn : Nz c) (hl : trN c ≤ 4) (hZ : 1 ≤ Z) : Sm c (7 * Z + 6):=by
 refine ⟨hn,fun f hf hd=>?_⟩
 have hfl:=hd.len hf hn
 have hfp:=List.length_pos_iff.2 hf.1
 obtain ⟨w,hw⟩:=hd
 obtain ⟨-,hwn⟩:=A4d hw hn
 obtain ⟨j,hj⟩:=X9 hwn
 have hfd : Dg f (f.length - 1 + 1):=⟨f,hf.tr,by omega,fun x=>rfl⟩
 have hdeg:=X8 (A0U c) (A06 hfd hj) fun x=>by rw [hw,D6]
 by_cases h1 : f.length ≤ 1
 ·rw [A62 hf h1];exact A4A (by omega)
 by_cases h2 : f.length = 2
 ·obtain ⟨ρ,rfl⟩:=A5b hf h2
  exact (A3h (A8b hc hn (show pv c ρ = 0 by rw [hw,Y1];grind))).mono (by omega)
 by_cases h3 : j = 0
 ·subst h3
  obtain ⟨k,hk,hwk⟩:=A4E hj
  obtain ⟨k2,hk2,hm⟩:=A0M c
  have : f = E8 c:=A45 hf (Z9 (Q9.1 hn)) ⟨[k2 * k],fun x=>by rw [hm,hw,hwk,N8];grind⟩ ⟨[1 / (k2 * k)],fun x=>by
   have e : 1 / (k2 * k) * (k2 * k) = 1:=Rat.div_mul_cancel fun e=>(Rat.mul_eq_zero.1 e).elim hk2 hk
   rw [hm,hw,hwk,N8]
   have : k2 * (pv f x * k) * (1 / (k2 * k)) = 1 / (k2 * k) * (k2 * k) * pv f x:=by grind
   rw [this,e];grind⟩
  rw [this]
  exact (A2l hc).mono (by omega)
 ·-- the cofactor is linear
  obtain rfl : j = 1:=by omega
  obtain ⟨t,ht1,ht2,ht3⟩:=hj
  obtain ⟨k,hk,hm⟩:=A0M w
  have hmw:=Z9 (Q9.1 hwn)
  have hml : (E8 w).length = 2:=by rw [Z2];exact X8 (A0U w) ⟨t,ht1,ht2,ht3⟩ fun _=>rfl
  obtain ⟨ρ,hρ⟩:=A5b hmw hml
  have e1 : 1 / k * k = 1:=Rat.div_mul_cancel hk
  have hwl : ∀ x,pv w x = 1 / k * (x - ρ):=fun x=>by
   rw [← Y1,← hρ,hm,← Rat.mul_assoc,e1];grind
  have h0 : pv c ρ = 0:=by rw [hw,hwl];grind
  have hx:=A8b hc hn h0
  have hlin:=A3h hx
  have hb : trN [-ρ,1] ≠ 0:=by rw [A5G];omega
  obtain ⟨-,hq⟩:=A8s (a:=c) hb ⟨psc (1 / k) f,fun x=>by rw [hw,hwl,Y1,F2];grind⟩
  have hqc:=(A1I hc hlin hb).1
  have hqe : ∀ x,pv (B9 c [-ρ,1]).1 x = pv (psc (1 / k) f) x:=A02 (A56 ρ) fun x=>by
   have := hq x
   rw [hw,hwl] at this
   rw [Y1,F2];grind
  have hqn : Nz (B9 c [-ρ,1]).1:=by
   obtain ⟨x,hx⟩:=hf.nz
   refine ⟨x,fun e=>hx ?_⟩
   rw [hqe,F2] at e
   rcases Rat.mul_eq_zero.1 e with e | e
   ·rw [e] at e1;grind
   ·exact e
  obtain ⟨k2,hk2,hm2⟩:=A0M (B9 c [-ρ,1]).1
  have e2 : 1 / k2 * k2 = 1:=Rat.div_mul_cancel hk2
  have : f = E8 (B9 c [-ρ,1]).1:=A45 hf (Z9 (Q9.1 hqn)) ⟨[k2 * (1 / k)],fun x=>by rw [hm2,hqe,F2,N8];grind⟩ ⟨[k * (1 / k2)],fun x=>by
   rw [hm2,hqe,F2,N8]
   have : k2 * (1 / k * pv f x) * (k * (1 / k2)) = (1 / k2 * k2) * (1 / k * k) * pv f x:=by grind
   rw [this,e1,e2];grind⟩
  rw [this]
  refine (A2l hqc).mono ?_
  rw [A5G]
  have h5 : trN c + 1 - 2 ≤ 3:=by omega
  have h6:=Nat.mul_le_mul_right (2 * Z + 1 + 1) h5
  omega
def Q4 (a b r : List Rat) (i : Nat) : Nat → List Rat
 | 0=>r
 | j + 1=>(Q4 a b r i j).set (i + j) (I7 (gq (Q4 a b r i j) (i + j)) (E2 (gq a i) (gq b j)))
def mcO (n : Nat) (a b : List Rat) : Nat → List Rat
 | 0=>List.replicate n 0
 | i + 1=>Q4 a b (mcO n a b i) i b.length
theorem A2b (a b r : List Rat) (i : Nat) : ∀ j,(Q4 a b r i j).length = r.length
 | 0=>rfl
 | j + 1=>by rw [Q4,List.length_set,A2b a b r i j]
theorem A1i (n : Nat) (a b : List Rat) : ∀ i,(mcO n a b i).length = n
 | 0=>by rw [mcO,List.length_replicate]
 | i + 1=>by rw [mcO,A2b,A1i n a b i]
theorem A8v (x : Rat) (i : Nat) : ∀ j,x ^ (i + j) = x ^ i * x ^ j
 | 0=>by rw [Nat.add_zero,Rat.pow_zero];grind
 | j + 1=>by rw [show i + (j + 1) = i + j + 1 from rfl,Rat.pow_succ,Rat.pow_succ,A8v x i j];grind
theorem A8G (a b r : List Rat) (i : Nat) (x : Rat) : ∀ j,i + j ≤ r.length → pv (Q4 a b r i j) x = pv r x + gq a i * x ^ i * ps (gq b) x j
 | 0,_=>by rw [Q4,ps];grind
 | j + 1,h=>by
  rw [Q4,A5U x (by rw [A2b];omega),A8G a b r i x j (by omega),ps]
  show _ + (gq (Q4 a b r i j) (i + j) + gq a i * gq b j - _) * _ = _
  rw [A8v];grind
theorem B1E (n : Nat) (a b : List Rat) (x : Rat) (hn : a.length + b.length ≤ n + 1) : ∀ i,i ≤ a.length → pv (mcO n a b i) x = ps (gq a) x i * pv b x
 | 0,_=>by
  have : pv (List.replicate n 0) x = 0:=(A3t (fun a ha=>(List.mem_replicate.1 ha).2) x).2
  rw [mcO,this,ps];grind
 | i + 1,h=>by
  rw [mcO,A8G _ _ _ _ _ _ (by rw [A1i];omega),B1E n a b x hn i (by omega),ps,← Y2 x b _ (Nat.le_refl _)]
  grind
def F9 (a b : List Rat) : List Rat:=if a = [] ∨ b = [] then [] else trL (mcO (a.length + b.length - 1) a b a.length)
theorem A0B (a b : List Rat) (x : Rat) : pv (F9 a b) x = pv a x * pv b x:=by
 unfold F9
 split
 ·rename_i h
  rcases h with h | h <;> rw [h] <;> simp only [pv] <;> grind
 ·rename_i h
  rw [P5,B1E _ _ _ _ (by have : 0 < a.length:=List.length_pos_iff.2 fun e=>h (.inl e);omega) _ (Nat.le_refl _),← Y2 x a _ (Nat.le_refl _)]
theorem B4E (a b : List Rat) : Trm (F9 a b):=by
 unfold F9
 split
 ·exact fun h=>absurd rfl h
 ·exact X7 _
theorem B1d (a b : List Rat) : (F9 a b).length ≤ a.length + b.length - 1:=by
 unfold F9
 split
 ·simp
 ·rw [E6]
  have := H8 (mcO (a.length + b.length - 1) a b a.length)
  rw [A1i] at this
  exact this
theorem B3S {a b : List Rat} {A B Y n : Nat} (ha : Czl a A) (hb : Czl b B) (hY : a.length ≤ 2 ^ Y) (hn : a.length + b.length ≤ n + 1) : ∀ i,i ≤ a.length → (∀ x ∈ mcO n a b i,qs x ≤ A + B + Y) ∧ ∀ j,j ≤ b.length → i < a.length → ∀ x ∈ Q4 a b (mcO n a b i) i j,qs x ≤ A + B + Y:=by
 obtain ⟨d,d0,dz,hd⟩:=ha
 obtain ⟨e,e0,ez,he⟩:=hb
 have hde : d * e ≠ 0:=Int.mul_ne_zero d0 e0
 have hdez : (d * e).natAbs < 2 ^ (A + B + Y):=by rw [Int.natAbs_mul];exact W5 (T8 dz ez) (by omega)
 let Q:=fun (l : List Rat) (c : Nat → Nat)=>∀ k,∃ M : Int,gq l k * ((d * e : Int) : Rat) = (M : Rat) ∧ M.natAbs + c k ≤ c k * 2 ^ (A + B)
 have fin : ∀ (l : List Rat) (c : Nat → Nat),Q l c → (∀ k,c k ≤ a.length) → ∀ x ∈ l,qs x ≤ A + B + Y:=fun l c hQ hc=>A39 hde hdez (Z:=A + B + Y) fun k=>by
  obtain ⟨M,h1,h2⟩:=hQ k
  refine ⟨M,h1,?_⟩
  have h3:=Nat.mul_le_mul_right (2 ^ (A + B)) (Nat.le_trans (hc k) hY)
  have h4 : 2 ^ (A + B + Y) = 2 ^ Y * 2 ^ (A + B):=by rw [Nat.add_comm,Nat.pow_add]
  have h5:=Nat.two_pow_pos (A + B + Y)
  by_cases hz : c k = 0
  ·rw [hz] at h2;omega
  ·omega
 have step : ∀ i,i < a.length → ∀ r,r.length = n → Q r (fun _=>i) → ∀ j,j ≤ b.length → Q (Q4 a b r i j) (fun k=>if i ≤ k ∧ k < i + j then i + 1 else i):=by
  intro i hi r hr hQ j
  induction j with
  | zero =>
   intro _ k
   obtain ⟨M,h1,h2⟩:=hQ k
   refine ⟨M,h1,?_⟩
   show M.natAbs + (if i ≤ k ∧ k < i + 0 then i + 1 else i) ≤ (if i ≤ k ∧ k < i + 0 then i + 1 else i) * _
   rw [if_neg (by omega)]
   exact h2
  | succ j ih =>
   intro hj k
   have ih:=ih (by omega)
   rw [Q4,A1H (by rw [A2b];omega)]
   by_cases hk : k = i + j
   ·rw [if_pos hk]
    obtain ⟨M,h1,h2⟩:=ih (i + j)
    obtain ⟨p,h3,h4⟩:=hd i
    obtain ⟨q,h5,h6⟩:=he j
    have h7 : (p * q).natAbs < 2 ^ (A + B):=by rw [Int.natAbs_mul];exact T8 h4 h6
    refine ⟨M + p * q,?_,?_⟩
    ·show (gq (Q4 a b r i j) (i + j) + gq a i * gq b j) * _ = _
     rw [Rat.intCast_add,← h1,Rat.intCast_mul,Rat.intCast_mul,← h3,← h5];grind
    ·show (M + p * q).natAbs + (if i ≤ k ∧ k < i + (j + 1) then i + 1 else i) ≤ (if i ≤ k ∧ k < i + (j + 1) then i + 1 else i) * _
     have h2 : M.natAbs + (if i ≤ i + j ∧ i + j < i + j then i + 1 else i) ≤ (if i ≤ i + j ∧ i + j < i + j then i + 1 else i) * 2 ^ (A + B):=h2
     rw [if_neg (by omega)] at h2
     rw [if_pos (by omega),Nat.succ_mul]
     omega
   ·rw [if_neg hk]
    obtain ⟨M,h1,h2⟩:=ih k
    refine ⟨M,h1,?_⟩
    have h2 : M.natAbs + (if i ≤ k ∧ k < i + j then i + 1 else i) ≤ (if i ≤ k ∧ k < i + j then i + 1 else i) * 2 ^ (A + B):=h2
    show M.natAbs + (if i ≤ k ∧ k < i + (j + 1) then i + 1 else i) ≤ (if i ≤ k ∧ k < i + (j + 1) then i + 1 else i) * _
    by_cases hc : i ≤ k ∧ k < i + j
    ·rw [if_pos hc] at h2
     rw [if_pos (by omega)];exact h2
    ·rw [if_neg hc] at h2
     rw [if_neg (by omega)];exact h2
 have out : ∀ i,i ≤ a.length → Q (mcO n a b i) (fun _=>i):=by
  intro i
  induction i with
  | zero =>
   intro _ k
   refine ⟨0,?_,by simp⟩
   have : gq (mcO n a b 0) k = 0:=by
    rw [mcO]
    unfold gq
    rw [List.getElem?_replicate]
    split <;> rfl
   rw [this,Rat.intCast_zero];grind
  | succ i ih =>
   intro hi k
   obtain ⟨M,h1,h2⟩:=step i (by omega) _ (A1i n a b i) (ih (by omega)) b.length (Nat.le_refl _) k
   refine ⟨M,h1,?_⟩
   have h2 : M.natAbs + (if i ≤ k ∧ k < i + b.length then i + 1 else i) ≤ (if i ≤ k ∧ k < i + b.length then i + 1 else i) * 2 ^ (A + B):=h2
   show M.natAbs + (i + 1) ≤ (i + 1) * _
   split at h2
   ·exact h2
   ·rw [Nat.succ_mul]
    have := Nat.two_pow_pos (A + B)
    omega
 intro i hi
 refine ⟨fin _ _ (out i hi) fun _=>hi,fun j hj hlt=>fin _ _ (step i hlt _ (A1i n a b i) (out i hi) j hj) fun k=>?_⟩
 have h9 : (if i ≤ k ∧ k < i + j then i + 1 else i) ≤ i + 1:=by split <;> omega
 exact Nat.le_trans h9 hlt
theorem A3i {a b : List Rat} {A B Y : Nat} (ha : Czl a A) (hb : Czl b B) (hY : a.length ≤ 2 ^ Y) : Czl (F9 a b) (A + B + Y):=(A9M ha hb hY).congr fun x=>by rw [A0B,D6]
end Go.Proofs.YtlkniebmjdoopaaGreatDoor
