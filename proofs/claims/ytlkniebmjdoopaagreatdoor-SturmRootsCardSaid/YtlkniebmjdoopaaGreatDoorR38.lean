/- Contracts and laws. -/
import Derived.Test.YtlkniebmjdoopaaGreatDoorR37
set_option linter.unusedSimpArgs false
set_option linter.unusedVariables false
namespace Go.Proofs.YtlkniebmjdoopaaGreatDoor
theorem A7O : ∀ {p q : List Rat},p.length < q.length → (E4 p q).length = q.length ∧ (Trm q → Trm (E4 p q))
 | [],q,_=>⟨by simp [E4],fun h=>by simpa [E4] using h⟩
 | a :: l,[],h=>by simp at h
 | a :: l,b :: m,h=>by
  have hl : l.length < m.length:=by simpa using h
  obtain ⟨h1,h2⟩:=A7O hl
  refine ⟨by simp [E4,h1],fun hq hne=>?_⟩
  have hm : E4 l m ≠ []:=fun e=>by rw [e] at h1;simp at h1;omega
  simp only [E4]
  rw [List.getLast_cons hm]
  exact h2 hq.tail hm
theorem B0m {k : Rat} {l : List Rat} (h : psc k l ≠ []) (hl : l ≠ []) : (psc k l).getLast h = k * l.getLast hl:=List.getLast_map h
theorem A2v {k : Rat} (hk : k ≠ 0) {l : List Rat} (h : Trm l) : Trm (psc k l):=fun hne=>by
 have hl : l ≠ []:=fun e=>by subst e;simp [psc] at hne
 rw [B0m hne hl]
 exact fun e=>(Rat.mul_eq_zero.1 e).elim hk (h hl)
def Dg (l : List Rat) (n : Nat) : Prop:=∃ t,Trm t ∧ t.length = n ∧ ∀ x,pv t x = pv l x
theorem A3A (l : List Rat) : ∃ n,n ≤ l.length ∧ Dg l n:=by
 obtain ⟨t,h1,h2,h3⟩:=A54 l
 exact ⟨t.length,h2,t,h1,rfl,fun x=>(h3 x).1⟩
theorem X8 {l m : List Rat} {a b : Nat} (h : Dg l a) (h2 : Dg m b) (he : ∀ x,pv l x = pv m x) : a = b:=by
 obtain ⟨t,h3,h4,h5⟩:=h
 obtain ⟨s,h6,h7,h8⟩:=h2
 rw [← h4,← h7,A1o h3 h6 fun x=>by rw [h5,h8,he]]
theorem A4V {l : List Rat} (h : Dg l 0) (x : Rat) : pv l x = 0:=by
 obtain ⟨t,h3,h4,h5⟩:=h
 rw [← h5,List.length_eq_zero_iff.1 h4];rfl
theorem A8U {l : List Rat} {n : Nat} (h : Dg l (n + 1)) : Nz l:=by
 by_cases hz : Nz l
 ·exact hz
 ·have h0 : ∀ x,pv l x = 0:=fun x=>by
   by_cases hx : pv l x = 0
   ·exact hx
   ·exact absurd ⟨x,hx⟩ hz
  have := X8 h (⟨[],fun h=>absurd rfl h,rfl,fun x=>(h0 x).symm⟩ : Dg l 0) fun _=>rfl
  omega
theorem A4E {l : List Rat} (h : Dg l 1) : ∃ c,c ≠ 0 ∧ ∀ x,pv l x = c:=by
 obtain ⟨t,h3,h4,h5⟩:=h
 obtain ⟨c,rfl⟩:=List.length_eq_one_iff.1 h4
 exact ⟨c,h3 (by simp),fun x=>by rw [← h5,N8]⟩
theorem A6o : ∀ {a b : List Rat},a ≠ [] → b ≠ [] → Trm a → Trm b → ∃ t,Trm t ∧ t.length + 1 = a.length + b.length ∧ ∀ x,pv t x = pv a x * pv b x
 | [],_,h,_,_,_=>absurd rfl h
 | [a],b,_,hb,h1,h2=>⟨psc a b,A2v (h1 (by simp)) h2,by simp [psc];omega,fun x=>by rw [F2,N8]⟩
 | a :: a2 :: l,b,_,hb,h1,h2=>by
  obtain ⟨t,h3,h4,h5⟩:=A6o (a:=a2 :: l) (by simp) hb h1.tail h2
  have hbl : 0 < b.length:=List.length_pos_iff.2 hb
  have ht : t ≠ []:=fun e=>by rw [e] at h4;simp at h4;omega
  have hlt : (psc a b).length < (0 :: t).length:=by simp only [psc,List.length_map,List.length_cons] at h4 ⊢;omega
  have hT : Trm (0 :: t):=fun hne=>by rw [List.getLast_cons ht];exact h3 ht
  obtain ⟨h6,h7⟩:=A7O hlt
  refine ⟨E4 (psc a b) (0 :: t),h7 hT,?_,fun x=>?_⟩
  ·rw [h6];simp only [List.length_cons] at h4 ⊢;omega
  ·have := h5 x
   simp only [K3,F2,pv,this];grind
theorem A06 {a b : List Rat} {m n : Nat} (ha : Dg a (m + 1)) (hb : Dg b (n + 1)) : Dg (B7 a b) (m + n + 1):=by
 obtain ⟨t,h3,h4,h5⟩:=ha
 obtain ⟨s,h6,h7,h8⟩:=hb
 obtain ⟨r,h9,h10,h11⟩:=A6o (a:=t) (b:=s) (fun e=>by rw [e] at h4;simp at h4) (fun e=>by rw [e] at h7;simp at h7) h3 h6
 exact ⟨r,h9,by omega,fun x=>by rw [h11,h5,h8,D6]⟩
theorem X9 {a : List Rat} (h : Nz a) : ∃ n,Dg a (n + 1):=by
 obtain ⟨n,-,hn⟩:=A3A a
 cases n with
 | zero =>
  obtain ⟨x,hx⟩:=h
  exact absurd (A4V hn x) hx
 | succ n=>exact ⟨n,hn⟩
def V3 (b : List Rat) : Nat → List Rat
 | 0=>[1]
 | k + 1=>B7 (V3 b k) b
theorem A1L (b : List Rat) (x : Rat) : ∀ k,pv (V3 b k) x = pv b x ^ k
 | 0=>by rw [V3,N3,Rat.pow_zero]
 | k + 1=>by rw [V3,D6,A1L b x k,Rat.pow_succ]
theorem A7g (b : List Rat) (x : Rat) : ∀ k : Nat,pd (V3 b (k + 1)) x = ((k + 1 : Nat) : Rat) * pv b x ^ k * pd b x
 | 0=>by rw [V3,A1N,V3,B42,N8,Rat.pow_zero];grind
 | k + 1=>by
  rw [V3,A1N,A7g b x k,A1L,Rat.pow_succ]
  have : ((k + 1 + 1 : Nat) : Rat) = ((k + 1 : Nat) : Rat) + 1:=by rw [Rat.natCast_add];rfl
  rw [this];grind
theorem A7b {b : List Rat} {m : Nat} (h : Dg b (m + 1)) : ∀ k,Dg (V3 b k) (k * m + 1)
 | 0=>⟨[1],fun _=>by simp,by simp,fun x=>rfl⟩
 | k + 1=>by
  have := A06 (A7b h k) h
  rw [show (k + 1) * m = k * m + m by rw [Nat.add_mul,Nat.one_mul]]
  exact this
theorem A95 {d g : List Rat} (hd : Nz d) (h : ∀ k : Nat,∃ u : List Rat,∀ x,pv d x = pv g x ^ k * pv u x) : ∃ c,c ≠ 0 ∧ ∀ x,pv g x = c:=by
 obtain ⟨n,hn⟩:=X9 hd
 have hg : Nz g:=by
  obtain ⟨u,hu⟩:=h 1
  obtain ⟨x,hx⟩:=hd
  refine ⟨x,fun e=>hx ?_⟩
  rw [hu x,e];grind
 obtain ⟨m,hm⟩:=X9 hg
 obtain ⟨u,hu⟩:=h (n + 1)
 have hun : Nz u:=by
  obtain ⟨x,hx⟩:=hd
  refine ⟨x,fun e=>hx ?_⟩
  rw [hu x,e];grind
 obtain ⟨j,hj⟩:=X9 hun
 have h1:=A06 (A7b hm (n + 1)) hj
 have h2:=X8 hn h1 fun x=>by rw [hu x,D6,A1L]
 cases m with
 | zero=>exact A4E hm
 | succ m =>
  have : (n + 1) * (m + 1) = (n + 1) * m + (n + 1):=Nat.mul_succ _ _
  omega
theorem A9P (s t : List Rat) (x : Rat) : pv (s ++ t) x = pv s x + x ^ s.length * pv t x:=by
 induction s with
 | nil=>simp only [List.nil_append,pv,List.length_nil,Rat.pow_zero];grind
 | cons a s ih=>simp only [List.cons_append,pv,List.length_cons,Rat.pow_succ,ih];grind
theorem A6L {b : List Rat} (hb : b ≠ []) (ht : Trm b) : ∀ a : List Rat,∃ q r : List Rat,r.length < b.length ∧ ∀ x,pv a x = pv q x * pv b x + pv r x
 | []=>⟨[],[],List.length_pos_iff.2 hb,fun x=>by simp only [pv];grind⟩
 | a0 :: a=>by
  obtain ⟨q,r,h1,h2⟩:=A6L hb ht a
  by_cases hlt : (a0 :: r).length < b.length
  ·refine ⟨0 :: q,a0 :: r,hlt,fun x=>?_⟩
   simp only [pv,h2 x];grind
  ·have hlen : (a0 :: r).length = b.length:=by simp only [List.length_cons] at hlt ⊢;omega
   have hz:=ht hb
   have e1:=List.dropLast_concat_getLast hb
   have e2:=List.dropLast_concat_getLast (show a0 :: r ≠ [] by simp)
   generalize b.getLast hb = z at hz e1
   generalize (a0 :: r).getLast (by simp) = y at e2
   have l1 : b.dropLast.length = b.length - 1:=List.length_dropLast
   have l2 : (a0 :: r).dropLast.length = (a0 :: r).length - 1:=List.length_dropLast
   generalize b.dropLast = b' at e1 l1
   generalize (a0 :: r).dropLast = s at e2 l2
   have hpadd : ∀ p q : List Rat,(E4 p q).length = max p.length q.length:=by
    intro p
    induction p with
    | nil=>intro q;simp [E4]
    | cons p0 p ih =>
     intro q
     cases q with
     | nil=>simp [E4]
     | cons q0 q=>simp only [E4,List.length_cons,ih];omega
   refine ⟨E4 (0 :: q) [y / z],E4 s (psc (-(y / z)) b'),?_,fun x=>?_⟩
   ·have hbl : 0 < b.length:=List.length_pos_iff.2 hb
    rw [hpadd]
    simp only [psc,List.length_map]
    omega
   ·have h3 : pv (a0 :: a) x = pv (0 :: q) x * pv b x + pv (a0 :: r) x:=by simp only [pv,h2 x];grind
    rw [h3,← e1,← e2,K3,K3,F2,N8,A9P,A9P,N8,N8]
    have l3 : s.length = b'.length:=by omega
    have h4 : y / z * z = y:=Rat.div_mul_cancel hz
    rw [l3]
    generalize x ^ b'.length = X
    have h5 : y / z * (X * z) = X * y:=by rw [← h4];grind
    grind
def Dv (a b : List Rat) : Prop:=∃ u : List Rat,∀ x,pv b x = pv a x * pv u x
def Cop (a b : List Rat) : Prop:=∃ s t : List Rat,∀ x,pv s x * pv a x + pv t x * pv b x = 1
theorem A5p : ∀ (n : Nat) (a b : List Rat),Dg b n → ∃ g : List Rat,Dv g a ∧ Dv g b ∧ ∃ s t : List Rat,∀ x,pv g x = pv s x * pv a x + pv t x * pv b x:=by
 intro n
 induction n using Nat.strongRecOn with
 | _ n ih =>
  intro a b hb
  cases n with
  | zero =>
   exact ⟨a,⟨[1],fun x=>by rw [N3];grind⟩,⟨[],fun x=>by rw [A4V hb x];simp only [pv];grind⟩,[1],[],fun x=>by rw [N3,A4V hb x];grind⟩
  | succ n =>
   obtain ⟨t,h3,h4,h5⟩:=hb
   obtain ⟨q,r,h6,h7⟩:=A6L (b:=t) (fun e=>by rw [e] at h4;simp at h4) h3 a
   obtain ⟨k,h8,h9⟩:=A3A r
   obtain ⟨g,⟨u,hu⟩,⟨v,hv⟩,s,w,hg⟩:=ih k (by omega) t r h9
   refine ⟨g,⟨E4 (B7 q u) v,fun x=>?_⟩,⟨u,fun x=>by rw [← h5,hu]⟩,w,M3 s (B7 w q),fun x=>?_⟩
   ·rw [h7,hu,hv,K3,D6];grind
   ·have e1:=h7 x
    have e2:=h5 x
    rw [hg,Y3,D6]
    rw [e2] at e1 ⊢
    grind
theorem Cop.symm {a b : List Rat} (h : Cop a b) : Cop b a:=by
 obtain ⟨s,t,h⟩:=h
 exact ⟨t,s,fun x=>by have := h x;grind⟩
theorem Cop.dvd {a b a' : List Rat} (h : Cop a b) (ha : Dv a' a) : Cop a' b:=by
 obtain ⟨s,t,h⟩:=h
 obtain ⟨u,hu⟩:=ha
 exact ⟨B7 s u,t,fun x=>by rw [D6];have := h x;rw [hu x] at this;grind⟩
theorem Cop.mul {a b c : List Rat} (h : Cop a b) (h2 : Cop a c) : Cop a (B7 b c):=by
 obtain ⟨s,t,h⟩:=h
 obtain ⟨p,q,h2⟩:=h2
 refine ⟨E4 (E4 (B7 (B7 s p) a) (B7 (B7 s q) c)) (B7 (B7 t p) b),B7 t q,fun x=>?_⟩
 have e1:=h x
 have e2:=h2 x
 simp only [K3,D6]
 grind
theorem Cop.congr {a b c : List Rat} (h : Cop a b) (he : ∀ x,pv b x = pv c x) : Cop a c:=by
 obtain ⟨s,t,h⟩:=h
 exact ⟨s,t,fun x=>by rw [← he];exact h x⟩
theorem A4m {a b c : List Rat} (h : Cop a b) (hd : Dv a (B7 b c)) : Dv a c:=by
 obtain ⟨s,t,h⟩:=h
 obtain ⟨u,hu⟩:=hd
 refine ⟨E4 (B7 s c) (B7 t u),fun x=>?_⟩
 have e1:=h x
 have e2:=hu x
 rw [D6] at e2
 simp only [K3,D6]
 have : pv c x = (pv s x * pv a x + pv t x * pv b x) * pv c x:=by rw [e1];grind
 rw [this]
 grind
theorem Dv.trans {a b c : List Rat} (h : Dv a b) (h2 : Dv b c) : Dv a c:=by
 obtain ⟨u,hu⟩:=h
 obtain ⟨v,hv⟩:=h2
 exact ⟨B7 u v,fun x=>by rw [hv,hu,D6];grind⟩
theorem Dv.refl (a : List Rat) : Dv a a:=⟨[1],fun x=>by rw [N3];grind⟩
theorem Dv.congr {a b c : List Rat} (h : Dv a b) (he : ∀ x,pv b x = pv c x) : Dv a c:=by
 obtain ⟨u,hu⟩:=h
 exact ⟨u,fun x=>by rw [← he,hu]⟩
theorem Dv.unsc {a b : List Rat} {k : Rat} (hk : k ≠ 0) (h : Dv a (psc k b)) : Dv a b:=by
 obtain ⟨u,hu⟩:=h
 refine ⟨psc (1 / k) u,fun x=>?_⟩
 have := hu x
 rw [F2] at this
 rw [F2]
 have h1 : 1 / k * k = 1:=Rat.div_mul_cancel hk
 have : pv b x = 1 / k * (k * pv b x):=by rw [← Rat.mul_assoc,h1];grind
 rw [this];grind
def Sqf (f : List Rat) : Prop:=Cop f (R1 f)
structure Part (p f d e : List Rat) : Prop where
 nz : Nz p
 eq : ∀ x,pv p x = pv f x * pv d x
 der' : ∀ x,pd p x = pv e x * pv d x
 c : Cop f e
section
variable {p f d e : List Rat}
theorem Part.nzd (h : Part p f d e) : Nz d:=by
 obtain ⟨x,hx⟩:=h.nz
 refine ⟨x,fun e=>hx ?_⟩
 rw [h.eq,e];grind
theorem Part.der (h : Part p f d e) (x : Rat) : pd f x * pv d x + pv f x * pd d x = pv e x * pv d x:=by
 rw [← h.der' x,A12 (fun y=>by rw [h.eq y,D6] : ∀ y,pv p y = pv (B7 f d) y) x,A1N]
theorem A7T {g u d : List Rat} {k : Nat} (h : ∀ x,pv d x = pv g x ^ (k + 1) * pv u x) (x : Rat) : pd d x = pv g x ^ k * (((k + 1 : Nat) : Rat) * pd g x * pv u x + pv g x * pd u x):=by
 rw [A12 (fun y=>by rw [h y,D6,A1L] : ∀ y,pv d y = pv (B7 (V3 g (k + 1)) u) y) x,A1N,A7g,A1L,Rat.pow_succ]
 grind
theorem A9O {g : List Rat} (h : Nz g) (k : Nat) : Nz (V3 g k):=by
 induction k with
 | zero=>exact ⟨0,by rw [V3,N3];grind⟩
 | succ k ih=>exact A93 ih h
theorem B0k {g u v w : List Rat} (hg : Nz g) (h : ∀ x,pv g x * pv u x = pv g x * pv (B7 v w) x) (x : Rat) : pv u x = pv v x * pv w x:=(A02 hg h x).trans (D6 x v w)
theorem Part.sqf (h : Part p f d e) : Sqf f:=by
 obtain ⟨n,-,hn⟩:=A3A (R1 f)
 obtain ⟨g,⟨f1,hf1⟩,⟨f2,hf2⟩,s,t,hg⟩:=A5p n f (R1 f) hn
 have hge : Cop g e:=h.c.dvd ⟨f1,hf1⟩
 have hgn : Nz g:=by
  obtain ⟨x,hx⟩:=h.nz
  refine ⟨x,fun e=>hx ?_⟩
  rw [h.eq,hf1,e];grind
 have hf' : ∀ x,pd f x = pd g x * pv f1 x + pv g x * pd f1 x:=fun x=>by
  rw [A12 (fun y=>by rw [hf1 y,D6] : ∀ y,pv f y = pv (B7 g f1) y) x,A1N]
 have key : ∀ k : Nat,∃ u : List Rat,∀ x,pv d x = pv g x ^ k * pv u x:=by
  intro k
  induction k with
  | zero=>exact ⟨d,fun x=>by rw [Rat.pow_zero];grind⟩
  | succ k ih =>
   obtain ⟨u,hu⟩:=ih
   have hdv : Dv g (B7 e u):=by
    cases k with
    | zero =>
     have hu' : ∀ x,pv d x = pv u x:=fun x=>by rw [hu x,Rat.pow_zero];grind
     refine ⟨E4 (B7 f2 u) (B7 f1 (R1 u)),fun x=>?_⟩
     have h1:=h.der x
     rw [hu' x,A12 hu' x,← X1 x f,hf2 x] at h1
     have h2:=hf1 x
     simp only [D6,K3,X1]
     rw [h2] at h1
     grind
    | succ k =>
     refine ⟨E4 (E4 (B7 f2 u) (psc ((k + 1 : Nat) : Rat) (B7 (M3 f2 (R1 f1)) u))) (B7 f1 (R1 u)),B0k (A9O hgn (k + 1)) fun x=>?_⟩
     have h1:=h.der x
     have h2:=hf1 x
     have h3:=hf2 x
     have h4:=hf' x
     rw [X1] at h3
     rw [A7T hu x,hu x] at h1
     simp only [A1L,D6,K3,F2,Y3,X1]
     rw [Rat.pow_succ] at h1 ⊢
     generalize pv g x ^ k = G at *
     generalize ((k + 1 : Nat) : Rat) = K at *
     have h5 : pd g x * pv f1 x = pv g x * pv f2 x - pv g x * pd f1 x:=by grind
     have h6 : pv f x * (G * (K * pd g x * pv u x + pv g x * pd u x)) = G * pv g x * (K * (pd g x * pv f1 x) * pv u x + pv g x * pv f1 x * pd u x):=by rw [h2];grind
     rw [h6,h5,h3] at h1
     grind
   obtain ⟨v,hv⟩:=A4m hge hdv
   exact ⟨v,fun x=>by rw [hu x,hv x,Rat.pow_succ];grind⟩
 obtain ⟨c,hc,hgc⟩:=A95 h.nzd key
 refine ⟨psc (1 / c) s,psc (1 / c) t,fun x=>?_⟩
 have h1:=hg x
 rw [hgc x] at h1
 rw [F2,F2]
 have h2 : 1 / c * c = 1:=Rat.div_mul_cancel hc
 rw [← h2]
 grind
theorem Part.const (h : Part p f d e) {b : List Rat} (hb : Sqf b) (hc : Cop b f) (hd : Dv b p) : ∃ c,c ≠ 0 ∧ ∀ x,pv b x = c:=by
 have h1 : Dv b d:=A4m hc (hd.congr fun x=>by rw [h.eq,D6])
 have hbn : Nz b:=by
  obtain ⟨u,hu⟩:=h1
  obtain ⟨x,hx⟩:=h.nzd
  refine ⟨x,fun e=>hx ?_⟩
  rw [hu,e];grind
 refine A95 h.nzd fun k=>?_
 have key : ∀ k : Nat,∃ u : List Rat,∀ x,pv d x = pv b x ^ (k + 1) * pv u x:=by
  intro k
  induction k with
  | zero =>
   obtain ⟨u,hu⟩:=h1
   exact ⟨u,fun x=>by rw [hu,Rat.pow_succ,Rat.pow_zero];grind⟩
  | succ k ih =>
   obtain ⟨u,hu⟩:=ih
   have h2 : Dv b (B7 (B7 f (R1 b)) (psc ((k + 1 : Nat) : Rat) u)):=by
    refine ⟨M3 (M3 (B7 e u) (B7 (R1 f) u)) (B7 f (R1 u)),B0k (A9O hbn k) fun x=>?_⟩
    have h3:=h.der x
    rw [A7T hu x,hu x] at h3
    simp only [A1L,D6,F2,Y3,X1]
    rw [Rat.pow_succ] at h3
    generalize pv b x ^ k = G at *
    generalize ((k + 1 : Nat) : Rat) = K at *
    grind
   have h4:=A4m (hc.mul hb) h2
   have hK : ((k + 1 : Nat) : Rat) ≠ 0:=fun e=>by
    rw [Rat.natCast_eq_zero_iff] at e;omega
   obtain ⟨v,hv⟩:=h4.unsc hK
   exact ⟨v,fun x=>by rw [hu x,hv x,Rat.pow_succ (pv b x) (k + 1)];grind⟩
 cases k with
 | zero=>exact ⟨d,fun x=>by rw [Rat.pow_zero];grind⟩
 | succ k=>exact key k
theorem Part.dvd (h : Part p f d e) {G : List Rat} (hG : Sqf G) (hd : Dv G p) : Dv G f:=by
 obtain ⟨n,-,hn⟩:=A3A f
 obtain ⟨a,⟨b,hb⟩,⟨f1,hf1⟩,s,t,hg⟩:=A5p n G f hn
 have han : Nz a:=by
  obtain ⟨x,hx⟩:=h.nz
  refine ⟨x,fun e=>hx ?_⟩
  rw [h.eq,hf1,e];grind
 have c1 : Cop b f1:=⟨s,t,fun x=>by
  have h1:=A02 han (u:=E4 (B7 s b) (B7 t f1)) (v:=[1]) (fun x=>by
   have := hg x
   rw [hb,hf1] at this
   rw [K3,D6,D6,N3];grind) x
  rw [K3,D6,D6,N3] at h1
  exact h1⟩
 have hG' : ∀ x,pd G x = pd a x * pv b x + pv a x * pd b x:=fun x=>by
  rw [A12 (fun y=>by rw [hb y,D6] : ∀ y,pv G y = pv (B7 a b) y) x,A1N]
 obtain ⟨S,T,hST⟩:=hG
 have hST' : ∀ x,pv S x * (pv a x * pv b x) + pv T x * (pd a x * pv b x + pv a x * pd b x) = 1:=fun x=>by
  have := hST x
  rw [X1,hG',hb] at this
  exact this
 have c2 : Cop b a:=⟨B7 T (R1 a),E4 (B7 S b) (B7 T (R1 b)),fun x=>by
  have := hST' x
  simp only [K3,D6,X1];grind⟩
 have c3 : Sqf b:=⟨E4 (B7 S a) (B7 T (R1 a)),B7 T a,fun x=>by
  have := hST' x
  simp only [K3,D6,X1];grind⟩
 have c4 : Cop b f:=(c2.mul c1).congr fun x=>by rw [D6,hf1]
 obtain ⟨c,hc,hbc⟩:=h.const c3 c4 (Dv.trans ⟨a,fun x=>by rw [hb];grind⟩ hd)
 refine ⟨psc (1 / c) f1,fun x=>?_⟩
 have h2 : 1 / c * c = 1:=Rat.div_mul_cancel hc
 rw [hf1,F2,hb,hbc]
 have : pv a x * pv f1 x = pv a x * (1 / c * c) * pv f1 x:=by rw [h2];grind
 rw [this];grind
end
def Mon (l : List Rat) : Prop:=∃ h : l ≠ [],l.getLast h = 1
theorem Mon.tr {l : List Rat} (h : Mon l) : Trm l:=fun hne=>by
 obtain ⟨h1,h2⟩:=h
 rw [h2];grind
theorem A45 {f g : List Rat} (h1 : Mon f) (h2 : Mon g) (d1 : Dv f g) (d2 : Dv g f) : f = g:=by
 obtain ⟨u,hu⟩:=d1
 obtain ⟨v,hv⟩:=d2
 have hfn : Nz f:=A8U (n:=f.length - 1) ⟨f,h1.tr,by have := List.length_pos_iff.2 h1.1;omega,fun x=>rfl⟩
 have huv : ∀ x,pv u x * pv v x = 1:=fun x=>by
  have := A02 hfn (u:=B7 u v) (v:=[1]) (fun x=>by
   have := hv x
   rw [hu] at this
   rw [D6,N3];grind) x
  rw [D6,N3] at this
  exact this
 have hun : Nz u:=⟨0,fun e=>by have := huv 0;rw [e] at this;grind⟩
 have hvn : Nz v:=⟨0,fun e=>by have := huv 0;rw [e] at this;grind⟩
 obtain ⟨i,hi⟩:=X9 hun
 obtain ⟨j,hj⟩:=X9 hvn
 have h3:=X8 (A06 hi hj) (⟨[1],fun _=>by simp,by simp,fun x=>rfl⟩ : Dg [1] 1) fun x=>by rw [D6,huv,N3]
 obtain rfl : i = 0:=by omega
 obtain ⟨c,hc,huc⟩:=A4E hi
 have h4 : g = psc c f:=A1o h2.tr (A2v hc h1.tr) fun x=>by rw [hu,huc,F2];grind
 obtain ⟨hf,hf1⟩:=h1
 obtain ⟨hg,hg1⟩:=h2
 have h5 : (psc c f).getLast (by rw [← h4];exact hg) = 1:=by
  have : ∀ (l m : List Rat) (hl : l ≠ []) (hm : m ≠ []),l = m → l.getLast hl = m.getLast hm:=by intro l m _ _ e;subst e;rfl
  rw [← hg1];exact this _ _ _ _ h4.symm
 rw [B0m _ hf,hf1] at h5
 have hc1 : c = 1:=by grind
 rw [h4,hc1]
 unfold psc
 rw [show (fun x : Rat=>1 * x) = id from funext fun x=>Rat.one_mul x,List.map_id]
def sgr (a : Rat) : Int:=if 0 < a then 1 else if a < 0 then -1 else 0
theorem A0y (a : Rat) : sgr a = 1 ∨ sgr a = -1 ∨ sgr a = 0:=by unfold sgr;grind
theorem U8 {a : Rat} : sgr a = 1 ↔ 0 < a:=by unfold sgr;grind
theorem U9 {a : Rat} : sgr a = -1 ↔ a < 0:=by unfold sgr;grind
theorem A1x {a : Rat} : sgr a = 0 ↔ a = 0:=by unfold sgr;grind
def dq : List Rat → Rat → Rat → Rat
 | [],_,_=>0
 | _ :: l,x,y=>pv l y + x * dq l x y
def dw : List Rat → Rat → Rat → Rat
 | [],_,_=>0
 | _ :: l,x,y=>dq l x y + x * dw l x y
theorem A29 (x y : Rat) : ∀ l : List Rat,pv l y - pv l x = (y - x) * dq l x y
 | []=>by simp only [pv,dq];grind
 | a :: l=>by have := A29 x y l;simp only [pv,dq];grind
theorem A4w (x y : Rat) : ∀ l : List Rat,dq l x y - pd l x = (y - x) * dw l x y
 | []=>by simp only [dq,pd,dw];grind
 | a :: l=>by have := A4w x y l;have h2:=A29 x y l;simp only [dq,pd,dw];grind
def bp : List Rat → Rat → Rat
 | [],_=>0
 | a :: l,R=>mg a + R * bp l R
def bq : List Rat → Rat → Rat
 | [],_=>0
 | _ :: l,R=>bp l R + R * bq l R
def bw : List Rat → Rat → Rat
 | [],_=>0
 | _ :: l,R=>bq l R + R * bw l R
section
variable {R : Rat}
theorem A48 (hR : 0 ≤ R) : ∀ l,0 ≤ bp l R
 | []=>by simp only [bp];grind
 | a :: l=>by have := Rat.mul_nonneg hR (A48 hR l);have := G8 a;simp only [bp];grind
theorem A1y (hR : 0 ≤ R) : ∀ l,0 ≤ bq l R
 | []=>by simp only [bq];grind
 | a :: l=>by have := Rat.mul_nonneg hR (A1y hR l);have := A48 hR l;simp only [bq];grind
theorem A4G (hR : 0 ≤ R) : ∀ l,0 ≤ bw l R
 | []=>by simp only [bw];grind
 | a :: l=>by have := Rat.mul_nonneg hR (A4G hR l);have := A1y hR l;simp only [bw];grind
theorem A0g {x y A : Rat} (hx : mg x ≤ R) (hy : mg y ≤ A) : mg (x * y) ≤ R * A:=by
 rw [V9]
 have h1:=G8 x
 have h2:=G8 y
 have h3 : mg x * mg y ≤ R * mg y:=Rat.mul_le_mul_of_nonneg_right hx h2
 have h4 : R * mg y ≤ R * A:=Rat.mul_le_mul_of_nonneg_left hy (by grind)
 exact Rat.le_trans h3 h4
theorem A1a {x : Rat} (hx : mg x ≤ R) : ∀ l,mg (pv l x) ≤ bp l R
 | []=>by simp only [pv,bp];unfold mg;grind
 | a :: l=>by
  have h:=A0g hx (A1a hx l)
  have := A1e a (x * pv l x)
  simp only [pv,bp];grind
theorem A6R {x y : Rat} (hx : mg x ≤ R) (hy : mg y ≤ R) : ∀ l,mg (dq l x y) ≤ bq l R
 | []=>by simp only [dq,bq];unfold mg;grind
 | a :: l=>by
  have h:=A0g hx (A6R hx hy l)
  have h2:=A1a hy l
  have := A1e (pv l y) (x * dq l x y)
  simp only [dq,bq];grind
theorem A7F {x y : Rat} (hx : mg x ≤ R) (hy : mg y ≤ R) : ∀ l,mg (dw l x y) ≤ bw l R
 | []=>by simp only [dw,bw];unfold mg;grind
 | a :: l=>by
  have h:=A0g hx (A7F hx hy l)
  have h2:=A6R hx hy l
  have := A1e (dq l x y) (x * dw l x y)
  simp only [dw,bw];grind
theorem P9 {a b y : Rat} (ha : mg a ≤ R) (hb : mg b ≤ R) (h1 : a ≤ y) (h2 : y ≤ b) : mg y ≤ R:=by
 rw [A2D] at *;grind
theorem B1i {l : List Rat} {x y : Rat} (hx : mg x ≤ R) (hy : mg y ≤ R) : mg (pv l y - pv l x) ≤ mg (y - x) * bq l R:=by
 rw [A29]
 exact A0g (Rat.le_refl) (A6R hx hy l)
def Cn (f : List Rat) (a b : Rat) (t : Int) : Prop:=(t = 1 ∨ t = -1) ∧ ∀ y,a ≤ y → y ≤ b → sgr (pv f y) = t
theorem A32 {f : List Rat} {a b : Rat} (hab : a ≤ b) (ha : mg a ≤ R) (hb : mg b ≤ R) : (∃ t,Cn f a b t) ∨ ∀ y,a ≤ y → y ≤ b → mg (pv f y) ≤ (b - a) * bq f R:=by
 by_cases h : ∀ y,a ≤ y → y ≤ b → mg (pv f y) ≤ (b - a) * bq f R
 ·exact .inr h
 ·refine .inl ?_
  have : ∃ y,a ≤ y ∧ y ≤ b ∧ (b - a) * bq f R < mg (pv f y):=by
   refine Classical.byContradiction fun hn=>h fun y h1 h2=>?_
   exact Rat.not_lt.1 fun h3=>hn ⟨y,h1,h2,h3⟩
  obtain ⟨y,h1,h2,h3⟩:=this
  have hR : 0 ≤ R:=Rat.le_trans (G8 a) ha
  have hy:=P9 ha hb h1 h2
  have hlip : ∀ z,a ≤ z → z ≤ b → mg (pv f z - pv f y) < mg (pv f y):=fun z h4 h5=>by
   have h6:=B1i (l:=f) hy (P9 ha hb h4 h5)
   have h7 : mg (z - y) ≤ b - a:=by rw [A2D];grind
   have h8 : mg (z - y) * bq f R ≤ (b - a) * bq f R:=Rat.mul_le_mul_of_nonneg_right h7 (A1y hR f)
   grind
  rcases A0y (pv f y) with h4 | h4 | h4
  ·refine ⟨1,.inl rfl,fun z h5 h6=>?_⟩
   have h7:=hlip z h5 h6
   rw [U8] at h4 ⊢
   unfold mg at h7;grind
  ·refine ⟨-1,.inr rfl,fun z h5 h6=>?_⟩
   have h7:=hlip z h5 h6
   rw [U9] at h4 ⊢
   unfold mg at h7;grind
  ·rw [A1x] at h4
   have := hlip y h1 h2
   rw [h4] at this
   unfold mg at this;grind
end
def Mn (f : List Rat) (a b : Rat) (t : Int) : Prop:=(t = 1 ∨ t = -1) ∧ (∀ y,a ≤ y → y ≤ b → sgr (pd f y) = t) ∧ ∀ y z,a ≤ y → y < z → z ≤ b → sgr (pv f z - pv f y) = t
theorem B1C {R ε : Rat} {f g : List Rat} {a b : Rat} (hg : ∀ x,pv g x = pd f x) (hab : a ≤ b) (ha : mg a ≤ R) (hb : mg b ≤ R) (hsep : ∀ x,mg x ≤ R → ε ≤ mg (pv f x) ∨ ε ≤ mg (pv g x)) (h1 : (b - a) * bq f R < ε) (h2 : (b - a) * bq g R < ε) (h3 : (b - a) * bw f R < ε) : (∃ t,Cn f a b t) ∨ ∃ t,Mn f a b t:=by
 rcases A32 (f:=f) hab ha hb with h | h
 ·exact .inl h
 ·refine .inr ?_
  have hR : 0 ≤ R:=Rat.le_trans (G8 a) ha
  have hge : ∀ y,a ≤ y → y ≤ b → ε ≤ mg (pv g y):=fun y h4 h5=>by
   rcases hsep y (P9 ha hb h4 h5) with h6 | h6
   ·have := h y h4 h5;grind
   ·exact h6
  rcases A32 (f:=g) hab ha hb with ⟨t,ht,hc⟩ | h4
  ·refine ⟨t,ht,fun y h4 h5=>by rw [← hg];exact hc y h4 h5,fun y z h4 h5 h6=>?_⟩
   have h7:=hc y h4 (by grind)
   have h8:=hge y h4 (by grind)
   have hy:=P9 ha hb h4 (show y ≤ b by grind)
   have hz:=P9 ha hb (show a ≤ z by grind) h6
   have h9:=A4w y z f
   have h10 : mg ((z - y) * dw f y z) ≤ mg (z - y) * bw f R:=A0g Rat.le_refl (A7F hy hz f)
   have h11 : mg (z - y) ≤ b - a:=by rw [A2D];grind
   have h12 : mg (z - y) * bw f R ≤ (b - a) * bw f R:=Rat.mul_le_mul_of_nonneg_right h11 (A4G hR f)
   rw [← hg y] at h9
   have h13 : sgr (dq f y z) = t:=by
    have h14 : mg (dq f y z - pv g y) < mg (pv g y):=by rw [h9];grind
    rcases ht with rfl | rfl
    ·rw [U8] at h7 ⊢;unfold mg at h14;grind
    ·rw [U9] at h7 ⊢;unfold mg at h14;grind
   rw [A29]
   rcases ht with rfl | rfl
   ·rw [U8] at h13 ⊢;exact Rat.mul_pos (by grind) h13
   ·rw [U9] at h13 ⊢
    have := Rat.mul_pos (show 0 < z - y by grind) (show 0 < -dq f y z by grind)
    grind
  ·have := h4 a (by grind) hab
   have := hge a (by grind) hab
   grind
theorem A08 {s : Nat → Int} {i : Nat} (h : s i ≠ 0) : (D9 s (i + 1)).2 = s i ∧ (D9 s (i + 1)).1 = (D9 s i).1 + if s i = -(D9 s i).2 then 1 else 0:=by
 simp only [D9,if_neg h]
 refine ⟨trivial,?_⟩
 split <;> simp
theorem A8X {s : Nat → Int} {k : Nat} (h : s k ≠ 0) (h2 : s (k + 2) = -s k) (h1 : s (k + 1) = 0 ∨ s (k + 1) = s k ∨ s (k + 1) = -s k) : (D9 s (k + 3)).1 = (D9 s (k + 1)).1 + 1:=by
 have h3 : s (k + 2) ≠ 0:=by omega
 have e0:=A08 h
 have e2:=A08 h3
 rw [show k + 3 = k + 2 + 1 from rfl,e2.2]
 by_cases hz : s (k + 1) = 0
 ·have e : D9 s (k + 2) = D9 s (k + 1):=by
   rw [show k + 2 = k + 1 + 1 from rfl,D9,if_pos hz]
  rw [e,e0.1,if_pos h2]
 ·have e1:=A08 hz
  rw [show k + 2 = k + 1 + 1 from rfl] at h2 ⊢
  rw [e1.1,e1.2,e0.1]
  rcases h1 with h1 | h1 | h1
  ·exact absurd h1 hz
  ·rw [if_neg (by omega),if_pos (by omega)]
  ·rw [if_pos (by omega),if_neg (by omega)]
theorem B2b {s s' : Nat → Int} {K j : Nat} (hs : ∀ i,s i = 1 ∨ s i = -1 ∨ s i = 0) (hs' : ∀ i,s' i = 1 ∨ s' i = -1 ∨ s' i = 0) (hj : s j = s' j ∧ s j ≠ 0)
  (hm : ∀ i,j < i → i < K → (s i = s' i ∧ s i ≠ 0) ∨ (s (i - 1) = s' (i - 1) ∧ s (i - 1) ≠ 0 ∧ s (i + 1) = s' (i + 1) ∧ s (i + 1) = -s (i - 1))) :
  ∀ i,j ≤ i → i ≤ K → s i = s' i → s i ≠ 0 → ((D9 s (i + 1)).1 : Int) - (D9 s' (i + 1)).1 = ((D9 s (j + 1)).1 : Int) - (D9 s' (j + 1)).1:=by
 intro i
 induction i using Nat.strongRecOn with
 | _ i ih =>
  intro hji hiK he hne
  by_cases hij : i = j
  ·rw [hij]
  ·obtain ⟨p,rfl⟩ : ∃ p,i = p + 1:=⟨i - 1,by omega⟩
   have hp : s p = s' p ∧ s p ≠ 0 ∨ ¬ (s p = s' p ∧ s p ≠ 0):=Classical.em _
   rcases hp with hp | hp
   ·have h1:=ih p (by omega) (by omega) (by omega) hp.1 hp.2
    have e1:=A08 hne
    have e2:=A08 (s:=s') (i:=p + 1) (by rw [← he];exact hne)
    have e3:=A08 hp.2
    have e4:=A08 (s:=s') (i:=p) (by rw [← hp.1];exact hp.2)
    rw [e1.2,e2.2,e3.1,e4.1,← he,← hp.1]
    split <;> omega
   ·have hpj : p ≠ j:=fun e=>hp (by rw [e];exact hj)
    rcases hm p (by omega) (by omega) with h2 | ⟨h2,h3,h4,h5⟩
    ·exact absurd h2 hp
    ·obtain ⟨k,rfl⟩ : ∃ k,p = k + 1:=⟨p - 1,by omega⟩
     simp only [Nat.add_sub_cancel] at h2 h3 h4 h5
     have h4 : s (k + 2) = s' (k + 2):=h4
     have h5 : s (k + 2) = -s k:=h5
     have h6:=ih k (by omega) (by omega) (by omega) h2 h3
     have e1:=A8X (s:=s) (k:=k) h3 h5 (by have := hs (k + 1);have := hs k;omega)
     have e2:=A8X (s:=s') (k:=k) (by omega) (by omega) (by have := hs' (k + 1);have := hs' k;omega)
     rw [show k + 1 + 1 + 1 = k + 3 from rfl,e1,e2]
     omega
structure Sturm (C : Nat → List Rat) (K : Nat) : Prop where
 last : ∃ c,c ≠ 0 ∧ ∀ x,pv (C K) x = c
 der : 1 ≤ K → ∀ x,pv (C 1) x = pd (C 0) x
 step : ∀ i,i + 2 ≤ K → ∃ (q : List Rat) (β : Rat),0 < β ∧ ∀ x,pv (C i) x = pv q x * pv (C (i + 1)) x - β * pv (C (i + 2)) x
def chV (C : Nat → List Rat) (K : Nat) (x : Rat) : Nat:=(D9 (fun i=>sgr (pv (C i) x)) (K + 1)).1
def spl (f : List Rat) (x : Rat) : Int:=if sgr (pv f x) = 0 then sgr (pd f x) else sgr (pv f x)
structure Loc (C : Nat → List Rat) (K : Nat) (a b : Rat) : Prop where
 nz : spl (C 0) a = 1 ∨ spl (C 0) a = -1
 no : sgr (pv (C 0) b) = spl (C 0) a → chV C K a = chV C K b ∧ spl (C 0) b = spl (C 0) a
 yes : sgr (pv (C 0) b) ≠ spl (C 0) a → chV C K a = chV C K b + 1 ∧ spl (C 0) b = -spl (C 0) a
structure FineC (C : Nat → List Rat) (K : Nat) (R ε T L : Rat) : Prop where
 e0 : 0 < ε
 T1 : 1 ≤ T
 L0 : 0 ≤ L
 sep : ∀ i,i < K → ∀ x,mg x ≤ R → ε ≤ mg (pv (C i) x) ∨ ε ≤ mg (pv (C (i + 1)) x)
 top : ∀ x,mg x ≤ R → ε ≤ mg (pv (C K) x)
 step : ∀ i,i + 2 ≤ K → ∃ (q : List Rat) (β : Rat),0 < β ∧ (∀ x,mg x ≤ R → mg (pv q x) ≤ T * β) ∧ ∀ x,pv (C i) x = pv q x * pv (C (i + 1)) x - β * pv (C (i + 2)) x
 lip : ∀ i,i ≤ K → bq (C i) R ≤ L
 bwL : bw (C 0) R ≤ L
theorem FineC.loc {C : Nat → List Rat} {K : Nat} {R ε T L a b : Rat} (hS : Sturm C K) (h : FineC C K R ε T L) (ha : mg a ≤ R) (hb : mg b ≤ R) (hab : a < b) (hd : T * ((b - a) * L) < ε) : Loc C K a b:=by
 have hba : 0 < b - a:=by grind
 have hR : 0 ≤ R:=Rat.le_trans (G8 a) ha
 have hL : (b - a) * L < ε:=by
  have h1 : 0 ≤ (b - a) * L:=Rat.mul_nonneg (by grind) h.L0
  have h2 : 1 * ((b - a) * L) ≤ T * ((b - a) * L):=Rat.mul_le_mul_of_nonneg_right h.T1 h1
  grind
 have hl : ∀ i,i ≤ K → (b - a) * bq (C i) R < ε:=fun i hi=>by
  have : (b - a) * bq (C i) R ≤ (b - a) * L:=Rat.mul_le_mul_of_nonneg_left (h.lip i hi) (by grind)
  grind
 have hcn : ∀ i,i ≤ K → (∃ t,Cn (C i) a b t) ∨ ∀ y,a ≤ y → y ≤ b → mg (pv (C i) y) ≤ (b - a) * L:=fun i hi=>by
  rcases A32 (f:=C i) (Rat.le_of_lt hab) ha hb with h1 | h1
  ·exact .inl h1
  ·refine .inr fun y h2 h3=>Rat.le_trans (h1 y h2 h3) (Rat.mul_le_mul_of_nonneg_left (h.lip i hi) (by grind))
 have htop : ∃ t,Cn (C K) a b t:=by
  rcases hcn K (Nat.le_refl _) with h1 | h1
  ·exact h1
  ·have := h1 a Rat.le_refl (by grind)
   have := h.top a ha
   grind
 have hmid : ∀ i,i + 2 ≤ K → (∃ t,Cn (C (i + 1)) a b t) ∨ ∃ t,Cn (C i) a b t ∧ Cn (C (i + 2)) a b (-t):=fun i hi=>by
  rcases hcn (i + 1) (by omega) with h1 | h1
  ·exact .inl h1
  ·refine .inr ?_
   have g0 : ∀ y,a ≤ y → y ≤ b → ε ≤ mg (pv (C i) y) ∧ ε ≤ mg (pv (C (i + 2)) y):=fun y h2 h3=>by
    have h4:=h1 y h2 h3
    have hy:=P9 ha hb h2 h3
    constructor
    ·rcases h.sep i (by omega) y hy with h5 | h5
     ·exact h5
     ·grind
    ·rcases h.sep (i + 1) (by omega) y hy with h5 | h5
     ·grind
     ·exact h5
   have c0 : ∃ t,Cn (C i) a b t:=by
    rcases hcn i (by omega) with h2 | h2
    ·exact h2
    ·have := h2 a Rat.le_refl (by grind)
     have := (g0 a Rat.le_refl (by grind)).1
     grind
   have c2 : ∃ t,Cn (C (i + 2)) a b t:=by
    rcases hcn (i + 2) (by omega) with h2 | h2
    ·exact h2
    ·have := h2 a Rat.le_refl (by grind)
     have := (g0 a Rat.le_refl (by grind)).2
     grind
   obtain ⟨t,ht,hc⟩:=c0
   obtain ⟨t2,ht2,hc2⟩:=c2
   obtain ⟨q,β,hβ,hq,hst⟩:=h.step i hi
   have e1:=hc a Rat.le_refl (by grind)
   have e2:=hc2 a Rat.le_refl (by grind)
   have e3:=hst a
   have e4:=(g0 a Rat.le_refl (by grind)).2
   have e5 : mg (pv q a * pv (C (i + 1)) a) ≤ (T * β) * ((b - a) * L):=A0g (hq a ha) (h1 a Rat.le_refl (by grind))
   have e6 : (T * β) * ((b - a) * L) < β * ε:=by
    have := Rat.mul_lt_mul_of_pos_left hd hβ
    grind
   have e7 : β * ε ≤ β * mg (pv (C (i + 2)) a):=Rat.mul_le_mul_of_nonneg_left e4 (Rat.le_of_lt hβ)
   have e8 : mg (β * pv (C (i + 2)) a) = β * mg (pv (C (i + 2)) a):=by
    rw [V9];congr 1;unfold mg;grind
   have e9 : mg (pv q a * pv (C (i + 1)) a) < mg (β * pv (C (i + 2)) a):=by grind
   have e10 : t2 = -t:=by
    have e11 : sgr (β * pv (C (i + 2)) a) = t2:=by
     rcases ht2 with rfl | rfl
     ·rw [U8] at e2 ⊢;exact Rat.mul_pos hβ e2
     ·rw [U9] at e2 ⊢
      have := Rat.mul_pos hβ (show 0 < -pv (C (i + 2)) a by grind)
      grind
    rcases ht with rfl | rfl <;> rcases ht2 with rfl | rfl
    ·rw [U8] at e1 e11;unfold mg at e9;grind
    ·rfl
    ·rfl
    ·rw [U9] at e1 e11;unfold mg at e9;grind
   exact ⟨t,⟨ht,hc⟩,by rw [← e10];exact ⟨ht2,hc2⟩⟩
 have hsgn : ∀ x i,(fun i=>sgr (pv (C i) x)) i = 1 ∨ (fun i=>sgr (pv (C i) x)) i = -1 ∨ (fun i=>sgr (pv (C i) x)) i = 0:=fun x i=>A0y _
 have cnab : ∀ i t,Cn (C i) a b t → sgr (pv (C i) a) = t ∧ sgr (pv (C i) b) = t ∧ (t = 1 ∨ t = -1):=fun i t hc=>⟨hc.2 a Rat.le_refl (by grind),hc.2 b (by grind) Rat.le_refl,hc.1⟩
 have run : ∀ j,j ≤ K → (∃ t,Cn (C j) a b t) → ((chV C K a : Nat) : Int) - (chV C K b : Nat) = ((D9 (fun i=>sgr (pv (C i) a)) (j + 1)).1 : Int) - ((D9 (fun i=>sgr (pv (C i) b)) (j + 1)).1 : Int):=fun j hj ⟨t,ht⟩=>by
  obtain ⟨tk,htk⟩:=htop
  have k1:=cnab K tk htk
  have j1:=cnab j t ht
  refine B2b (s:=fun i=>sgr (pv (C i) a)) (s':=fun i=>sgr (pv (C i) b)) (K:=K) (j:=j) (hsgn a) (hsgn b) ⟨by show sgr _ = sgr _;rw [j1.1,j1.2.1],by show sgr _ ≠ 0;rw [j1.1];omega⟩ ?_ K hj (Nat.le_refl _) (by show sgr _ = sgr _;rw [k1.1,k1.2.1]) (by show sgr _ ≠ 0;rw [k1.1];omega)
  intro i h1 h2
  obtain ⟨p,rfl⟩ : ∃ p,i = p + 1:=⟨i - 1,by omega⟩
  rcases hmid p (by omega) with ⟨u,hu⟩ | ⟨u,hu,hu2⟩
  ·have u1:=cnab _ u hu
   exact .inl ⟨by show sgr _ = sgr _;rw [u1.1,u1.2.1],by show sgr _ ≠ 0;rw [u1.1];omega⟩
  ·have u1:=cnab _ u hu
   have u2:=cnab _ _ hu2
   refine .inr ⟨?_,?_,?_,?_⟩
   ·show sgr _ = sgr _;simp only [Nat.add_sub_cancel];rw [u1.1,u1.2.1]
   ·show sgr _ ≠ 0;simp only [Nat.add_sub_cancel];rw [u1.1];omega
   ·show sgr _ = sgr _;rw [u2.1,u2.2.1]
   ·show sgr _ = -sgr _;simp only [Nat.add_sub_cancel];rw [u2.1,u1.1]
 rcases hcn 0 (by omega) with ⟨t,ht⟩ | h0
 ·have t1:=cnab 0 t ht
  have r:=run 0 (by omega) ⟨t,ht⟩
  have hsa : spl (C 0) a = t:=by unfold spl;rw [t1.1,if_neg (by omega)]
  have hsb : spl (C 0) b = t:=by unfold spl;rw [t1.2.1,if_neg (by omega)]
  have hr : ((D9 (fun i=>sgr (pv (C i) a)) 1).1 : Int) = ((D9 (fun i=>sgr (pv (C i) b)) 1).1 : Int):=by
   simp only [D9,t1.1,t1.2.1]
  exact ⟨by rw [hsa];exact t1.2.2,fun _=>⟨by have : 0 + 1 = 1:=rfl;rw [this] at r;omega,hsb.trans hsa.symm⟩,fun hn=>absurd (t1.2.1.trans hsa.symm) hn⟩
 ·have hK : 1 ≤ K:=by
   cases K with
   | zero =>
    obtain ⟨t,ht⟩:=htop
    have := h0 a Rat.le_refl (by grind)
    have := h.top a ha
    grind
   | succ K=>omega
  have hmn : ∃ t,Mn (C 0) a b t:=by
   have hbw : (b - a) * bw (C 0) R < ε:=by
    have : (b - a) * bw (C 0) R ≤ (b - a) * L:=Rat.mul_le_mul_of_nonneg_left h.bwL (by grind)
    grind
   rcases B1C (f:=C 0) (g:=C 1) (ε:=ε) (hS.der hK) (Rat.le_of_lt hab) ha hb (h.sep 0 (by omega)) (hl 0 (by omega)) (hl 1 hK) hbw with ⟨t,ht⟩ | h1
   ·have t1:=cnab 0 t ht
    have := h0 a Rat.le_refl (by grind)
    have h5:=h.sep 0 (by omega) a ha
    rcases hcn 1 hK with ⟨u,hu⟩ | h6
    ·-- the derivative keeps its sign
     refine ⟨u,hu.1,fun y h7 h8=>by rw [← hS.der hK];exact hu.2 y h7 h8,fun y z h7 h8 h9=>?_⟩
     have hy:=P9 ha hb h7 (show y ≤ b by grind)
     have hz:=P9 ha hb (show a ≤ z by grind) h9
     have i1:=hu.2 y h7 (by grind)
     have i2 : ε ≤ mg (pv (C 1) y):=by
      rcases h.sep 0 (by omega) y hy with i3 | i3
      ·have := h0 y h7 (by grind);grind
      ·exact i3
     have i3:=A4w y z (C 0)
     have i4 : mg ((z - y) * dw (C 0) y z) ≤ mg (z - y) * bw (C 0) R:=A0g Rat.le_refl (A7F hy hz (C 0))
     have i5 : mg (z - y) ≤ b - a:=by rw [A2D];grind
     have i6 : mg (z - y) * bw (C 0) R ≤ (b - a) * bw (C 0) R:=Rat.mul_le_mul_of_nonneg_right i5 (A4G hR (C 0))
     rw [← hS.der hK y] at i3
     have i7 : sgr (dq (C 0) y z) = u:=by
      have i8 : mg (dq (C 0) y z - pv (C 1) y) < mg (pv (C 1) y):=by rw [i3];grind
      rcases hu.1 with rfl | rfl
      ·rw [U8] at i1 ⊢;unfold mg at i8;grind
      ·rw [U9] at i1 ⊢;unfold mg at i8;grind
     rw [A29]
     rcases hu.1 with rfl | rfl
     ·rw [U8] at i7 ⊢;exact Rat.mul_pos (by grind) i7
     ·rw [U9] at i7 ⊢
      have := Rat.mul_pos (show 0 < z - y by grind) (show 0 < -dq (C 0) y z by grind)
      grind
    ·have := h6 a Rat.le_refl (by grind)
     grind
   ·exact h1
  obtain ⟨t,ht,hdt,hmt⟩:=hmn
  have c1 : Cn (C 1) a b t:=⟨ht,fun y h1 h2=>by rw [hS.der hK];exact hdt y h1 h2⟩
  have t1:=cnab 1 t c1
  have r:=run 1 hK ⟨t,c1⟩
  have hm:=hmt a b Rat.le_refl hab Rat.le_refl
  have hda:=hdt a Rat.le_refl (by grind)
  have hdb:=hdt b (by grind) Rat.le_refl
  have val : ∀ x,sgr (pv (C 1) x) = t → ((D9 (fun i=>sgr (pv (C i) x)) (1 + 1)).1 : Int) = if sgr (pv (C 0) x) = -t then 1 else 0:=fun x hx=>by
   simp only [D9,hx]
   rcases A0y (pv (C 0) x) with h1 | h1 | h1 <;> rcases ht with rfl | rfl <;> simp [h1]
  rw [val a t1.1,val b t1.2.1] at r
  have hspa : spl (C 0) a = if sgr (pv (C 0) a) = 0 then t else sgr (pv (C 0) a):=by unfold spl;rw [hda]
  have hspb : spl (C 0) b = if sgr (pv (C 0) b) = 0 then t else sgr (pv (C 0) b):=by unfold spl;rw [hdb]
  have mono : (sgr (pv (C 0) a) ≠ -t → sgr (pv (C 0) b) = t):=by
   intro h1
   rcases ht with rfl | rfl
   ·rw [U8] at hm ⊢
    rcases A0y (pv (C 0) a) with h2 | h2 | h2
    ·rw [U8] at h2;grind
    ·exact absurd h2 h1
    ·rw [A1x] at h2;grind
   ·rw [U9] at hm ⊢
    rcases A0y (pv (C 0) a) with h2 | h2 | h2
    ·exact absurd h2 h1
    ·rw [U9] at h2;grind
    ·rw [A1x] at h2;grind
  have hA:=A0y (pv (C 0) a)
  have hB:=A0y (pv (C 0) b)
  refine ⟨by rw [hspa];split <;> omega,fun e=>?_,fun e=>?_⟩
  ·rw [hspa] at e
   rw [hspa,hspb]
   generalize sgr (pv (C 0) a) = A at *
   generalize sgr (pv (C 0) b) = B at *
   constructor
   ·split at e <;> split at r <;> split at r <;> omega
   ·have hB0 : B ≠ 0:=by split at e <;> omega
    rw [if_neg hB0];exact e
  ·rw [hspa] at e
   rw [hspa,hspb]
   generalize sgr (pv (C 0) a) = A at *
   generalize sgr (pv (C 0) b) = B at *
   constructor
   ·split at e <;> split at r <;> split at r <;> omega
   ·split at e <;> split <;> omega
end Go.Proofs.YtlkniebmjdoopaaGreatDoor
