/- Contracts and laws. -/
import Derived.Test.YtlkniebmjdoopaaGreatDoorK39
set_option linter.unusedSimpArgs false
set_option linter.unusedVariables false
namespace Go.Proofs.YtlkniebmjdoopaaGreatDoor
theorem A6v : ∀ {p q : List Rat},p.length < q.length → (E3 p q).length = q.length ∧ (Trm q → Trm (E3 p q))
 | [],q,_=>⟨by simp [E3],fun h=>by simpa [E3] using h⟩
 | a :: l,[],h=>by simp at h
 | a :: l,b :: m,h=>by
  have hl : l.length < m.length:=by simpa using h
  obtain ⟨h1,h2⟩:=A6v hl
  refine ⟨by simp [E3,h1],fun hq hne=>?_⟩
  have hm : E3 l m ≠ []:=fun e=>by rw [e] at h1;simp at h1;omega
  simp only [E3]
  rw [List.getLast_cons hm]
  exact h2 hq.tail hm
theorem A9M {k : Rat} {l : List Rat} (h : psc k l ≠ []) (hl : l ≠ []) : (psc k l).getLast h = k * l.getLast hl:=List.getLast_map h
theorem A2R {k : Rat} (hk : k ≠ 0) {l : List Rat} (h : Trm l) : Trm (psc k l):=fun hne=>by
 have hl : l ≠ []:=fun e=>by subst e;simp [psc] at hne
 rw [A9M hne hl]
 exact fun e=>(Rat.mul_eq_zero.1 e).elim hk (h hl)
def Dg (l : List Rat) (n : Nat) : Prop:=∃ t,Trm t ∧ t.length = n ∧ ∀ x,pv t x = pv l x
theorem A4Y (l : List Rat) : ∃ n,n ≤ l.length ∧ Dg l n:=by
 obtain ⟨t,h1,h2,h3⟩:=A5R l
 exact ⟨t.length,h2,t,h1,rfl,fun x=>(h3 x).1⟩
theorem X3 {l m : List Rat} {a b : Nat} (h : Dg l a) (h2 : Dg m b) (he : ∀ x,pv l x = pv m x) : a = b:=by
 obtain ⟨t,h3,h4,h5⟩:=h
 obtain ⟨s,h6,h7,h8⟩:=h2
 rw [← h4,← h7,A2j h3 h6 fun x=>by rw [h5,h8,he]]
theorem A3Y {l : List Rat} (h : Dg l 0) (x : Rat) : pv l x = 0:=by
 obtain ⟨t,h3,h4,h5⟩:=h
 rw [← h5,List.length_eq_zero_iff.1 h4];rfl
theorem A7G {l : List Rat} {n : Nat} (h : Dg l (n + 1)) : Nz l:=by
 by_cases hz : Nz l
 ·exact hz
 ·have h0 : ∀ x,pv l x = 0:=fun x=>by
   by_cases hx : pv l x = 0
   ·exact hx
   ·exact absurd ⟨x,hx⟩ hz
  have := X3 h (⟨[],fun h=>absurd rfl h,rfl,fun x=>(h0 x).symm⟩ : Dg l 0) fun _=>rfl
  omega
theorem A4C {l : List Rat} (h : Dg l 1) : ∃ c,c ≠ 0 ∧ ∀ x,pv l x = c:=by
 obtain ⟨t,h3,h4,h5⟩:=h
 obtain ⟨c,rfl⟩:=List.length_eq_one_iff.1 h4
 exact ⟨c,h3 (by simp),fun x=>by rw [← h5,R0]⟩
theorem A6B : ∀ {a b : List Rat},a ≠ [] → b ≠ [] → Trm a → Trm b → ∃ t,Trm t ∧ t.length + 1 = a.length + b.length ∧ ∀ x,pv t x = pv a x * pv b x
 | [],_,h,_,_,_=>absurd rfl h
 | [a],b,_,hb,h1,h2=>⟨psc a b,A2R (h1 (by simp)) h2,by simp [psc];omega,fun x=>by rw [F1,R0]⟩
 | a :: a2 :: l,b,_,hb,h1,h2=>by
  obtain ⟨t,h3,h4,h5⟩:=A6B (a:=a2 :: l) (by simp) hb h1.tail h2
  have hbl : 0 < b.length:=List.length_pos_iff.2 hb
  have ht : t ≠ []:=fun e=>by rw [e] at h4;simp at h4;omega
  have hlt : (psc a b).length < (0 :: t).length:=by simp only [psc,List.length_map,List.length_cons] at h4 ⊢;omega
  have hT : Trm (0 :: t):=fun hne=>by rw [List.getLast_cons ht];exact h3 ht
  obtain ⟨h6,h7⟩:=A6v hlt
  refine ⟨E3 (psc a b) (0 :: t),h7 hT,?_,fun x=>?_⟩
  ·rw [h6];simp only [List.length_cons] at h4 ⊢;omega
  ·have := h5 x
   simp only [I9,F1,pv,this];grind
theorem A06 {a b : List Rat} {m n : Nat} (ha : Dg a (m + 1)) (hb : Dg b (n + 1)) : Dg (B8 a b) (m + n + 1):=by
 obtain ⟨t,h3,h4,h5⟩:=ha
 obtain ⟨s,h6,h7,h8⟩:=hb
 obtain ⟨r,h9,h10,h11⟩:=A6B (a:=t) (b:=s) (fun e=>by rw [e] at h4;simp at h4) (fun e=>by rw [e] at h7;simp at h7) h3 h6
 exact ⟨r,h9,by omega,fun x=>by rw [h11,h5,h8,E4]⟩
theorem Y2 {a : List Rat} (h : Nz a) : ∃ n,Dg a (n + 1):=by
 obtain ⟨n,-,hn⟩:=A4Y a
 cases n with
 | zero =>
  obtain ⟨x,hx⟩:=h
  exact absurd (A3Y hn x) hx
 | succ n=>exact ⟨n,hn⟩
def S9 (b : List Rat) : Nat → List Rat
 | 0=>[1]
 | k + 1=>B8 (S9 b k) b
theorem A08 (b : List Rat) (x : Rat) : ∀ k,pv (S9 b k) x = pv b x ^ k
 | 0=>by rw [S9,P9,Rat.pow_zero]
 | k + 1=>by rw [S9,E4,A08 b x k,Rat.pow_succ]
theorem A8A (b : List Rat) (x : Rat) : ∀ k : Nat,pd (S9 b (k + 1)) x = ((k + 1 : Nat) : Rat) * pv b x ^ k * pd b x
 | 0=>by rw [S9,A0D,S9,B1Z,R0,Rat.pow_zero];grind
 | k + 1=>by
  rw [S9,A0D,A8A b x k,A08,Rat.pow_succ]
  have : ((k + 1 + 1 : Nat) : Rat) = ((k + 1 : Nat) : Rat) + 1:=by rw [Rat.natCast_add];rfl
  rw [this];grind
theorem A6h {b : List Rat} {m : Nat} (h : Dg b (m + 1)) : ∀ k,Dg (S9 b k) (k * m + 1)
 | 0=>⟨[1],fun _=>by simp,by simp,fun x=>rfl⟩
 | k + 1=>by
  have := A06 (A6h h k) h
  rw [show (k + 1) * m = k * m + m by rw [Nat.add_mul,Nat.one_mul]]
  exact this
theorem A9a {d g : List Rat} (hd : Nz d) (h : ∀ k : Nat,∃ u : List Rat,∀ x,pv d x = pv g x ^ k * pv u x) : ∃ c,c ≠ 0 ∧ ∀ x,pv g x = c:=by
 obtain ⟨n,hn⟩:=Y2 hd
 have hg : Nz g:=by
  obtain ⟨u,hu⟩:=h 1
  obtain ⟨x,hx⟩:=hd
  refine ⟨x,fun e=>hx ?_⟩
  rw [hu x,e];grind
 obtain ⟨m,hm⟩:=Y2 hg
 obtain ⟨u,hu⟩:=h (n + 1)
 have hun : Nz u:=by
  obtain ⟨x,hx⟩:=hd
  refine ⟨x,fun e=>hx ?_⟩
  rw [hu x,e];grind
 obtain ⟨j,hj⟩:=Y2 hun
 have h1:=A06 (A6h hm (n + 1)) hj
 have h2:=X3 hn h1 fun x=>by rw [hu x,E4,A08]
 cases m with
 | zero=>exact A4C hm
 | succ m =>
  have : (n + 1) * (m + 1) = (n + 1) * m + (n + 1):=Nat.mul_succ _ _
  omega
theorem A92 (s t : List Rat) (x : Rat) : pv (s ++ t) x = pv s x + x ^ s.length * pv t x:=by
 induction s with
 | nil=>simp only [List.nil_append,pv,List.length_nil,Rat.pow_zero];grind
 | cons a s ih=>simp only [List.cons_append,pv,List.length_cons,Rat.pow_succ,ih];grind
theorem A8V {b : List Rat} (hb : b ≠ []) (ht : Trm b) : ∀ a : List Rat,∃ q r : List Rat,r.length < b.length ∧ ∀ x,pv a x = pv q x * pv b x + pv r x
 | []=>⟨[],[],List.length_pos_iff.2 hb,fun x=>by simp only [pv];grind⟩
 | a0 :: a=>by
  obtain ⟨q,r,h1,h2⟩:=A8V hb ht a
  by_cases hlt : (a0 :: r).length < b.length
  ·refine ⟨0 :: q,a0 :: r,hlt,fun x=>?_⟩
   simp only [pv,h2 x];grind
  ·have hlen : (a0 :: r).length = b.length:=by simp only [List.length_cons] at hlt ⊢;omega
   have hz:=ht hb
   have e1:=List.dropLast_concat_getLast hb
   have e2:=List.dropLast_concat_getLast (show a0 :: r ≠ [] by simp)
   generalize b.getLast hb = z at hz e1
   generalize (a0 :: r).getLast (by simp) = y at e2
   have l1 : b.dropLast.length = b.length - 1:=List.length_dropLast
   have l2 : (a0 :: r).dropLast.length = (a0 :: r).length - 1:=List.length_dropLast
   generalize b.dropLast = b' at e1 l1
   generalize (a0 :: r).dropLast = s at e2 l2
   have hpadd : ∀ p q : List Rat,(E3 p q).length = max p.length q.length:=by
    intro p
    induction p with
    | nil=>intro q;simp [E3]
    | cons p0 p ih =>
     intro q
     cases q with
     | nil=>simp [E3]
     | cons q0 q=>simp only [E3,List.length_cons,ih];omega
   refine ⟨E3 (0 :: q) [y / z],E3 s (psc (-(y / z)) b'),?_,fun x=>?_⟩
   ·have hbl : 0 < b.length:=List.length_pos_iff.2 hb
    rw [hpadd]
    simp only [psc,List.length_map]
    omega
   ·have h3 : pv (a0 :: a) x = pv (0 :: q) x * pv b x + pv (a0 :: r) x:=by simp only [pv,h2 x];grind
    rw [h3,← e1,← e2,I9,I9,F1,R0,A92,A92,R0,R0]
    have l3 : s.length = b'.length:=by omega
    have h4 : y / z * z = y:=Rat.div_mul_cancel hz
    rw [l3]
    generalize x ^ b'.length = X
    have h5 : y / z * (X * z) = X * y:=by rw [← h4];grind
    grind
def Dv (a b : List Rat) : Prop:=∃ u : List Rat,∀ x,pv b x = pv a x * pv u x
def Cop (a b : List Rat) : Prop:=∃ s t : List Rat,∀ x,pv s x * pv a x + pv t x * pv b x = 1
theorem A9X : ∀ (n : Nat) (a b : List Rat),Dg b n → ∃ g : List Rat,Dv g a ∧ Dv g b ∧ ∃ s t : List Rat,∀ x,pv g x = pv s x * pv a x + pv t x * pv b x:=by
 intro n
 induction n using Nat.strongRecOn with
 | _ n ih =>
  intro a b hb
  cases n with
  | zero =>
   exact ⟨a,⟨[1],fun x=>by rw [P9];grind⟩,⟨[],fun x=>by rw [A3Y hb x];simp only [pv];grind⟩,[1],[],fun x=>by rw [P9,A3Y hb x];grind⟩
  | succ n =>
   obtain ⟨t,h3,h4,h5⟩:=hb
   obtain ⟨q,r,h6,h7⟩:=A8V (b:=t) (fun e=>by rw [e] at h4;simp at h4) h3 a
   obtain ⟨k,h8,h9⟩:=A4Y r
   obtain ⟨g,⟨u,hu⟩,⟨v,hv⟩,s,w,hg⟩:=ih k (by omega) t r h9
   refine ⟨g,⟨E3 (B8 q u) v,fun x=>?_⟩,⟨u,fun x=>by rw [← h5,hu]⟩,w,K7 s (B8 w q),fun x=>?_⟩
   ·rw [h7,hu,hv,I9,E4];grind
   ·have e1:=h7 x
    have e2:=h5 x
    rw [hg,Y3,E4]
    rw [e2] at e1 ⊢
    grind
theorem Cop.symm {a b : List Rat} (h : Cop a b) : Cop b a:=by
 obtain ⟨s,t,h⟩:=h
 exact ⟨t,s,fun x=>by have := h x;grind⟩
theorem Cop.dvd {a b a' : List Rat} (h : Cop a b) (ha : Dv a' a) : Cop a' b:=by
 obtain ⟨s,t,h⟩:=h
 obtain ⟨u,hu⟩:=ha
 exact ⟨B8 s u,t,fun x=>by rw [E4];have := h x;rw [hu x] at this;grind⟩
theorem Cop.mul {a b c : List Rat} (h : Cop a b) (h2 : Cop a c) : Cop a (B8 b c):=by
 obtain ⟨s,t,h⟩:=h
 obtain ⟨p,q,h2⟩:=h2
 refine ⟨E3 (E3 (B8 (B8 s p) a) (B8 (B8 s q) c)) (B8 (B8 t p) b),B8 t q,fun x=>?_⟩
 have e1:=h x
 have e2:=h2 x
 simp only [I9,E4]
 grind
theorem Cop.congr {a b c : List Rat} (h : Cop a b) (he : ∀ x,pv b x = pv c x) : Cop a c:=by
 obtain ⟨s,t,h⟩:=h
 exact ⟨s,t,fun x=>by rw [← he];exact h x⟩
theorem A6Y {a b c : List Rat} (h : Cop a b) (hd : Dv a (B8 b c)) : Dv a c:=by
 obtain ⟨s,t,h⟩:=h
 obtain ⟨u,hu⟩:=hd
 refine ⟨E3 (B8 s c) (B8 t u),fun x=>?_⟩
 have e1:=h x
 have e2:=hu x
 rw [E4] at e2
 simp only [I9,E4]
 have : pv c x = (pv s x * pv a x + pv t x * pv b x) * pv c x:=by rw [e1];grind
 rw [this]
 grind
theorem Dv.trans {a b c : List Rat} (h : Dv a b) (h2 : Dv b c) : Dv a c:=by
 obtain ⟨u,hu⟩:=h
 obtain ⟨v,hv⟩:=h2
 exact ⟨B8 u v,fun x=>by rw [hv,hu,E4];grind⟩
theorem Dv.refl (a : List Rat) : Dv a a:=⟨[1],fun x=>by rw [P9];grind⟩
theorem Dv.congr {a b c : List Rat} (h : Dv a b) (he : ∀ x,pv b x = pv c x) : Dv a c:=by
 obtain ⟨u,hu⟩:=h
 exact ⟨u,fun x=>by rw [← he,hu]⟩
theorem Dv.unsc {a b : List Rat} {k : Rat} (hk : k ≠ 0) (h : Dv a (psc k b)) : Dv a b:=by
 obtain ⟨u,hu⟩:=h
 refine ⟨psc (1 / k) u,fun x=>?_⟩
 have := hu x
 rw [F1] at this
 rw [F1]
 have h1 : 1 / k * k = 1:=Rat.div_mul_cancel hk
 have : pv b x = 1 / k * (k * pv b x):=by rw [← Rat.mul_assoc,h1];grind
 rw [this];grind
def Sqf (f : List Rat) : Prop:=Cop f (L8 f)
structure Part (p f d e : List Rat) : Prop where
 nz : Nz p
 eq : ∀ x,pv p x = pv f x * pv d x
 der' : ∀ x,pd p x = pv e x * pv d x
 c : Cop f e
section
variable {p f d e : List Rat}
theorem Part.nzd (h : Part p f d e) : Nz d:=by
 obtain ⟨x,hx⟩:=h.nz
 refine ⟨x,fun e=>hx ?_⟩
 rw [h.eq,e];grind
theorem Part.der (h : Part p f d e) (x : Rat) : pd f x * pv d x + pv f x * pd d x = pv e x * pv d x:=by
 rw [← h.der' x,A0a (fun y=>by rw [h.eq y,E4] : ∀ y,pv p y = pv (B8 f d) y) x,A0D]
theorem A7T {g u d : List Rat} {k : Nat} (h : ∀ x,pv d x = pv g x ^ (k + 1) * pv u x) (x : Rat) : pd d x = pv g x ^ k * (((k + 1 : Nat) : Rat) * pd g x * pv u x + pv g x * pd u x):=by
 rw [A0a (fun y=>by rw [h y,E4,A08] : ∀ y,pv d y = pv (B8 (S9 g (k + 1)) u) y) x,A0D,A8A,A08,Rat.pow_succ]
 grind
theorem A74 {g : List Rat} (h : Nz g) (k : Nat) : Nz (S9 g k):=by
 induction k with
 | zero=>exact ⟨0,by rw [S9,P9];grind⟩
 | succ k ih=>exact B5U ih h
theorem A9r {g u v w : List Rat} (hg : Nz g) (h : ∀ x,pv g x * pv u x = pv g x * pv (B8 v w) x) (x : Rat) : pv u x = pv v x * pv w x:=(A21 hg h x).trans (E4 x v w)
theorem Part.sqf (h : Part p f d e) : Sqf f:=by
 obtain ⟨n,-,hn⟩:=A4Y (L8 f)
 obtain ⟨g,⟨f1,hf1⟩,⟨f2,hf2⟩,s,t,hg⟩:=A9X n f (L8 f) hn
 have hge : Cop g e:=h.c.dvd ⟨f1,hf1⟩
 have hgn : Nz g:=by
  obtain ⟨x,hx⟩:=h.nz
  refine ⟨x,fun e=>hx ?_⟩
  rw [h.eq,hf1,e];grind
 have hf' : ∀ x,pd f x = pd g x * pv f1 x + pv g x * pd f1 x:=fun x=>by
  rw [A0a (fun y=>by rw [hf1 y,E4] : ∀ y,pv f y = pv (B8 g f1) y) x,A0D]
 have key : ∀ k : Nat,∃ u : List Rat,∀ x,pv d x = pv g x ^ k * pv u x:=by
  intro k
  induction k with
  | zero=>exact ⟨d,fun x=>by rw [Rat.pow_zero];grind⟩
  | succ k ih =>
   obtain ⟨u,hu⟩:=ih
   have hdv : Dv g (B8 e u):=by
    cases k with
    | zero =>
     have hu' : ∀ x,pv d x = pv u x:=fun x=>by rw [hu x,Rat.pow_zero];grind
     refine ⟨E3 (B8 f2 u) (B8 f1 (L8 u)),fun x=>?_⟩
     have h1:=h.der x
     rw [hu' x,A0a hu' x,← S8 x f,hf2 x] at h1
     have h2:=hf1 x
     simp only [E4,I9,S8]
     rw [h2] at h1
     grind
    | succ k =>
     refine ⟨E3 (E3 (B8 f2 u) (psc ((k + 1 : Nat) : Rat) (B8 (K7 f2 (L8 f1)) u))) (B8 f1 (L8 u)),A9r (A74 hgn (k + 1)) fun x=>?_⟩
     have h1:=h.der x
     have h2:=hf1 x
     have h3:=hf2 x
     have h4:=hf' x
     rw [S8] at h3
     rw [A7T hu x,hu x] at h1
     simp only [A08,E4,I9,F1,Y3,S8]
     rw [Rat.pow_succ] at h1 ⊢
     generalize pv g x ^ k = G at *
     generalize ((k + 1 : Nat) : Rat) = K at *
     have h5 : pd g x * pv f1 x = pv g x * pv f2 x - pv g x * pd f1 x:=by grind
     have h6 : pv f x * (G * (K * pd g x * pv u x + pv g x * pd u x)) = G * pv g x * (K * (pd g x * pv f1 x) * pv u x + pv g x * pv f1 x * pd u x):=by rw [h2];grind
     rw [h6,h5,h3] at h1
     grind
   obtain ⟨v,hv⟩:=A6Y hge hdv
   exact ⟨v,fun x=>by rw [hu x,hv x,Rat.pow_succ];grind⟩
 obtain ⟨c,hc,hgc⟩:=A9a h.nzd key
 refine ⟨psc (1 / c) s,psc (1 / c) t,fun x=>?_⟩
 have h1:=hg x
 rw [hgc x] at h1
 rw [F1,F1]
 have h2 : 1 / c * c = 1:=Rat.div_mul_cancel hc
 rw [← h2]
 grind
theorem Part.const (h : Part p f d e) {b : List Rat} (hb : Sqf b) (hc : Cop b f) (hd : Dv b p) : ∃ c,c ≠ 0 ∧ ∀ x,pv b x = c:=by
 have h1 : Dv b d:=A6Y hc (hd.congr fun x=>by rw [h.eq,E4])
 have hbn : Nz b:=by
  obtain ⟨u,hu⟩:=h1
  obtain ⟨x,hx⟩:=h.nzd
  refine ⟨x,fun e=>hx ?_⟩
  rw [hu,e];grind
 refine A9a h.nzd fun k=>?_
 have key : ∀ k : Nat,∃ u : List Rat,∀ x,pv d x = pv b x ^ (k + 1) * pv u x:=by
  intro k
  induction k with
  | zero =>
   obtain ⟨u,hu⟩:=h1
   exact ⟨u,fun x=>by rw [hu,Rat.pow_succ,Rat.pow_zero];grind⟩
  | succ k ih =>
   obtain ⟨u,hu⟩:=ih
   have h2 : Dv b (B8 (B8 f (L8 b)) (psc ((k + 1 : Nat) : Rat) u)):=by
    refine ⟨K7 (K7 (B8 e u) (B8 (L8 f) u)) (B8 f (L8 u)),A9r (A74 hbn k) fun x=>?_⟩
    have h3:=h.der x
    rw [A7T hu x,hu x] at h3
    simp only [A08,E4,F1,Y3,S8]
    rw [Rat.pow_succ] at h3
    generalize pv b x ^ k = G at *
    generalize ((k + 1 : Nat) : Rat) = K at *
    grind
   have h4:=A6Y (hc.mul hb) h2
   have hK : ((k + 1 : Nat) : Rat) ≠ 0:=fun e=>by
    rw [Rat.natCast_eq_zero_iff] at e;omega
   obtain ⟨v,hv⟩:=h4.unsc hK
   exact ⟨v,fun x=>by rw [hu x,hv x,Rat.pow_succ (pv b x) (k + 1)];grind⟩
 cases k with
 | zero=>exact ⟨d,fun x=>by rw [Rat.pow_zero];grind⟩
 | succ k=>exact key k
theorem Part.dvd (h : Part p f d e) {G : List Rat} (hG : Sqf G) (hd : Dv G p) : Dv G f:=by
 obtain ⟨n,-,hn⟩:=A4Y f
 obtain ⟨a,⟨b,hb⟩,⟨f1,hf1⟩,s,t,hg⟩:=A9X n G f hn
 have han : Nz a:=by
  obtain ⟨x,hx⟩:=h.nz
  refine ⟨x,fun e=>hx ?_⟩
  rw [h.eq,hf1,e];grind
 have c1 : Cop b f1:=⟨s,t,fun x=>by
  have h1:=A21 han (u:=E3 (B8 s b) (B8 t f1)) (v:=[1]) (fun x=>by
   have := hg x
   rw [hb,hf1] at this
   rw [I9,E4,E4,P9];grind) x
  rw [I9,E4,E4,P9] at h1
  exact h1⟩
 have hG' : ∀ x,pd G x = pd a x * pv b x + pv a x * pd b x:=fun x=>by
  rw [A0a (fun y=>by rw [hb y,E4] : ∀ y,pv G y = pv (B8 a b) y) x,A0D]
 obtain ⟨S,T,hST⟩:=hG
 have hST' : ∀ x,pv S x * (pv a x * pv b x) + pv T x * (pd a x * pv b x + pv a x * pd b x) = 1:=fun x=>by
  have := hST x
  rw [S8,hG',hb] at this
  exact this
 have c2 : Cop b a:=⟨B8 T (L8 a),E3 (B8 S b) (B8 T (L8 b)),fun x=>by
  have := hST' x
  simp only [I9,E4,S8];grind⟩
 have c3 : Sqf b:=⟨E3 (B8 S a) (B8 T (L8 a)),B8 T a,fun x=>by
  have := hST' x
  simp only [I9,E4,S8];grind⟩
 have c4 : Cop b f:=(c2.mul c1).congr fun x=>by rw [E4,hf1]
 obtain ⟨c,hc,hbc⟩:=h.const c3 c4 (Dv.trans ⟨a,fun x=>by rw [hb];grind⟩ hd)
 refine ⟨psc (1 / c) f1,fun x=>?_⟩
 have h2 : 1 / c * c = 1:=Rat.div_mul_cancel hc
 rw [hf1,F1,hb,hbc]
 have : pv a x * pv f1 x = pv a x * (1 / c * c) * pv f1 x:=by rw [h2];grind
 rw [this];grind
end
def Mon (l : List Rat) : Prop:=∃ h : l ≠ [],l.getLast h = 1
theorem Mon.tr {l : List Rat} (h : Mon l) : Trm l:=fun hne=>by
 obtain ⟨h1,h2⟩:=h
 rw [h2];grind
theorem A3t {f g : List Rat} (h1 : Mon f) (h2 : Mon g) (d1 : Dv f g) (d2 : Dv g f) : f = g:=by
 obtain ⟨u,hu⟩:=d1
 obtain ⟨v,hv⟩:=d2
 have hfn : Nz f:=A7G (n:=f.length - 1) ⟨f,h1.tr,by have := List.length_pos_iff.2 h1.1;omega,fun x=>rfl⟩
 have huv : ∀ x,pv u x * pv v x = 1:=fun x=>by
  have := A21 hfn (u:=B8 u v) (v:=[1]) (fun x=>by
   have := hv x
   rw [hu] at this
   rw [E4,P9];grind) x
  rw [E4,P9] at this
  exact this
 have hun : Nz u:=⟨0,fun e=>by have := huv 0;rw [e] at this;grind⟩
 have hvn : Nz v:=⟨0,fun e=>by have := huv 0;rw [e] at this;grind⟩
 obtain ⟨i,hi⟩:=Y2 hun
 obtain ⟨j,hj⟩:=Y2 hvn
 have h3:=X3 (A06 hi hj) (⟨[1],fun _=>by simp,by simp,fun x=>rfl⟩ : Dg [1] 1) fun x=>by rw [E4,huv,P9]
 obtain rfl : i = 0:=by omega
 obtain ⟨c,hc,huc⟩:=A4C hi
 have h4 : g = psc c f:=A2j h2.tr (A2R hc h1.tr) fun x=>by rw [hu,huc,F1];grind
 obtain ⟨hf,hf1⟩:=h1
 obtain ⟨hg,hg1⟩:=h2
 have h5 : (psc c f).getLast (by rw [← h4];exact hg) = 1:=by
  have : ∀ (l m : List Rat) (hl : l ≠ []) (hm : m ≠ []),l = m → l.getLast hl = m.getLast hm:=by intro l m _ _ e;subst e;rfl
  rw [← hg1];exact this _ _ _ _ h4.symm
 rw [A9M _ hf,hf1] at h5
 have hc1 : c = 1:=by grind
 rw [h4,hc1]
 unfold psc
 rw [show (fun x : Rat=>1 * x) = id from funext fun x=>Rat.one_mul x,List.map_id]
end Go.Proofs.YtlkniebmjdoopaaGreatDoor
