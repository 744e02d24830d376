/- Contracts and laws. -/
import Derived.Test.YtlkniebmjdoopaaGreatDoorR40
set_option linter.unusedSimpArgs false
set_option linter.unusedVariables false
namespace Go.Proofs.YtlkniebmjdoopaaGreatDoor
def A0T (f : Nat → Nat) : Nat → Nat → Nat
 | 0,i=>i
 | n + 1,i=>if f i = 0 then i else A0T f n (i + 1)
theorem A6s {f : Nat → Nat} (h : ∀ i,f i ≠ 0 → f (i + 1) < f i) : ∀ n i,f i ≤ n → f (A0T f n i) = 0 ∧ i ≤ A0T f n i ∧ ∀ j,i ≤ j → j < A0T f n i → f j ≠ 0
 | 0,i,hi=>⟨by rw [A0T];omega,Nat.le_refl _,fun j h1 h2=>by rw [A0T] at h2;omega⟩
 | n + 1,i,hi=>by
  rw [A0T]
  by_cases h0 : f i = 0
  ·rw [if_pos h0]
   exact ⟨h0,Nat.le_refl _,fun j h1 h2=>by omega⟩
  ·rw [if_neg h0]
   obtain ⟨h1,h2,h3⟩:=A6s h n (i + 1) (by have := h i h0;omega)
   refine ⟨h1,by omega,fun j h4 h5=>?_⟩
   by_cases e : j = i
   ·rw [e];exact h0
   ·exact h3 j (by omega) h5
def gS (g0 g1 : List Rat) : Nat → List Rat × List Rat
 | 0=>(g0,g1)
 | i + 1=>((gS g0 g1 i).2,E8 (B9 (gS g0 g1 i).1 (gS g0 g1 i).2).2)
def gG (g0 g1 : List Rat) (i : Nat) : List Rat:=(gS g0 g1 i).1
theorem B6G (g0 g1 : List Rat) : gG g0 g1 1 = g1:=rfl
theorem A2E (g0 g1 : List Rat) (i : Nat) : gG g0 g1 (i + 2) = E8 (B9 (gG g0 g1 i) (gG g0 g1 (i + 1))).2:=rfl
def gN (g0 g1 : List Rat) : Nat:=A0T (fun i=>(gG g0 g1 (i + 1)).length) g1.length 0
def G6 (a b : List Rat) : List Rat:=gG (E8 a) (E8 b) (gN (E8 a) (E8 b))
section
variable {g0 g1 : List Rat}
theorem A36 (h0 : Trm g0) (h1 : Trm g1) : ∀ i,Trm (gG g0 g1 i)
 | 0=>h0
 | 1=>h1
 | i + 2=>by rw [A2E];exact A0W _
theorem A94 (h0 : Trm g0) (h1 : Trm g1) (i : Nat) (h : (gG g0 g1 (i + 1)).length ≠ 0) : (gG g0 g1 (i + 2)).length < (gG g0 g1 (i + 1)).length:=by
 have ht:=F6 (A36 h0 h1 (i + 1))
 rw [A2E,Z2,F6 (A4W _ _).2]
 have := A1r (gG g0 g1 i) (gG g0 g1 (i + 1)) (by rw [ht];exact h)
 omega
theorem A2p (h0 : Trm g0) (h1 : Trm g1) : (gG g0 g1 (gN g0 g1 + 1)).length = 0 ∧ ∀ i,i < gN g0 g1 → (gG g0 g1 (i + 1)).length ≠ 0:=by
 obtain ⟨h2,-,h3⟩:=A6s (f:=fun i=>(gG g0 g1 (i + 1)).length) (fun i h=>A94 h0 h1 i h) g1.length 0 (Nat.le_refl _)
 exact ⟨h2,fun i hi=>h3 i (by omega) hi⟩
theorem A0M (l : List Rat) : ∃ k,k ≠ 0 ∧ ∀ x,pv (E8 l) x = k * pv l x:=by
 by_cases h : trN l = 0
 ·refine ⟨1,by grind,fun x=>?_⟩
  rw [A3u h,← P5 l,List.length_eq_zero_iff.1 ((E6 l).trans h)]
  simp only [pv];grind
 ·refine ⟨1 / B6 l,fun e=>?_,A43 h⟩
  have : 1 / B6 l * B6 l = 1:=Rat.div_mul_cancel (S2 h)
  rw [e] at this;grind
theorem A9x (h0 : Trm g0) (h1 : Trm g1) : ∀ i,i ≤ gN g0 g1 → (∃ s t : List Rat,∀ x,pv (gG g0 g1 i) x = pv s x * pv g0 x + pv t x * pv g1 x) ∧ ∃ s t : List Rat,∀ x,pv (gG g0 g1 (i + 1)) x = pv s x * pv g0 x + pv t x * pv g1 x
 | 0,_=>⟨⟨[1],[],fun x=>by rw [N3];show pv g0 x = _;simp only [pv];grind⟩,⟨[],[1],fun x=>by rw [N3,B6G];simp only [pv];grind⟩⟩
 | i + 1,h=>by
  obtain ⟨⟨s,t,hs⟩,u,v,hu⟩:=A9x h0 h1 i (by omega)
  refine ⟨⟨u,v,hu⟩,?_⟩
  have hz:=(A2p h0 h1).2 i (by omega)
  have hd:=A2h (gG g0 g1 i) (gG g0 g1 (i + 1)) (by rw [F6 (A36 h0 h1 (i + 1))];exact hz)
  obtain ⟨k,-,hk⟩:=A0M (B9 (gG g0 g1 i) (gG g0 g1 (i + 1))).2
  refine ⟨psc k (M3 s (B7 (B9 (gG g0 g1 i) (gG g0 g1 (i + 1))).1 u)),psc k (M3 t (B7 (B9 (gG g0 g1 i) (gG g0 g1 (i + 1))).1 v)),fun x=>?_⟩
  have h3:=hd x
  rw [A2E,hk]
  rw [hs,hu] at h3
  simp only [F2,Y3,D6]
  grind
theorem B0B (h0 : Trm g0) (h1 : Trm g1) : ∀ j,j ≤ gN g0 g1 → Dv (gG g0 g1 (gN g0 g1)) (gG g0 g1 (gN g0 g1 - j)) ∧ Dv (gG g0 g1 (gN g0 g1)) (gG g0 g1 (gN g0 g1 - j + 1))
 | 0,_=>⟨Dv.refl _,[],fun x=>by
   rw [Nat.sub_zero,List.length_eq_zero_iff.1 (A2p h0 h1).1]
   simp only [pv];grind⟩
 | j + 1,h=>by
  obtain ⟨⟨u,hu⟩,v,hv⟩:=B0B h0 h1 j (by omega)
  obtain ⟨i,hi⟩ : ∃ i,gN g0 g1 - j = i + 1:=⟨gN g0 g1 - j - 1,by omega⟩
  rw [show gN g0 g1 - (j + 1) = i by omega]
  rw [hi] at hu hv
  refine ⟨?_,u,hu⟩
  have hz:=(A2p h0 h1).2 i (by omega)
  have hd:=A2h (gG g0 g1 i) (gG g0 g1 (i + 1)) (by rw [F6 (A36 h0 h1 (i + 1))];exact hz)
  obtain ⟨k,hk0,hk⟩:=A0M (B9 (gG g0 g1 i) (gG g0 g1 (i + 1))).2
  refine ⟨E4 (B7 (B9 (gG g0 g1 i) (gG g0 g1 (i + 1))).1 u) (psc (1 / k) v),fun x=>?_⟩
  have h3:=hk x
  rw [← A2E,hv] at h3
  have h4 : 1 / k * k = 1:=Rat.div_mul_cancel hk0
  have h5 : pv (B9 (gG g0 g1 i) (gG g0 g1 (i + 1))).2 x = 1 / k * (pv (gG g0 g1 (gN g0 g1)) x * pv v x):=by rw [h3,← Rat.mul_assoc,h4];grind
  rw [hd,h5,hu,K3,D6,F2]
  grind
end
theorem Dv.sc {a b c : List Rat} {k : Rat} (h : Dv a b) (hk : k ≠ 0) (hb : ∀ x,pv b x = k * pv c x) : Dv a c:=by
 have : Dv a (psc k c):=h.congr fun x=>by rw [hb,F2]
 exact this.unsc hk
theorem A6G (a b : List Rat) : Dv (G6 a b) a ∧ Dv (G6 a b) b ∧ ∃ s t : List Rat,∀ x,pv (G6 a b) x = pv s x * pv a x + pv t x * pv b x:=by
 have h:=B0B (A0W a) (A0W b) _ (Nat.le_refl _)
 rw [Nat.sub_self] at h
 obtain ⟨k,hk,hk2⟩:=A0M a
 obtain ⟨j,hj,hj2⟩:=A0M b
 obtain ⟨⟨s,t,hs⟩,-⟩:=A9x (A0W a) (A0W b) _ (Nat.le_refl _)
 refine ⟨h.1.sc hk hk2,h.2.sc hj hj2,psc k s,psc j t,fun x=>?_⟩
 have := hs x
 rw [hk2,hj2] at this
 unfold G6
 rw [this,F2,F2];grind
theorem A5X {a : List Rat} (b : List Rat) (h : trN a ≠ 0) : Mon (G6 a b):=by
 unfold G6
 have hN:=(A2p (A0W a) (A0W b)).2
 generalize gN (E8 a) (E8 b) = N at *
 cases N with
 | zero=>exact Z9 h
 | succ N =>
  have h1:=hN N (by omega)
  cases N with
  | zero =>
   refine Z9 fun e=>h1 ?_
   show (E8 b).length = 0
   rw [Z2,e]
  | succ N =>
   rw [A2E] at h1 ⊢
   refine Z9 fun e=>h1 ?_
   rw [Z2,e]
theorem Mon.nz {l : List Rat} (h : Mon l) : Nz l:=Q9.2 (by rw [F6 h.tr];exact fun e=>h.1 (List.length_eq_zero_iff.1 e))
theorem A8s {a b : List Rat} (hb : trN b ≠ 0) (h : Dv b a) : (B9 a b).2 = [] ∧ ∀ x,pv a x = pv (B9 a b).1 x * pv b x:=by
 have h1:=A2h a b hb
 have h2:=A1r a b hb
 obtain ⟨u,hu⟩:=h
 have hr : ∀ x,pv (B9 a b).2 x = pv b x * pv (M3 u (B9 a b).1) x:=fun x=>by
  have := h1 x
  rw [hu] at this
  rw [Y3];grind
 have hz : ∀ x,pv (B9 a b).2 x = 0:=by
  by_cases hn : Nz (M3 u (B9 a b).1)
  ·exfalso
   obtain ⟨n,hn⟩:=X9 hn
   obtain ⟨m,hm⟩:=Nat.exists_eq_succ_of_ne_zero hb
   have h3:=A0U b
   rw [hm] at h3
   have h4:=X8 (A0U (B9 a b).2) (A06 h3 hn) fun x=>by rw [hr,D6]
   have h5:=H8 (B9 a b).2
   omega
  ·intro x
   rw [hr]
   by_cases h0 : pv (M3 u (B9 a b).1) x = 0
   ·rw [h0];grind
   ·exact absurd ⟨x,h0⟩ hn
 exact ⟨A1o (A4W a b).2 (fun h=>absurd rfl h) hz,fun x=>by rw [h1 x,hz];grind⟩
def C5 (p : List Rat) : List Rat:=E8 (B9 p (G6 p (D7 p))).1
theorem A5h {p : List Rat} (h : trN p ≠ 0) : ∃ d e,Part p (C5 p) d e ∧ Mon (C5 p):=by
 have hp : Nz p:=Q9.2 h
 obtain ⟨h1,⟨e0,he0⟩,s,t,hst⟩:=A6G p (D7 p)
 have hg:=A5X (D7 p) h
 have hgn:=hg.nz
 obtain ⟨h2,h3⟩:=A8s (Q9.1 hgn) h1
 have hq : trN (B9 p (G6 p (D7 p))).1 ≠ 0:=Q9.1 (by
  obtain ⟨x,hx⟩:=hp
  refine ⟨x,fun e=>hx ?_⟩
  rw [h3,e];grind)
 have ht:=S2 hq
 have hm:=A43 hq
 have hc : ∀ x,pv s x * pv (B9 p (G6 p (D7 p))).1 x + pv t x * pv e0 x = 1:=fun x=>by
  have := A02 hgn (u:=E4 (B7 s (B9 p (G6 p (D7 p))).1) (B7 t e0)) (v:=[1]) (fun x=>by
   have := hst x
   rw [he0,h3] at this
   simp only [K3,D6,N3];grind) x
  simp only [K3,D6,N3] at this
  exact this
 unfold C5
 generalize (B9 p (G6 p (D7 p))).1 = q at *
 generalize G6 p (D7 p) = g at *
 generalize hk : B6 q = k at *
 have h6 : 1 / k * k = 1:=Rat.div_mul_cancel ht
 refine ⟨psc k g,psc (1 / k) e0,⟨hp,fun x=>?_,fun x=>?_,psc k s,psc k t,fun x=>?_⟩,Z9 hq⟩
 ·rw [hm,F2,h3]
  have : 1 / k * pv q x * (k * pv g x) = 1 / k * k * (pv q x * pv g x):=by grind
  rw [this,h6];grind
 ·rw [← A4r,he0,F2,F2]
  have : 1 / k * pv e0 x * (k * pv g x) = 1 / k * k * (pv g x * pv e0 x):=by grind
  rw [this,h6];grind
 ·rw [hm,F2,F2,F2]
  refine Eq.trans ?_ (hc x)
  have : k * pv s x * (1 / k * pv q x) + k * pv t x * (1 / k * pv e0 x) = 1 / k * k * (pv s x * pv q x + pv t x * pv e0 x):=by grind
  rw [this,h6];grind
structure Shape (sh : List Rat → List Rat) : Prop where
 tr : ∀ r,Trm r → Trm (sh r)
 len : ∀ r,Trm r → (sh r).length = r.length
 pos : ∀ r,Trm r → ∃ β,0 < β ∧ ∀ x,pv r x = β * pv (sh r) x
theorem A1A : Shape fun r=>r:=⟨fun _ h=>h,fun _ _=>rfl,fun r _=>⟨1,by grind,fun x=>by grind⟩⟩
theorem A0H : Shape shL:=⟨fun _ h=>B5S h,fun r h=>B3p r h,fun r h=>by
 by_cases h0 : trN r = 0
 ·refine ⟨1,by grind,fun x=>?_⟩
  unfold shL
  rw [if_pos h0];grind
 ·have ht:=S2 h0
  have hq : mg (B6 r) ≠ 0:=fun e2=>ht (A3V (by rw [e2];exact Rat.le_refl))
  refine ⟨mg (B6 r),by have := G8 (B6 r);grind,fun x=>?_⟩
  rw [B5k h0]
  have : mg (B6 r) * (1 / mg (B6 r) * pv r x) = 1 / mg (B6 r) * mg (B6 r) * pv r x:=by grind
  rw [this,Rat.div_mul_cancel hq];grind⟩
def cS (sh : List Rat → List Rat) (c : List Rat) : Nat → List Rat × List Rat
 | 0=>(c,D7 c)
 | i + 1=>((cS sh c i).2,sh (O9 (B9 (cS sh c i).1 (cS sh c i).2).2))
def cC (sh : List Rat → List Rat) (c : List Rat) (i : Nat) : List Rat:=(cS sh c i).1
def cK (sh : List Rat → List Rat) (c : List Rat) : Nat:=A0T (fun i=>(cC sh c (i + 1)).length) (D7 c).length 0
def chL (sh : List Rat → List Rat) (p : List Rat) : List (List Rat):=(List.range (cK sh (C5 p) + 1)).map (cC sh (C5 p))
section
variable {sh : List Rat → List Rat} {c : List Rat}
theorem A04 : cC sh c 0 = c:=rfl
theorem A9U : cC sh c 1 = D7 c:=rfl
theorem A1w (i : Nat) : cC sh c (i + 2) = sh (O9 (B9 (cC sh c i) (cC sh c (i + 1))).2):=rfl
variable (hs : Shape sh) (hc : Trm c)
include hs hc
theorem A2q : ∀ i,Trm (cC sh c i)
 | 0=>hc
 | 1=>A81 c
 | i + 2=>by rw [A1w];exact hs.tr _ (A3x _)
omit hs hc in
theorem A9t {l : List Rat} (h : Trm l) : (O9 l).length = l.length:=by
 have h1:=X8 (A0U (O9 l)) (⟨psc (-1) l,A2v (by grind) h,by unfold psc;rw [List.length_map],fun x=>by rw [F2,A4z];grind⟩ : Dg (O9 l) l.length) fun _=>rfl
 rw [← h1,F6 (A3x l)]
omit hc in
theorem B5t (i : Nat) : (cC sh c (i + 2)).length = (B9 (cC sh c i) (cC sh c (i + 1))).2.length:=by
 rw [A1w,hs.len _ (A3x _),A9t (A4W _ _).2]
theorem A6Q (i : Nat) (h : (cC sh c (i + 1)).length ≠ 0) : (cC sh c (i + 2)).length < (cC sh c (i + 1)).length:=by
 have ht:=F6 (A2q hs hc (i + 1))
 rw [B5t hs]
 have := A1r (cC sh c i) (cC sh c (i + 1)) (by rw [ht];exact h)
 omega
theorem A3K : (cC sh c (cK sh c + 1)).length = 0 ∧ ∀ i,i < cK sh c → (cC sh c (i + 1)).length ≠ 0:=by
 obtain ⟨h2,-,h3⟩:=A6s (f:=fun i=>(cC sh c (i + 1)).length) (fun i h=>A6Q hs hc i h) (D7 c).length 0 (Nat.le_refl _)
 exact ⟨h2,fun i hi=>h3 i (by omega) hi⟩
theorem A9f (i : Nat) (hi : i < cK sh c) : ∃ β,0 < β ∧ ∀ x,pv (cC sh c i) x = pv (B9 (cC sh c i) (cC sh c (i + 1))).1 x * pv (cC sh c (i + 1)) x - β * pv (cC sh c (i + 2)) x:=by
 have hz:=(A3K hs hc).2 i hi
 have hd:=A2h (cC sh c i) (cC sh c (i + 1)) (by rw [F6 (A2q hs hc (i + 1))];exact hz)
 obtain ⟨β,hβ,hb⟩:=hs.pos _ (A3x (B9 (cC sh c i) (cC sh c (i + 1))).2)
 refine ⟨β,hβ,fun x=>?_⟩
 have h1:=hb x
 rw [← A1w (sh:=sh),A4z] at h1
 rw [← h1,hd x];grind
theorem A7r : ∀ j,j ≤ cK sh c → Dv (cC sh c (cK sh c)) (cC sh c (cK sh c - j)) ∧ Dv (cC sh c (cK sh c)) (cC sh c (cK sh c - j + 1))
 | 0,_=>⟨Dv.refl _,[],fun x=>by
   rw [Nat.sub_zero,List.length_eq_zero_iff.1 (A3K hs hc).1]
   simp only [pv];grind⟩
 | j + 1,h=>by
  obtain ⟨⟨u,hu⟩,v,hv⟩:=A7r j (by omega)
  obtain ⟨i,hi⟩ : ∃ i,cK sh c - j = i + 1:=⟨cK sh c - j - 1,by omega⟩
  rw [show cK sh c - (j + 1) = i by omega]
  rw [hi] at hu hv
  refine ⟨?_,u,hu⟩
  obtain ⟨β,hβ,hb⟩:=A9f hs hc i (by omega)
  refine ⟨M3 (B7 (B9 (cC sh c i) (cC sh c (i + 1))).1 u) (psc β v),fun x=>?_⟩
  rw [hb,hv,hu,Y3,D6,F2]
  grind
theorem B0T (hq : Sqf c) : Sturm (cC sh c) (cK sh c):=by
 refine ⟨?_,fun h x=>by rw [A9U,A4r,A04],fun i hi=>?_⟩
 ·have h:=A7r hs hc _ (Nat.le_refl _)
  rw [Nat.sub_self] at h
  obtain ⟨⟨u,hu⟩,v,hv⟩:=h
  obtain ⟨s,t,hst⟩:=hq
  have h1 : ∀ x,pv (cC sh c (cK sh c)) x * pv (E4 (B7 s u) (B7 t v)) x = 1:=fun x=>by
   have := hst x
   rw [X1,← A4r] at this
   have e1:=hu x
   have e2:=hv x
   rw [A04] at e1
   rw [Nat.zero_add,A9U] at e2
   rw [e1,e2] at this
   simp only [K3,D6];grind
  have hn1 : Nz (cC sh c (cK sh c)):=⟨0,fun e=>by have := h1 0;rw [e] at this;grind⟩
  have hn2 : Nz (E4 (B7 s u) (B7 t v)):=⟨0,fun e=>by have := h1 0;rw [e] at this;grind⟩
  obtain ⟨i,hi⟩:=X9 hn1
  obtain ⟨j,hj⟩:=X9 hn2
  have h3:=X8 (A06 hi hj) (⟨[1],fun _=>by simp,by simp,fun x=>rfl⟩ : Dg [1] 1) fun x=>by rw [D6,h1,N3]
  obtain rfl : i = 0:=by omega
  exact A4E hi
 ·obtain ⟨β,hβ,hb⟩:=A9f hs hc i (by omega)
  exact ⟨_,β,hβ,hb⟩
end
theorem B0R (lo hi : Rat) : E9 lo hi = (lo + hi) / 2:=rfl
theorem A51 {lo hi : Rat} (h : lo < hi) : lo < E9 lo hi ∧ E9 lo hi < hi ∧ E9 lo hi - lo = (hi - lo) / 2 ∧ hi - E9 lo hi = (hi - lo) / 2:=by
 rw [B0R]
 refine ⟨by grind,by grind,by grind,by grind⟩
def L7 (V : Rat → Nat) : Nat → Rat → Rat → List (Rat × Rat)
 | 0,lo,hi=>if V lo = V hi then [] else [(lo,hi)]
 | d + 1,lo,hi=>if V lo = V hi then [] else if V lo = V hi + 1 then [(lo,hi)] else L7 V d lo (E9 lo hi) ++ L7 V d (E9 lo hi) hi
def Z0 (V : Rat → Nat) : Nat → Rat → Rat → Prop
 | 0,lo,hi=>V lo = V hi ∨ V lo = V hi + 1
 | d + 1,lo,hi=>V lo = V hi ∨ V lo = V hi + 1 ∨ (Z0 V d lo (E9 lo hi) ∧ Z0 V d (E9 lo hi) hi)
theorem A49 {V : Rat → Nat} {A B δ : Rat} (h1 : ∀ a b,A ≤ a → a < b → b ≤ B → V b ≤ V a) (h2 : ∀ a b,A ≤ a → a < b → b ≤ B → b - a ≤ δ → V a ≤ V b + 1) : ∀ (d : Nat) (lo hi : Rat),A ≤ lo → lo < hi → hi ≤ B → hi - lo ≤ δ * 2 ^ d → Z0 V d lo hi
 | 0,lo,hi,ha,hlt,hb,hd=>by
  rw [Rat.pow_zero] at hd
  have := h1 lo hi ha hlt hb
  have := h2 lo hi ha hlt hb (by grind)
  show _ ∨ _
  omega
 | d + 1,lo,hi,ha,hlt,hb,hd=>by
  obtain ⟨m1,m2,m3,m4⟩:=A51 hlt
  rw [Rat.pow_succ] at hd
  have l:=A49 h1 h2 d lo (E9 lo hi) ha m1 (by grind) (by grind)
  have r:=A49 h1 h2 d (E9 lo hi) hi (by grind) m2 hb (by grind)
  exact .inr (.inr ⟨l,r⟩)
def A1s (V : Rat → Nat) : List (Rat × Rat) × List (Rat × Rat) → List (Rat × Rat) × List (Rat × Rat)
 | ([],o)=>([],o)
 | ((lo,hi) :: r,o)=>if V lo = V hi then (r,o) else if V lo = V hi + 1 then (r,o ++ [(lo,hi)]) else ((lo,E9 lo hi) :: (E9 lo hi,hi) :: r,o)
theorem Z7 (V : Rat → Nat) (lo hi : Rat) (r o : List (Rat × Rat)) : A1s V ((lo,hi) :: r,o) = if V lo = V hi then (r,o) else if V lo = V hi + 1 then (r,o ++ [(lo,hi)]) else ((lo,E9 lo hi) :: (E9 lo hi,hi) :: r,o):=rfl
def G4 (V : Rat → Nat) (S : List (Rat × Rat) × List (Rat × Rat)) : Nat → List (Rat × Rat) × List (Rat × Rat)
 | 0=>S
 | n + 1=>A1s V (G4 V S n)
theorem A5x (V : Rat → Nat) (S : List (Rat × Rat) × List (Rat × Rat)) (m : Nat) : ∀ n,G4 V S (m + n) = G4 V (G4 V S m) n
 | 0=>rfl
 | n + 1=>by rw [show m + (n + 1) = m + n + 1 from rfl,G4,A5x V S m n];rfl
def A0X (V : Rat → Nat) : Nat → Rat → Rat → Nat
 | 0,_,_=>1
 | d + 1,lo,hi=>if V lo = V hi then 1 else if V lo = V hi + 1 then 1 else A0X V d lo (E9 lo hi) + A0X V d (E9 lo hi) hi + 1
theorem A6e (V : Rat → Nat) : ∀ (d : Nat) (lo hi : Rat),Z0 V d lo hi → ∀ r o,G4 V ((lo,hi) :: r,o) (A0X V d lo hi) = (r,o ++ L7 V d lo hi)
 | 0,lo,hi,h,r,o=>by
  show A1s V ((lo,hi) :: r,o) = _
  rw [Z7]
  unfold L7
  by_cases h0 : V lo = V hi
  ·rw [if_pos h0,if_pos h0,List.append_nil]
  ·rcases h with h | h
   ·exact absurd h h0
   ·rw [if_neg h0,if_neg h0,if_pos h]
 | d + 1,lo,hi,h,r,o=>by
  unfold A0X L7
  by_cases h0 : V lo = V hi
  ·rw [if_pos h0,if_pos h0]
   show A1s V ((lo,hi) :: r,o) = _
   rw [Z7]
   rw [if_pos h0,List.append_nil]
  ·rw [if_neg h0,if_neg h0]
   by_cases h1 : V lo = V hi + 1
   ·rw [if_pos h1,if_pos h1]
    show A1s V ((lo,hi) :: r,o) = _
    rw [Z7]
    rw [if_neg h0,if_pos h1]
   ·rw [if_neg h1,if_neg h1]
    rcases h with h | h | ⟨hl,hr⟩
    ·exact absurd h h0
    ·exact absurd h h1
    ·have e1 : G4 V ((lo,hi) :: r,o) 1 = ((lo,E9 lo hi) :: (E9 lo hi,hi) :: r,o):=by
      show A1s V ((lo,hi) :: r,o) = _
      rw [Z7]
      rw [if_neg h0,if_neg h1]
     rw [show A0X V d lo (E9 lo hi) + A0X V d (E9 lo hi) hi + 1 = 1 + A0X V d lo (E9 lo hi) + A0X V d (E9 lo hi) hi by omega,A5x,A5x,e1,A6e V d _ _ hl,A6e V d _ _ hr,List.append_assoc]
def A0R : Rat → List (Rat × Rat) → Prop
 | _,[]=>True
 | a,s :: l=>a ≤ s.1 ∧ s.1 < s.2 ∧ A0R s.2 l
theorem A9Y {b : Rat} : ∀ {a : Rat} {l m : List (Rat × Rat)},A0R a l → (∀ s ∈ l,s.2 ≤ b) → a ≤ b → A0R b m → A0R a (l ++ m)
 | a,[],m,_,_,hab,h=>by
  cases m with
  | nil=>trivial
  | cons s m=>exact ⟨Rat.le_trans hab h.1,h.2⟩
 | a,s :: l,m,h1,h2,_,h3=>⟨h1.1,h1.2.1,A9Y h1.2.2 (fun t ht=>h2 t (List.mem_cons_of_mem _ ht)) (h2 s List.mem_cons_self) h3⟩
theorem B4i {V : Rat → Nat} {A B : Rat} (h1 : ∀ a b,A ≤ a → a < b → b ≤ B → V b ≤ V a) : ∀ (d : Nat) (lo hi : Rat),A ≤ lo → lo < hi → hi ≤ B → Z0 V d lo hi →
  (L7 V d lo hi).length + V hi = V lo ∧ (∀ s ∈ L7 V d lo hi,V s.1 = V s.2 + 1 ∧ lo ≤ s.1 ∧ s.1 < s.2 ∧ s.2 ≤ hi) ∧ A0R lo (L7 V d lo hi):=by
 have one : ∀ lo hi,lo < hi → V lo = V hi + 1 → ([(lo,hi)] : List (Rat × Rat)).length + V hi = V lo ∧ (∀ s ∈ ([(lo,hi)] : List (Rat × Rat)),V s.1 = V s.2 + 1 ∧ lo ≤ s.1 ∧ s.1 < s.2 ∧ s.2 ≤ hi) ∧ A0R lo [(lo,hi)]:=fun lo hi hlt h=>by
  refine ⟨by rw [h];simp;omega,fun s hs=>?_,Rat.le_refl,hlt,trivial⟩
  obtain rfl:=List.mem_singleton.1 hs
  exact ⟨h,Rat.le_refl,hlt,Rat.le_refl⟩
 have non : ∀ lo hi,V lo = V hi → ([] : List (Rat × Rat)).length + V hi = V lo ∧ (∀ s ∈ ([] : List (Rat × Rat)),V s.1 = V s.2 + 1 ∧ lo ≤ s.1 ∧ s.1 < s.2 ∧ s.2 ≤ hi) ∧ A0R lo []:=fun lo hi h=>⟨by simp [h],(fun s hs=>by cases hs),trivial⟩
 intro d
 induction d with
 | zero =>
  intro lo hi ha hlt hb h
  unfold L7
  by_cases h0 : V lo = V hi
  ·rw [if_pos h0];exact non lo hi h0
  ·rw [if_neg h0]
   rcases h with h | h
   ·exact absurd h h0
   ·exact one lo hi hlt h
 | succ d ih =>
  intro lo hi ha hlt hb h
  unfold L7
  by_cases h0 : V lo = V hi
  ·rw [if_pos h0];exact non lo hi h0
  ·rw [if_neg h0]
   by_cases h2 : V lo = V hi + 1
   ·rw [if_pos h2];exact one lo hi hlt h2
   ·rw [if_neg h2]
    obtain ⟨m1,m2,m3,m4⟩:=A51 hlt
    rcases h with h | h | ⟨hl,hr⟩
    ·exact absurd h h0
    ·exact absurd h h2
    ·obtain ⟨a1,a2,a3⟩:=ih lo (E9 lo hi) ha m1 (by grind) hl
     obtain ⟨b1,b2,b3⟩:=ih (E9 lo hi) hi (by grind) m2 hb hr
     refine ⟨by rw [List.length_append];omega,fun s hs=>?_,A9Y a3 (fun s hs=>(a2 s hs).2.2.2) (by grind) b3⟩
     rcases List.mem_append.1 hs with hs | hs
     ·obtain ⟨c1,c2,c3,c4⟩:=a2 s hs
      exact ⟨c1,c2,c3,by grind⟩
     ·obtain ⟨c1,c2,c3,c4⟩:=b2 s hs
      exact ⟨c1,by grind,c3,c4⟩
def inN (x : Rat) : List (Rat × Rat) → Nat
 | []=>0
 | s :: l=>(if s.1 < x ∧ x ≤ s.2 then 1 else 0) + inN x l
theorem A6V (x : Rat) : ∀ l m,inN x (l ++ m) = inN x l + inN x m
 | [],m=>by simp [inN]
 | s :: l,m=>by simp only [List.cons_append,inN,A6V x l m];omega
theorem B7e {V : Rat → Nat} {A B x : Rat} (h1 : ∀ a b,A ≤ a → a < b → b ≤ B → V b ≤ V a) (hx : ∀ a b,A ≤ a → b ≤ B → a < x → x ≤ b → V b < V a) : ∀ (d : Nat) (lo hi : Rat),A ≤ lo → lo < hi → hi ≤ B → Z0 V d lo hi → inN x (L7 V d lo hi) = if lo < x ∧ x ≤ hi then 1 else 0:=by
 have non : ∀ lo hi,A ≤ lo → hi ≤ B → V lo = V hi → inN x [] = if lo < x ∧ x ≤ hi then 1 else 0:=fun lo hi ha hb h=>by
  rw [if_neg]
  ·rfl
  ·intro hh
   have := hx lo hi ha hb hh.1 hh.2
   omega
 intro d
 induction d with
 | zero =>
  intro lo hi ha hlt hb h
  unfold L7
  by_cases h0 : V lo = V hi
  ·rw [if_pos h0];exact non lo hi ha hb h0
  ·rw [if_neg h0];rfl
 | succ d ih =>
  intro lo hi ha hlt hb h
  unfold L7
  by_cases h0 : V lo = V hi
  ·rw [if_pos h0];exact non lo hi ha hb h0
  ·rw [if_neg h0]
   by_cases h2 : V lo = V hi + 1
   ·rw [if_pos h2];rfl
   ·rw [if_neg h2]
    obtain ⟨m1,m2,m3,m4⟩:=A51 hlt
    rcases h with h | h | ⟨hl,hr⟩
    ·exact absurd h h0
    ·exact absurd h h2
    ·rw [A6V,ih lo (E9 lo hi) ha m1 (by grind) hl,ih (E9 lo hi) hi (by grind) m2 hb hr]
     by_cases c1 : lo < x <;> by_cases c2 : x ≤ E9 lo hi <;> by_cases c3 : x ≤ hi <;> by_cases c4 : E9 lo hi < x <;> simp only [c1,c2,c3,c4] <;> grind
def Xz (x : Rat) (D : Nat) : Prop:=∃ u v : Int,v ≠ 0 ∧ u.natAbs < 2 ^ D ∧ v.natAbs < 2 ^ D ∧ x * (v : Rat) = (u : Rat)
def Spn (lo hi : Rat) (D : Nat) : Prop:=∃ v u1 u2 : Int,v ≠ 0 ∧ v.natAbs < 2 ^ D ∧ u1.natAbs < 2 ^ D ∧ u2.natAbs < 2 ^ D ∧ lo * (v : Rat) = (u1 : Rat) ∧ hi * (v : Rat) = (u2 : Rat)
theorem Spn.lo {lo hi : Rat} {D : Nat} (h : Spn lo hi D) : Xz lo D:=by
 obtain ⟨v,u1,u2,h0,h1,h2,h3,h4,h5⟩:=h
 exact ⟨u1,v,h0,h2,h1,h4⟩
theorem Spn.hi {lo hi : Rat} {D : Nat} (h : Spn lo hi D) : Xz hi D:=by
 obtain ⟨v,u1,u2,h0,h1,h2,h3,h4,h5⟩:=h
 exact ⟨u2,v,h0,h3,h1,h5⟩
theorem W5 {a D E : Nat} (h : a < 2 ^ D) (hle : D ≤ E) : a < 2 ^ E:=Nat.lt_of_lt_of_le h (Nat.pow_le_pow_right (by omega) hle)
theorem Xz.mono {x : Rat} {D E : Nat} (h : Xz x D) (hle : D ≤ E) : Xz x E:=by
 obtain ⟨u,v,h0,h1,h2,h3⟩:=h
 exact ⟨u,v,h0,W5 h1 hle,W5 h2 hle,h3⟩
theorem Spn.mono {lo hi : Rat} {D E : Nat} (h : Spn lo hi D) (hle : D ≤ E) : Spn lo hi E:=by
 obtain ⟨v,u1,u2,h0,h1,h2,h3,h4,h5⟩:=h
 exact ⟨v,u1,u2,h0,W5 h1 hle,W5 h2 hle,W5 h3 hle,h4,h5⟩
theorem Xz.qs {x : Rat} {D : Nat} (h : Xz x D) : Go.Proofs.YtlkniebmjdoopaaGreatDoor.qs x ≤ D:=by
 obtain ⟨u,v,h0,h1,h2,h3⟩:=h
 exact A5Z h0 h2 h3 h1
theorem Spn.of {lo hi : Rat} {D E : Nat} (h1 : Xz lo D) (h2 : Xz hi E) : Spn lo hi (D + E):=by
 obtain ⟨u,v,a0,a1,a2,a3⟩:=h1
 obtain ⟨p,q,b0,b1,b2,b3⟩:=h2
 refine ⟨v * q,u * q,p * v,Int.mul_ne_zero a0 b0,?_,?_,?_,?_,?_⟩
 ·rw [Int.natAbs_mul];exact T8 a2 b2
 ·rw [Int.natAbs_mul];exact T8 a1 b2
 ·rw [Int.natAbs_mul,Nat.add_comm];exact T8 b1 a2
 ·rw [Rat.intCast_mul,Rat.intCast_mul,← a3];grind
 ·rw [Rat.intCast_mul,Rat.intCast_mul,← b3];grind
theorem Spn.mid {lo hi : Rat} {D : Nat} (h : Spn lo hi D) : Spn lo (E9 lo hi) (D + 1) ∧ Spn (E9 lo hi) hi (D + 1):=by
 obtain ⟨v,u1,u2,h0,h1,h2,h3,h4,h5⟩:=h
 have e2 : 2 ^ (D + 1) = 2 * 2 ^ D:=by rw [Nat.pow_succ];omega
 have em : E9 lo hi * ((2 * v : Int) : Rat) = ((u1 + u2 : Int) : Rat):=by
  rw [B0R,Rat.intCast_mul,Rat.intCast_add,← h4,← h5,show ((2 : Int) : Rat) = 2 from rfl];grind
 have el : lo * ((2 * v : Int) : Rat) = ((2 * u1 : Int) : Rat):=by
  rw [Rat.intCast_mul,Rat.intCast_mul,← h4];grind
 have eh : hi * ((2 * v : Int) : Rat) = ((2 * u2 : Int) : Rat):=by
  rw [Rat.intCast_mul,Rat.intCast_mul,← h5];grind
 exact ⟨⟨2 * v,2 * u1,u1 + u2,by omega,by omega,by omega,by omega,el,em⟩,⟨2 * v,u1 + u2,2 * u2,by omega,by omega,by omega,by omega,em,eh⟩⟩
theorem B4D {l : List Rat} {x : Rat} {Z D : Nat} (hl : Czl l Z) (hx : Xz x D) (i : Nat) : qs (P4 l x i) ≤ Z + i * (D + 1):=by
 obtain ⟨d,d0,dz,hd⟩:=hl
 obtain ⟨u,v,v0,uz,vz,hv⟩:=hx
 have hvp : ∀ i : Nat,(v ^ i).natAbs ≤ 2 ^ (i * D):=A6c vz
 have key : ∀ i : Nat,∃ H : Int,P4 l x i * ((d * v ^ i : Int) : Rat) = (H : Rat) ∧ H.natAbs < 2 ^ (Z + i * (D + 1)):=by
  intro i
  induction i with
  | zero=>exact ⟨0,by rw [P4,Rat.intCast_zero];grind,Nat.two_pow_pos _⟩
  | succ i ih =>
   obtain ⟨H,h1,h2⟩:=ih
   obtain ⟨G,h3,h4⟩:=hd (l.length - 1 - i)
   refine ⟨H * u + G * v ^ (i + 1),?_,?_⟩
   ·show (P4 l x i * x + gq l (l.length - 1 - i)) * _ = _
    simp only [Rat.intCast_add,Rat.intCast_mul,Int.pow_succ] at h1 ⊢
    rw [← h1,← h3,← hv]
    grind
   ·have e1 : (H * u).natAbs < 2 ^ (Z + i * (D + 1) + D):=by rw [Int.natAbs_mul];exact T8 h2 uz
    have e2 : (G * v ^ (i + 1)).natAbs < 2 ^ (Z + (i + 1) * D):=by
     rw [Int.natAbs_mul,Nat.pow_add]
     have h5 : 0 < (v ^ (i + 1)).natAbs:=Int.natAbs_pos.2 (Int.pow_ne_zero v0)
     exact Nat.lt_of_lt_of_le (Nat.mul_lt_mul_of_pos_right h4 h5) (Nat.mul_le_mul_left _ (hvp (i + 1)))
    have e3:=W5 e2 (show Z + (i + 1) * D ≤ Z + i * (D + 1) + D by rw [Nat.succ_mul,Nat.mul_succ];omega)
    have e4:=A5E e1 e3
    rw [show Z + (i + 1) * (D + 1) = Z + i * (D + 1) + D + 1 by rw [Nat.succ_mul];omega]
    omega
 obtain ⟨H,h1,h2⟩:=key i
 refine A5Z (Int.mul_ne_zero d0 (Int.pow_ne_zero v0)) ?_ h1 h2
 rw [Int.natAbs_mul]
 have h5 : 0 < (v ^ i).natAbs:=Int.natAbs_pos.2 (Int.pow_ne_zero v0)
 have h6 : d.natAbs * (v ^ i).natAbs < 2 ^ (Z + i * D):=by
  rw [Nat.pow_add]
  exact Nat.lt_of_lt_of_le (Nat.mul_lt_mul_of_pos_right dz h5) (Nat.mul_le_mul_left _ (hvp i))
 exact W5 h6 (by have := Nat.mul_le_mul_left i (show D ≤ D + 1 by omega);omega)
theorem A8M {l : List Rat} {x : Rat} {Z D n : Nat} (hl : Czl l Z) (hx : Xz x D) (hn : l.length ≤ n) (hn2 : n ≤ 1000) (hB : 8 * (Z + D + n * (D + 1)) + 10 ≤ BIG) : A0u l x:=by
 refine ⟨by omega,Z + D + n * (D + 1),fun y hy=>Nat.le_trans (I9 hl y hy) (by omega),Nat.le_trans hx.qs (by omega),fun i hi=>?_,hB⟩
 have h1:=B4D hl hx i
 have h2:=Nat.mul_le_mul_right (D + 1) (Nat.le_trans hi hn)
 omega
def p2 (n : Nat) : Rat:=((2 ^ n : Nat) : Rat)
theorem R5 (a b : Nat) : p2 (a + b) = p2 a * p2 b:=by unfold p2;rw [Nat.pow_add,Rat.natCast_mul]
theorem A0p {a b : Nat} (h : a ≤ b) : p2 a ≤ p2 b:=by
 unfold p2;rw [Rat.natCast_le_natCast];exact Nat.pow_le_pow_right (by omega) h
theorem R2 (a : Nat) : 0 < p2 a:=by
 unfold p2
 exact Rat.natCast_pos.2 (Nat.two_pow_pos _)
theorem A71 : p2 0 = 1:=rfl
theorem A15 : p2 1 = 2:=rfl
theorem A2Q (a : Nat) : 1 ≤ p2 a:=by rw [← A71];exact A0p (by omega)
theorem A55 (t : Nat) : ∀ k : Nat,p2 t ^ k = p2 (k * t)
 | 0=>by rw [Rat.pow_zero,Nat.zero_mul,A71]
 | k + 1=>by rw [Rat.pow_succ,A55 t k,Nat.succ_mul,R5]
theorem A23 {m : Int} {Z : Nat} (h : m.natAbs < 2 ^ Z) : mg (m : Rat) ≤ p2 Z:=by
 rw [A2D]
 unfold p2
 rw [← Rat.intCast_natCast,← Rat.intCast_neg,Rat.intCast_le_intCast,Rat.intCast_le_intCast]
 have : ((2 ^ Z : Nat) : Int) = (2 ^ Z : Nat):=rfl
 constructor <;> omega
theorem A21 {d : Int} (h : d ≠ 0) : 1 ≤ mg (d : Rat):=by
 have : (1 : Rat) ≤ (d : Rat) ∨ (1 : Rat) ≤ -(d : Rat):=by
  rw [← Rat.intCast_neg,show (1 : Rat) = ((1 : Int) : Rat) from rfl,Rat.intCast_le_intCast,Rat.intCast_le_intCast]
  omega
 unfold mg;grind
theorem A6S {l : List Rat} {Z : Nat} (h : Czl l Z) (i : Nat) : mg (gq l i) ≤ p2 Z:=by
 obtain ⟨d,d0,dz,hd⟩:=h
 obtain ⟨m,h1,h2⟩:=hd i
 have h3:=A23 h2
 rw [← h1,V9] at h3
 have h4:=Rat.mul_le_mul_of_nonneg_left (A21 d0) (G8 (gq l i))
 grind
theorem B3j {l : List Rat} {Z : Nat} (h : Czl l Z) {i : Nat} (hi : gq l i ≠ 0) : 1 ≤ mg (gq l i) * p2 Z:=by
 obtain ⟨d,d0,dz,hd⟩:=h
 obtain ⟨m,h1,h2⟩:=hd i
 have hm : m ≠ 0:=fun e=>by
  rw [e] at h1
  rcases Rat.mul_eq_zero.1 (h1.trans rfl) with h | h
  ·exact hi h
  ·exact Y4 d0 h
 have h3:=A21 hm
 rw [← h1,V9] at h3
 have h4:=Rat.mul_le_mul_of_nonneg_left (A23 dz) (G8 (gq l i))
 grind
theorem A4Z {Z : Nat} (ρ : Nat) : ∀ {l : List Rat},(∀ i,mg (gq l i) ≤ p2 Z) → bp l (p2 ρ) ≤ p2 (Z + l.length * (ρ + 1)) ∧ bq l (p2 ρ) ≤ p2 (Z + l.length * (ρ + 2)) ∧ bw l (p2 ρ) ≤ p2 (Z + l.length * (ρ + 2))
 | [],_=>by
  have h1:=R2 (Z + ([] : List Rat).length * (ρ + 1))
  have h2:=R2 (Z + ([] : List Rat).length * (ρ + 2))
  simp only [bp,bq,bw]
  exact ⟨by grind,by grind,by grind⟩
 | a :: l,h=>by
  obtain ⟨h1,h2,h3⟩:=A4Z ρ (l:=l) fun i=>h (i + 1)
  have h0 : mg a ≤ p2 Z:=h 0
  have hρ:=R2 ρ
  have hρ1:=A2Q ρ
  have g1 : p2 ρ * bp l (p2 ρ) ≤ p2 ρ * p2 (Z + l.length * (ρ + 1)):=Rat.mul_le_mul_of_nonneg_left h1 (by grind)
  have g2 : p2 ρ * bq l (p2 ρ) ≤ p2 ρ * p2 (Z + l.length * (ρ + 2)):=Rat.mul_le_mul_of_nonneg_left h2 (by grind)
  have g3 : p2 ρ * bw l (p2 ρ) ≤ p2 ρ * p2 (Z + l.length * (ρ + 2)):=Rat.mul_le_mul_of_nonneg_left h3 (by grind)
  rw [← R5] at g1 g2 g3
  have e1 : p2 (Z + (a :: l).length * (ρ + 1)) = 2 * p2 (ρ + (Z + l.length * (ρ + 1))):=by
   rw [show Z + (a :: l).length * (ρ + 1) = 1 + (ρ + (Z + l.length * (ρ + 1))) by rw [List.length_cons,Nat.succ_mul];omega,R5,A15]
  have e2 : p2 (Z + (a :: l).length * (ρ + 2)) = 4 * p2 (ρ + (Z + l.length * (ρ + 2))):=by
   rw [show Z + (a :: l).length * (ρ + 2) = 1 + (1 + (ρ + (Z + l.length * (ρ + 2)))) by rw [List.length_cons,Nat.succ_mul];omega,R5,R5,A15];grind
  have m1 : p2 Z ≤ p2 (ρ + (Z + l.length * (ρ + 1))):=A0p (by omega)
  have m2 : p2 (Z + l.length * (ρ + 1)) ≤ p2 (ρ + (Z + l.length * (ρ + 2))):=A0p (by have := Nat.mul_le_mul_left l.length (show ρ + 1 ≤ ρ + 2 by omega);omega)
  have m3 : p2 (Z + l.length * (ρ + 2)) ≤ p2 (ρ + (Z + l.length * (ρ + 2))):=A0p (by omega)
  have m4:=R2 (ρ + (Z + l.length * (ρ + 2)))
  rw [e1,e2]
  simp only [bp,bq,bw]
  exact ⟨by grind,by grind,by grind⟩
theorem B3U {f : List Rat} {Z n ρ : Nat} (hf : Trm f) (hq : Sqf f) (hK : cK (fun r=>r) f ≤ n) (hZq : ∀ i,i < cK (fun r=>r) f → Czl (B9 (cC (fun r=>r) f i) (cC (fun r=>r) f (i + 1))).1 Z ∧ (B9 (cC (fun r=>r) f i) (cC (fun r=>r) f (i + 1))).1.length ≤ n) (hZl : Czl (cC (fun r=>r) f (cK (fun r=>r) f)) Z) :
  ∀ x,mg x ≤ p2 ρ → 1 ≤ mg (pv f x) * p2 (Z + n * (Z + n * (ρ + 1) + 1)) ∨ 1 ≤ mg (pv (D7 f) x) * p2 (Z + n * (Z + n * (ρ + 1) + 1)):=by
 intro x hx
 have hS:=B0T A1A hf hq
 obtain ⟨c,hc,hlast⟩:=hS.last
 have hκ : 1 ≤ mg c * p2 Z:=by
  have h0 : gq (cC (fun r=>r) f (cK (fun r=>r) f)) 0 ≠ 0:=fun e=>hc (by
   rw [← hlast 0]
   have : ∀ l : List Rat,pv l 0 = gq l 0:=fun l=>by
    cases l with
    | nil=>rfl
    | cons a l=>simp only [pv,A0t];grind
   rw [this,e])
  have h1:=B3j hZl h0
  have : ∀ l : List Rat,pv l 0 = gq l 0:=fun l=>by
   cases l with
   | nil=>rfl
   | cons a l=>simp only [pv,A0t];grind
  rw [← this,hlast] at h1
  exact h1
 by_cases hK0 : cK (fun r=>r) f = 0
 ·left
  rw [hK0] at hlast
  rw [show pv f x = c from hlast x,R5]
  have h2:=A2Q (n * (Z + n * (ρ + 1) + 1))
  have h3:=Rat.mul_le_mul_of_nonneg_left h2 (show (0 : Rat) ≤ mg c * p2 Z by grind)
  grind
 have ht : ∀ i,i + 2 ≤ cK (fun r=>r) f → ∃ (q : List Rat) (β : Rat),0 < β ∧ (∀ x,mg x ≤ p2 ρ → 1 + mg (pv q x) ≤ p2 (Z + n * (ρ + 1) + 1) * β) ∧ ∀ x,pv (cC (fun r=>r) f i) x = pv q x * pv (cC (fun r=>r) f (i + 1)) x - β * pv (cC (fun r=>r) f (i + 2)) x:=fun i hi=>by
  obtain ⟨z1,z2⟩:=hZq i (by omega)
  have hz:=(A3K A1A hf).2 i (by omega)
  have hd:=A2h (cC (fun r=>r) f i) (cC (fun r=>r) f (i + 1)) (by rw [F6 (A2q A1A hf (i + 1))];exact hz)
  refine ⟨(B9 (cC (fun r=>r) f i) (cC (fun r=>r) f (i + 1))).1,1,by grind,fun y hy=>?_,fun y=>?_⟩
  ·have h1:=A1a hy (B9 (cC (fun r=>r) f i) (cC (fun r=>r) f (i + 1))).1
   have h2:=(A4Z ρ (l:=(B9 (cC (fun r=>r) f i) (cC (fun r=>r) f (i + 1))).1) (A6S z1)).1
   have h3 : p2 (Z + (B9 (cC (fun r=>r) f i) (cC (fun r=>r) f (i + 1))).1.length * (ρ + 1)) ≤ p2 (Z + n * (ρ + 1)):=A0p (by have := Nat.mul_le_mul_right (ρ + 1) z2;omega)
   have h4:=A2Q (Z + n * (ρ + 1))
   rw [R5,A15]
   grind
  ·rw [A1w,A4z,hd];grind
 have hT : 1 ≤ p2 (Z + n * (ρ + 1) + 1):=A2Q _
 have hmc : 0 < mg c:=by unfold mg;grind
 have h:=B0P (C:=cC (fun r=>r) f) (K:=cK (fun r=>r) f) hT hmc ht (fun y _=>by rw [hlast];exact Rat.le_refl) 0 (by omega) x hx
 rw [A55] at h
 have hP:=R2 (cK (fun r=>r) f * (Z + n * (ρ + 1) + 1))
 have e : mg c / p2 (cK (fun r=>r) f * (Z + n * (ρ + 1) + 1)) * p2 (cK (fun r=>r) f * (Z + n * (ρ + 1) + 1)) = mg c:=Rat.div_mul_cancel (by grind)
 have hfin : ∀ y : Rat,mg c / p2 (cK (fun r=>r) f * (Z + n * (ρ + 1) + 1)) ≤ mg y → 1 ≤ mg y * p2 (Z + n * (Z + n * (ρ + 1) + 1)):=fun y hy=>by
  have h1:=Rat.mul_le_mul_of_nonneg_right hy (Rat.le_of_lt hP)
  rw [e] at h1
  have h2:=Rat.mul_le_mul_of_nonneg_right h1 (Rat.le_of_lt (R2 Z))
  have h3 : p2 (cK (fun r=>r) f * (Z + n * (ρ + 1) + 1)) * p2 Z ≤ p2 (Z + n * (Z + n * (ρ + 1) + 1)):=by
   rw [← R5]
   exact A0p (by have := Nat.mul_le_mul_right (Z + n * (ρ + 1) + 1) hK;omega)
  have h4:=Rat.mul_le_mul_of_nonneg_left h3 (G8 y)
  grind
 rcases h with h | h
 ·exact .inl (hfin _ h)
 ·exact .inr (hfin _ h)
theorem B1b {f : List Rat} {E Z ρ : Nat} (hZ : Czl f Z) (hZ' : Czl (D7 f) Z) (hsep : ∀ x,mg x ≤ p2 ρ → 1 ≤ mg (pv f x) * p2 E ∨ 1 ≤ mg (pv (D7 f) x) * p2 E) {n : Nat} (hn : f.length ≤ n) {a b : Rat} (ha : mg a ≤ p2 ρ) (hb : mg b ≤ p2 ρ) (hab : a < b) (hd : (b - a) * p2 (E + Z + n * (ρ + 2)) < 1) : (∃ t,Cn f a b t) ∨ ∃ t,Mn f a b t:=by
 have hE:=R2 E
 have e : 1 / p2 E * p2 E = 1:=Rat.div_mul_cancel (by grind)
 have hε : ∀ y : Rat,1 ≤ mg y * p2 E → 1 / p2 E ≤ mg y:=fun y hy=>by
  by_cases h : 1 / p2 E ≤ mg y
  ·exact h
  ·have := Rat.mul_lt_mul_of_pos_right (Rat.not_le.1 h) hE
   rw [e] at this
   grind
 have hB : ∀ v : Rat,0 ≤ v → v ≤ p2 (Z + n * (ρ + 2)) → (b - a) * v < 1 / p2 E:=fun v hv0 hv=>by
  by_cases h : (b - a) * v < 1 / p2 E
  ·exact h
  ·exfalso
   have h1:=Rat.mul_le_mul_of_nonneg_right (Rat.not_lt.1 h) (Rat.le_of_lt hE)
   rw [e] at h1
   have h2 : (b - a) * v ≤ (b - a) * p2 (Z + n * (ρ + 2)):=Rat.mul_le_mul_of_nonneg_left hv (by grind)
   have h3:=Rat.mul_le_mul_of_nonneg_right h2 (Rat.le_of_lt hE)
   rw [show E + Z + n * (ρ + 2) = (Z + n * (ρ + 2)) + E by omega,R5] at hd
   grind
 have hle : ∀ l : List Rat,l.length ≤ n → p2 (Z + l.length * (ρ + 2)) ≤ p2 (Z + n * (ρ + 2)):=fun l hl=>A0p (by have := Nat.mul_le_mul_right (ρ + 2) hl;omega)
 have hρ : 0 ≤ p2 ρ:=Rat.le_of_lt (R2 ρ)
 have hdl : (D7 f).length ≤ n:=by have := A5a f;have := H8 f;omega
 obtain ⟨-,b1,b2⟩:=A4Z ρ (A6S hZ)
 obtain ⟨-,b3,-⟩:=A4Z ρ (A6S hZ')
 exact B1C (g:=D7 f) (ε:=1 / p2 E) (A4r f) (Rat.le_of_lt hab) ha hb (fun x hx=>(hsep x hx).imp (hε _) (hε _)) (hB _ (A1y hρ f) (Rat.le_trans b1 (hle f hn))) (hB _ (A1y hρ _) (Rat.le_trans b3 (hle _ hdl))) (hB _ (A4G hρ f) (Rat.le_trans b2 (hle f hn)))
end Go.Proofs.YtlkniebmjdoopaaGreatDoor
