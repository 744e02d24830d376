/- Contracts and laws. -/
import Derived.Test.YtgpglgbcobeogaaGreatDoorU44
import Derived.Test.YtgpglgbcobeogaaGreatDoorU45
set_option linter.unusedSimpArgs false
set_option linter.unusedVariables false
namespace Go.Proofs.YtgpglgbcobeogaaGreatDoor
open Go Go.RowKit
theorem B1o (GR : List (List Rat)) (U : List Nat) (P : Nat → Ax) : ((List.range U.length).map fun i=>(((P i).1,(P i).2,U.map fun j=>gq (B6 GR (nx U i)) j) : Rq)).map (·.2.2) = T2 GR U:=by
 unfold T2
 apply List.ext_getElem
 ·simp
 ·intro i h1 h2
  have hi : i < U.length:=by simpa using h2
  simp only [List.getElem_map,List.getElem_range]
  unfold nx
  rw [List.getElem?_eq_getElem hi]
  rfl
theorem A3O {GR : List (List Rat)} {U : List Nat} {i j : Nat} (hi : i < U.length) (hj : j < U.length) : gq (B6 (T2 GR U) i) j = gq (B6 GR (nx U i)) (nx U j):=by
 have h1 : B6 (T2 GR U) i = U.map fun j=>gq (B6 GR (nx U i)) j:=by
  unfold B6 T2 nx
  rw [List.getElem?_map,List.getElem?_eq_getElem hi]
  rfl
 rw [h1]
 unfold gq
 rw [List.getElem?_map,List.getElem?_eq_getElem hj]
 unfold nx
 rw [List.getElem?_eq_getElem hj]
 rfl
theorem A1b {f : Nat → Rat} {U : List Nat} {k : Nat} (h : k < U.length) : gq (U.map f) k = f (nx U k):=by
 unfold gq nx
 rw [List.getElem?_map,List.getElem?_eq_getElem h]
 rfl
theorem A7g {GR : List (List Rat)} {U : List Nat} {y : List Rat} {f : Nat → Rat} {n s m : Nat} {B : Nat} {va vy : Ax} {P : Nat → Ax} {W : World} (hm : m = U.length) (hm1 : 1 ≤ m) (hmn : m ≤ n) (hn : n ≤ 6) (hU : ∀ x ∈ U,x < n)
  (hG : ∀ i,i < n → ∀ j,j < n → qs (gq (B6 GR i) j) ≤ s) (hs1 : 1 ≤ s) (hBz : 100 * (s * 10 ^ (n + 1)) ≤ BIG) (hy : y = U.map f) (hyz : ∀ k,k < U.length → qs (f (nx U k)) ≤ s) (hok : A1w GR U y)
  (hd : W.ownsRow B 35 1 (.slice va.1 m va.2) m (((List.range m).map fun i=>Value.slice (P i).1 m (P i).2).flatMap I3)) (hr : ∀ i,i < m → W.ownsRow B 48 5 (.slice (P i).1 m (P i).2) m ((U.map fun j=>gq (B6 GR (nx U i)) j).flatMap qL)) (hyo : W.ownsRow B 48 5 (.slice vy.1 m vy.2) m (((U.take m).map f).flatMap qL)) :
  ∀ V,A4 W V → Tab V → Calls Tryz.prog 128 #[.slice va.1 m va.2,.slice vy.1 m vy.2] V (G5 (fun x : Ax=>.tuple #[.slice x.1 m x.2,.slice none 0 0,.int .i64 0]) (fun x V'=>Lq V' x.1 ((List.range m).map (V3 GR U y)) ∧ ∃ b,x.1 = some ⟨b,0,none⟩ ∧ V.heap.size ≤ b) V):=fun V hg hT=>by
 subst hm
 rw [List.take_length,← hy] at hyo
 obtain ⟨ba,ca,ea,-,-⟩:=A0S hd (by omega)
 obtain ⟨bv,cv,ev,-,hcv⟩:=A0S hyo (by omega)
 obtain ⟨va1,va2⟩:=va
 obtain ⟨vy1,vy2⟩:=vy
 simp only [Value.slice.injEq] at ea ev
 obtain ⟨rfl,-,rfl⟩:=ea
 obtain ⟨rfl,-,rfl⟩:=ev
 have hL:=B08 hd (R:=fun i=>U.map fun j=>gq (B6 GR (nx U i)) j) (fun i hi=>by simp) (fun i hi=>by
  obtain ⟨A,c,e,-,-,hL,-⟩:=M8 (hr i hi)
  have e1:=congrArg (fun v=>match v with | Value.slice a _ _=>a | _=>none) e
  simp only at e1
  rw [e1]
  exact hL)
 have hY : Lq W (some ⟨bv,0,none⟩) y:=by
  obtain ⟨A,c,e,-,-,hL,-⟩:=M8 hyo
  cases e
  exact hL
 have hmp:=B1o GR U P
 have hyl : y.length = U.length:=by rw [hy];simp
 have hpw : s * 10 ^ (U.length + 1) ≤ s * 10 ^ (n + 1):=Nat.mul_le_mul_left _ (Nat.pow_le_pow_right (by omega) (by omega))
 have nxl : ∀ k,k < U.length → nx U k < n:=fun k hk=>hU _ (M7 hk)
 have hl1 : ((List.range U.length).map fun i=>(((P i).1,(P i).2,U.map fun j=>gq (B6 GR (nx U i)) j) : Rq)).length = U.length:=by simp
 have hl2 : ∀ r ∈ ((List.range U.length).map fun i=>(((P i).1,(P i).2,U.map fun j=>gq (B6 GR (nx U i)) j) : Rq)),r.2.2.length = U.length:=fun r hr=>by
  obtain ⟨i,hi,rfl⟩:=List.mem_map.1 hr
  simp
 have hl3 : ∀ r ∈ ((List.range U.length).map fun i=>(((P i).1,(P i).2,U.map fun j=>gq (B6 GR (nx U i)) j) : Rq)),U.length ≤ r.2.1:=fun r hr2=>by
  obtain ⟨i,hi,rfl⟩:=List.mem_map.1 hr2
  obtain ⟨A,c,e,hc,-,-,-⟩:=M8 (hr i (List.mem_range.1 hi))
  have e1:=congrArg (fun v=>match v with | Value.slice _ _ c=>c | _=>0) e
  simp only at e1
  simp only
  omega
 generalize ((List.range U.length).map fun i=>(((P i).1,(P i).2,U.map fun j=>gq (B6 GR (nx U i)) j) : Rq)) = rs0 at hL hmp hl1 hl2 hl3
 have h:=B2z (some ⟨ba,0,none⟩) bv 0 rs0 y U.length va2 vy2 hl1 hm1 (by omega) hl2 hl3 hyl hcv s hs1 (fun i hi j hj=>by rw [hmp,A3O hi hj];exact hG _ (nxl i hi) _ (nxl j hj)) (fun i hi=>by rw [hy,A1b hi];exact hyz i hi) (by omega) (by rw [hmp];exact hok hm1) V (hL.grow hg) (hY.grow hg) hT
 rw [hmp] at h
 exact h
theorem B3f {X : List (List Rat)} {y : List Rat} {m s : Nat} (hX : ∀ i,i < m → ∀ j,j < m → qs (gq (B6 X i) j) ≤ s) (hl : ∀ i,i < m → (B6 X i).length = m) (hy : ∀ i,i < m → qs (gq y i) ≤ s) : szM (E8 (aug X y m)) m (m + 1) s:=fun i hi j hj=>by
 have e1 : B6 (aug X y m) i = B6 X i ++ [gq y i]:=A2D hi
 show qs (gq (B6 (aug X y m) i) j) ≤ s
 rw [e1]
 have hl2:=hl i hi
 rcases Nat.lt_or_ge j m with h1 | h1
 ·have : gq (B6 X i ++ [gq y i]) j = gq (B6 X i) j:=by
   show ((B6 X i ++ [gq y i])[j]?).getD 0 = _
   rw [List.getElem?_append_left (by omega)]
   rfl
  rw [this]
  exact hX i hi j h1
 ·have h2 : j = (B6 X i).length:=by omega
  have : gq (B6 X i ++ [gq y i]) j = gq y i:=by
   show ((B6 X i ++ [gq y i])[j]?).getD 0 = _
   rw [h2,List.getElem?_append_right (Nat.le_refl _)]
   simp
  rw [this]
  exact hy i hi
theorem A3P {GR : List (List Rat)} {U : List Nat} {y : List Rat} {n s : Nat} (hU : ∀ x ∈ U,x < n) (hmn : U.length ≤ n) (hG : ∀ i,i < n → ∀ j,j < n → qs (gq (B6 GR i) j) ≤ s) (hs1 : 1 ≤ s) (hy : ∀ k,k < U.length → qs (gq y k) ≤ s) : ∀ k,k < U.length → qs (V3 GR U y k) ≤ s * 10 ^ (n + 1):=fun k hk=>by
 have h1:=A5B (s:=(E8 (aug (T2 GR U) y U.length),[])) (B3f (X:=T2 GR U) (y:=y) (m:=U.length) (s:=s) (fun i hi j hj=>by rw [A3O hi hj];exact hG _ (hU _ (M7 hi)) _ (hU _ (M7 hj))) (fun i hi=>by
  unfold B6 T2
  rw [List.getElem?_map,List.getElem?_eq_getElem hi]
  simp) hy) hs1 (U.length + 1) (Nat.le_refl _)
 exact Nat.le_trans (h1 k hk U.length (Nat.lt_succ_self _)) (Nat.mul_le_mul_left _ (Nat.pow_le_pow_right (by omega) (by omega)))
theorem A4N (a : Rat) : M3 a = F5 a:=by
 unfold M3 F5 Rat.abs
 rfl
theorem A61 {p w a : Rat} (h : A0z p w a = true) : (0 < w ∧ p = a) ∨ (w < 0 ∧ p = -a) ∨ (w = 0 ∧ F5 p ≤ a):=by
 unfold A0z at h
 by_cases h1 : 0 < w
 ·rw [if_pos h1] at h
  exact .inl ⟨h1,of_decide_eq_true h⟩
 ·rw [if_neg h1] at h
  by_cases h2 : w < 0
  ·rw [if_pos h2] at h
   exact .inr (.inl ⟨h2,of_decide_eq_true h⟩)
  ·rw [if_neg h2] at h
   refine .inr (.inr ⟨by grind,?_⟩)
   have := of_decide_eq_true h
   rwa [A4N] at this
theorem A7M {p w a : Rat} (h : (0 < w ∧ p = a) ∨ (w < 0 ∧ p = -a) ∨ (w = 0 ∧ F5 p ≤ a)) : A0z p w a = true:=by
 unfold A0z
 rcases h with ⟨h1,h2⟩ | ⟨h1,h2⟩ | ⟨h1,h2⟩
 ·rw [if_pos h1];exact decide_eq_true h2
 ·rw [if_neg (by grind),if_pos h1];exact decide_eq_true h2
 ·rw [if_neg (by grind),if_neg (by grind)]
  exact decide_eq_true (by rw [A4N];exact h2)
theorem U8 (x : Rat) : (0 ≤ x ∧ F5 x = x) ∨ (x ≤ 0 ∧ F5 x = -x):=by
 unfold F5
 by_cases h : 0 ≤ x
 ·exact .inl ⟨h,if_pos h⟩
 ·exact .inr ⟨by grind,if_neg h⟩
theorem A5t (p a u : Rat) (h : F5 p ≤ a) : p * u ≤ a * F5 u:=by
 have h1 : p ≤ a ∧ -a ≤ p:=by
  rcases U8 p with ⟨h1,h2⟩ | ⟨h1,h2⟩ <;> constructor <;> grind
 rcases U8 u with ⟨h2,h3⟩ | ⟨h2,h3⟩
 ·have := Rat.mul_nonneg (a:=a - p) (b:=u) (by grind) h2
  rw [h3];grind
 ·have := Rat.mul_nonneg (a:=a + p) (b:=-u) (by grind) (by grind)
  rw [h3];grind
theorem B1C {p w a u : Rat} (h : A0z p w a = true) (ha : 0 ≤ a) : 0 ≤ a * F5 u - a * F5 w - p * (u - w):=by
 rcases A61 h with ⟨h1,h2⟩ | ⟨h1,h2⟩ | ⟨h1,h2⟩
 ·subst h2
  have e : F5 w = w:=by rcases U8 w with ⟨h3,h4⟩ | ⟨h3,h4⟩ <;> grind
  have h5:=A5t p p u (by rcases U8 p with ⟨h3,h4⟩ | ⟨h3,h4⟩ <;> grind)
  rw [e];grind
 ·have e : F5 w = -w:=by rcases U8 w with ⟨h3,h4⟩ | ⟨h3,h4⟩ <;> grind
  have h5:=A5t (-a) a u (by rcases U8 (-a) with ⟨h3,h4⟩ | ⟨h3,h4⟩ <;> grind)
  rw [e,h2];grind
 ·subst h1
  have e : F5 0 = 0:=by rcases U8 0 with ⟨h3,h4⟩ | ⟨h3,h4⟩ <;> grind
  have h5:=A5t p a u h2
  rw [e];grind
section
variable {G : Mx} {n : Nat} {p : Nat → Rat} {a : Rat} {w u : Nat → Rat}
theorem B26 {x y : Nat → Rat} (h : ∀ i,i < n → x i = y i) : obj G n p a x = obj G n p a y:=by
 have e:=A2M (G:=G) (p:=p) (a:=a) (s:=fun _=>0) h
 rw [A8J (s:=fun _=>0),A8J (s:=fun _=>0),e,F6 (fun i hi=>by rw [h i hi] : ∀ i,i < n → F5 (x i) = F5 (y i))]
 congr 2
 unfold lin
 rw [F6 (fun i hi=>by rw [h i hi] : ∀ i,i < n → ((0 : Int) : Rat) * x i = ((0 : Int) : Rat) * y i)]
theorem A7F (hG : ∀ i,i < n → ∀ j,j < n → G i j = G j i) (ha : 0 ≤ a) (h : Kkt G n p a w) : obj G n p a w + frm G n (fun i=>u i - w i) (fun i=>u i - w i) ≤ obj G n p a u:=by
 obtain ⟨d,hd⟩ : ∃ d : Nat → Rat,d = fun i=>u i - w i:=⟨_,rfl⟩
 rw [← hd]
 have hdi : ∀ i,d i = u i - w i:=fun i=>by rw [hd]
 have e0 : obj G n p a u = obj G n p a (fun i=>w i + 1 * d i):=B26 fun i _=>by rw [hdi];grind
 have e1 : obj G n p a (fun i=>w i + 1 * d i) = frm G n w w + 2 * frm G n d w + frm G n d d - 2 * (lin p w n + lin p d n) + 2 * a * C5 (fun i=>F5 (u i)) n:=by
  unfold obj
  rw [A74 hG,A4s,F6 (fun i _=>by rw [hdi,show w i + 1 * (u i - w i) = u i by grind] : ∀ i,i < n → F5 (w i + 1 * d i) = F5 (u i))]
  grind
 have e2 : 0 ≤ C5 (fun i=>a * F5 (u i) - a * F5 (w i) - (p i - C8 (G i) w n) * d i) n:=A3v fun i hi=>by rw [hdi];exact B1C (h i hi) ha
 have e3 : C5 (fun i=>a * F5 (u i) - a * F5 (w i) - (p i - C8 (G i) w n) * d i) n = a * C5 (fun i=>F5 (u i)) n - a * C5 (fun i=>F5 (w i)) n - (lin p d n - frm G n d w):=by
  unfold frm lin
  rw [← L9,← L9,← A2t,← A2t,← A2t]
  exact F6 fun i _=>by grind
 rw [e3] at e2
 rw [e0,e1]
 unfold obj
 grind
theorem B0E (hG : ∀ i,i < n → ∀ j,j < n → G i j = G j i) (hD : ∀ x,frm G n x x ≤ 0 → ∀ j,j < n → x j = 0) (ha : 0 ≤ a) (h : Kkt G n p a w) (h' : obj G n p a u ≤ obj G n p a w) : ∀ i,i < n → u i = w i:=fun i hi=>by
 have h1:=A7F (u:=u) hG ha h
 have h2:=hD (fun i=>u i - w i) (by grind) i hi
 have h3 : u i - w i = 0:=h2
 grind
theorem B32 (hG : ∀ i,i < n → ∀ j,j < n → G i j = G j i) (hP : ∀ x,0 ≤ frm G n x x) (hD : ∀ x,frm G n x x ≤ 0 → ∀ j,j < n → x j = 0) (ha : 0 ≤ a) (h : Kkt G n p a w) (h' : Kkt G n p a u) : ∀ i,i < n → u i = w i :=
 B0E hG hD ha h (by have h1:=A7F (u:=w) hG ha h';have h2:=hP fun i=>w i - u i;grind)
theorem B0m {s : Nat → Int} (hs : Sgn n s) (ha : 0 ≤ a) (hw : SolW G n p a s w) (h : A4h G n p a s w) : Kkt G n p a w:=fun i hi=>by
 have h1:=h i hi
 apply A7M
 by_cases e : s i ≠ 0
 ·rw [if_pos e] at h1
  have h2:=hw.on i hi e
  rw [h2]
  have aa : F5 a = a:=by rcases U8 a with ⟨h3,h4⟩ | ⟨h3,h4⟩ <;> grind
  have am : F5 (-a) = a:=by rcases U8 (-a) with ⟨h3,h4⟩ | ⟨h3,h4⟩ <;> grind
  rcases hs i hi with e1 | e1 | e1
  ·rw [e1] at h1 ⊢
   have e2 : ((-1 : Int) : Rat) = -1:=rfl
   rw [e2] at h1 ⊢
   have e3 : p i - (p i - a * -1) = -a:=by grind
   rw [e3,am]
   by_cases h3 : w i = 0
   ·exact .inr (.inr ⟨h3,by grind⟩)
   ·exact .inr (.inl ⟨by grind,rfl⟩)
  ·exact absurd e1 e
  ·rw [e1] at h1 ⊢
   have e2 : ((1 : Int) : Rat) = 1:=rfl
   rw [e2] at h1 ⊢
   have e3 : p i - (p i - a * 1) = a:=by grind
   rw [e3,aa]
   by_cases h3 : w i = 0
   ·exact .inr (.inr ⟨h3,by grind⟩)
   ·exact .inl ⟨by grind,rfl⟩
 ·rw [if_neg e] at h1
  exact .inr (.inr ⟨hw.off i hi (Decidable.not_not.1 e),h1⟩)
end
theorem A85 (a b : List Rat) (n : Nat) : E5 a b n = C8 (gq a) (gq b) n:=rfl
theorem A84 (X : List (List Rat)) (N i j : Nat) : I1 X N i j = I1 X N j i:=B4W _ _ _
theorem B3r (X : List (List Rat)) (N i j : Nat) : I1 X N i j = C5 (fun r=>E8 X r i * E8 X r j) N:=by
 unfold I1 E5
 exact F6 fun r hr=>by rw [A1R X i N hr,A1R X j N hr];rfl
theorem B3O (X : List (List Rat)) (N L i : Nat) (v : Nat → Rat) : C8 (I1 X N i) v L = C5 (fun r=>E8 X r i * C8 (E8 X r) v L) N:=by
 have e : C8 (I1 X N i) v L = C5 (fun j=>C5 (fun r=>E8 X r i * E8 X r j * v j) N) L:=F6 fun j _=>by
  rw [B3r,Rat.mul_comm,← L9]
  exact F6 fun r _=>by grind
 rw [e,A2v]
 refine F6 fun r _=>?_
 unfold C8
 rw [← L9]
 exact F6 fun j _=>by grind
theorem A8n (X : List (List Rat)) (N L : Nat) (v u : Nat → Rat) : frm (I1 X N) L v u = C5 (fun r=>C8 (E8 X r) v L * C8 (E8 X r) u L) N:=by
 have e : frm (I1 X N) L v u = C5 (fun i=>C5 (fun r=>v i * E8 X r i * C8 (E8 X r) u L) N) L:=F6 fun i _=>by
  rw [B3O,← L9]
  exact F6 fun r _=>by grind
 rw [e,A2v]
 refine F6 fun r _=>?_
 show _ = C5 _ L * _
 rw [Rat.mul_comm (C5 _ L),← L9]
 exact F6 fun j _=>by grind
theorem A86 (X : List (List Rat)) (N L : Nat) (v : Nat → Rat) : 0 ≤ frm (I1 X N) L v v:=by
 rw [A8n]
 exact A3v fun r _=>A6j _
theorem A2J {X : List (List Rat)} {N L : Nat} (h : (C7 N L (E8 X,[]) L).2.length = L) (v : Nat → Rat) (hv : frm (I1 X N) L v v ≤ 0) : ∀ j,j < L → v j = 0:=by
 rw [A8n] at hv
 have h1:=A60 (fun r _=>A6j _) hv
 exact B12 h fun i hi=>A9B (h1 i hi)
theorem B2b {m : Nat} {M : Mx} (h : (C7 m (m + 1) (M,[]) (m + 1)).2 = List.range m) : ∀ i,i < m → C5 (fun j=>M i j * (C7 m (m + 1) (M,[]) (m + 1)).1 j m) m = M i m:=by
 obtain ⟨e1,e2⟩:=A3n (n:=m) (L:=m + 1) M (m + 1) (Nat.le_refl _)
 obtain ⟨s,hs⟩ : ∃ s,s = C7 m (m + 1) (M,[]) (m + 1):=⟨_,rfl⟩
 obtain ⟨V,hV⟩ : ∃ V : Nat → Rat,V = fun j=>if j < m then s.1 j m else -1:=⟨_,rfl⟩
 have hk:=(A3Q (n:=m) (L:=m + 1) (s:=(M,[])) (v:=V) (m + 1))
 have hVl : ∀ j,j < m → V j = s.1 j m:=fun j hj=>by rw [hV];exact if_pos hj
 have hVm : V m = -1:=by rw [hV];exact if_neg (Nat.lt_irrefl m)
 rw [← hs] at h e1 e2 hk ⊢
 have hd : ∀ i,i < m → ∀ j,j < m → s.1 i j = if i = j then 1 else 0:=fun i hi j hj=>by
  have := e2 j (by rw [h];simpa using hj) i hi
  rw [h,A3e hj] at this
  exact this
 have h1 : ker s.1 m (m + 1) V:=fun i hi=>by
  unfold C8
  rw [A0C,hVm,A08 hi fun j hj hne=>by rw [hd i hi j hj,if_neg (fun e=>hne e.symm)];grind,hd i hi i hi,if_pos rfl,hVl i hi]
  grind
 intro i hi
 have h2 : C8 (M i) V (m + 1) = 0:=hk.1 h1 i hi
 unfold C8 at h2
 rw [A0C,hVm,F6 (fun j hj=>by rw [hVl j hj] : ∀ j,j < m → M i j * V j = M i j * s.1 j m)] at h2
 grind
theorem A9T {m : Nat} {M : Mx} (h : ∀ v,(∀ i,i < m → C8 (M i) v m = 0) → ∀ j,j < m → v j = 0) : (C7 m (m + 1) (M,[]) (m + 1)).2 = List.range m:=by
 have h1:=A7E (n:=m) (L:=m + 1) (m:=m) (M:=M) (by omega) (fun v hv hk=>h v fun i hi=>by
  have h2:=hk i hi
  unfold C8 at h2 ⊢
  rw [A0C,hv m (Nat.le_refl _)] at h2
  grind) m (Nat.le_refl _)
 show (K8 m (m + 1) (C7 m (m + 1) (M,[]) m) m).2 = _
 unfold K8
 rw [if_neg ?_,h1]
 show ¬ I7 _ m (C7 m (m + 1) (M,[]) m).2.length m < m
 rw [h1,List.length_range,B43 (Nat.le_refl _)]
 omega
theorem A5w {X : List (List Rat)} {y : List Rat} {m i j : Nat} (hi : i < m) (hl : (B6 X i).length = m) (hj : j < m) : E8 (aug X y m) i j = gq (B6 X i) j:=by
 have e1 : B6 (aug X y m) i = B6 X i ++ [gq y i]:=A2D hi
 show gq (B6 (aug X y m) i) j = _
 rw [e1]
 show ((B6 X i ++ [gq y i])[j]?).getD 0 = _
 rw [List.getElem?_append_left (by omega)]
 rfl
theorem B2P {X : List (List Rat)} {y : List Rat} {m i : Nat} (hi : i < m) (hl : (B6 X i).length = m) : E8 (aug X y m) i m = gq y i:=by
 have e1 : B6 (aug X y m) i = B6 X i ++ [gq y i]:=A2D hi
 show gq (B6 (aug X y m) i) m = _
 rw [e1]
 show ((B6 X i ++ [gq y i])[m]?).getD 0 = _
 rw [List.getElem?_append_right (by omega),hl,Nat.sub_self]
 rfl
theorem A5q {GR : List (List Rat)} {U : List Nat} {i : Nat} (hi : i < U.length) : (B6 (T2 GR U) i).length = U.length:=by
 unfold B6 T2
 rw [List.getElem?_map,List.getElem?_eq_getElem hi]
 simp
def P6 (U : List Nat) (v : Nat → Rat) (t : Nat) : Rat:=C5 (fun k=>if nx U k = t then v k else 0) U.length
theorem A7u {U : List Nat} (hU : U.Pairwise (· < ·)) {i j : Nat} (hi : i < U.length) (hj : j < U.length) (h : nx U i = nx U j) : i = j:=by
 have h1:=List.pairwise_iff_getElem.1 hU
 unfold nx at h
 rw [List.getElem?_eq_getElem hi,List.getElem?_eq_getElem hj] at h
 have h2 : U[i] = U[j]:=h
 rcases Nat.lt_trichotomy i j with h3 | h3 | h3
 ·have := h1 i j hi hj h3;omega
 ·exact h3
 ·have := h1 j i hj hi h3;omega
section
variable {U : List Nat} {n : Nat} (hU : U.Pairwise (· < ·)) (hn : ∀ x ∈ U,x < n)
include hU
theorem B0F (v : Nat → Rat) {k : Nat} (hk : k < U.length) : P6 U v (nx U k) = v k:=by
 unfold P6
 rw [A08 hk fun j hj hne=>if_neg fun e=>hne (A7u hU hj hk e),if_pos rfl]
omit hU in
theorem A5c (v : Nat → Rat) {t : Nat} (h : t ∉ U) : P6 U v t = 0 :=
 A0j fun k hk=>if_neg fun e=>h (by rw [← e];exact M7 hk)
include hn
omit hU in
theorem A6v (c v : Nat → Rat) : C5 (fun t=>c t * P6 U v t) n = C5 (fun k=>c (nx U k) * v k) U.length:=by
 have e : C5 (fun t=>c t * P6 U v t) n = C5 (fun t=>C5 (fun k=>if nx U k = t then c t * v k else 0) U.length) n:=F6 fun t _=>by
  unfold P6
  rw [← L9]
  exact F6 fun k _=>by split <;> grind
 rw [e,A2v]
 refine F6 fun k hk=>?_
 rw [A08 (hn _ (M7 hk)) fun t ht hne=>if_neg fun e=>hne e.symm,if_pos rfl]
theorem A7b (v : Nat → Rat) : ∀ k,k ≤ U.length → ∀ t,gq (K3 U v n k) t = C5 (fun i=>if nx U i = t then v i else 0) k
 | 0,_,t=>by
  unfold gq K3
  rw [List.getElem?_replicate]
  split <;> rfl
 | k + 1,hk,t=>by
  show gq ((K3 U v n k).set (nx U k) (v k)) t = _
  rw [A54,A0C,W7]
  have hlt:=hn _ (M7 (l:=U) (i:=k) (by omega))
  by_cases e : t = nx U k
  ·rw [if_pos ⟨e,hlt⟩,if_pos e.symm,A0j fun i hi=>if_neg fun e2=>by
    have := A7u hU (i:=i) (j:=k) (by omega) (by omega) (e2.trans e)
    omega]
   grind
  ·rw [if_neg fun h=>e h.1,if_neg fun h=>e h.symm,A7b v k (by omega) t]
   grind
theorem A8Z (v : Nat → Rat) (t : Nat) : gq (K3 U v n U.length) t = P6 U v t:=A7b hU hn v _ (Nat.le_refl _) t
end
theorem A4M (sg : List Int) (i : Nat) : (E7 sg i).Pairwise (· < ·):=by
 unfold E7
 exact List.Pairwise.filter _ (List.pairwise_lt_range)
theorem A8R {sg : List Int} {n i : Nat} : i ∈ E7 sg n ↔ i < n ∧ gi sg i ≠ 0:=by
 unfold E7
 rw [List.mem_filter,List.mem_range]
 simp
theorem A6n {U : List Nat} {x : Nat} (h : x ∈ U) : ∃ k,k < U.length ∧ nx U k = x:=by
 obtain ⟨k,hk,e⟩:=List.getElem_of_mem h
 exact ⟨k,hk,by unfold nx;rw [List.getElem?_eq_getElem hk];exact e⟩
section
variable {GR : List (List Rat)} {U : List Nat} {n : Nat} {G : Mx} (hU : U.Pairwise (· < ·)) (hn : ∀ x ∈ U,x < n) (hG : ∀ i,i < n → ∀ j,j < n → gq (B6 GR i) j = G i j) (hD : ∀ x,frm G n x x ≤ 0 → ∀ j,j < n → x j = 0)
include hU hn hG hD
theorem A5L (y : List Rat) : A1w GR U y:=fun _=>A9T fun v hv j hj=>by
 have hx : ∀ t,t ∉ U → P6 U v t = 0:=fun t ht=>A5c v ht
 have h1:=hD (P6 U v) (by
  unfold frm
  rw [A0j fun i hi=>?_]
  ·exact Rat.le_refl
  ·by_cases hi2 : i ∈ U
   ·obtain ⟨k,hk,rfl⟩:=A6n hi2
    have h2:=hv k hk
    have h3 : C8 (G (nx U k)) (P6 U v) n = 0:=by
     rw [show C8 (G (nx U k)) (P6 U v) n = _ from A6v hn (G (nx U k)) v,← h2]
     exact F6 fun l hl=>by rw [A5w hk (A5q hk) hl,A3O hk hl,hG _ (hn _ (M7 hk)) _ (hn _ (M7 hl))]
    rw [h3];grind
   ·rw [hx i hi2];grind) (nx U j) (hn _ (M7 hj))
 rwa [B0F hU v hj] at h1
theorem A8x (y : List Rat) (v : Nat → Rat) (hv : ∀ k,k < U.length → v k = V3 GR U y k) {k : Nat} (hk : k < U.length) : C8 (G (nx U k)) (P6 U v) n = gq y k:=by
 rw [show C8 (G (nx U k)) (P6 U v) n = _ from A6v hn (G (nx U k)) v]
 have h1:=B2b (A5L hU hn hG hD y (by omega)) k hk
 rw [B2P hk (A5q hk)] at h1
 rw [← h1]
 exact F6 fun l hl=>by rw [A5w hk (A5q hk) hl,A3O hk hl,hG _ (hn _ (M7 hk)) _ (hn _ (M7 hl)),hv l hl];rfl
end
theorem A9e {GR : List (List Rat)} {PL : List Rat} {n : Nat} {G : Mx} (hG : ∀ i,i < n → ∀ j,j < n → gq (B6 GR i) j = G i j) (hD : ∀ x,frm G n x x ≤ 0 → ∀ j,j < n → x j = 0) (sg : List Int) (a : Rat) :
  SolW G n (gq PL) a (gi sg) (gq (M5 (A0I GR PL sg n) (Z4 GR sg n) n a)):=by
 obtain ⟨U,hUe⟩ : ∃ U,U = E7 sg n:=⟨_,rfl⟩
 have hU:=A4M sg n
 have hn : ∀ x ∈ E7 sg n,x < n:=A1C
 have hw : ∀ t,t < n → gq (M5 (A0I GR PL sg n) (Z4 GR sg n) n a) t = P6 U (V3 GR U (R0 PL U)) t + a * P6 U (V3 GR U (S5 sg U)) t:=fun t ht=>by
  have e1 : gq (M5 (A0I GR PL sg n) (Z4 GR sg n) n a) t = G8 (gq (A0I GR PL sg n) t) (C2 (gq (Z4 GR sg n) t) a):=R7 _ ht
  rw [e1,hUe]
  unfold A0I Z4 G8 C2
  rw [A8Z hU hn,A8Z hU hn]
  grind
 rw [← hUe] at hU hn
 constructor
 ·intro i hi hs
  obtain ⟨k,hk,e⟩:=A6n (U:=U) (x:=i) (by rw [hUe];exact A8R.2 ⟨hi,hs⟩)
  subst e
  have e2 : C8 (G (nx U k)) (gq (M5 (A0I GR PL sg n) (Z4 GR sg n) n a)) n = C8 (G (nx U k)) (fun t=>P6 U (V3 GR U (R0 PL U)) t + a * P6 U (V3 GR U (S5 sg U)) t) n:=F6 fun t ht=>by rw [hw t ht]
  rw [e2,A3i,A8x hU hn hG hD (R0 PL U) _ (fun _ _=>rfl) hk,A8x hU hn hG hD (S5 sg U) _ (fun _ _=>rfl) hk]
  unfold R0 S5
  rw [A1b hk,A1b hk]
  have e3 : C1 (-(gi sg (nx U k))) = -((gi sg (nx U k) : Int) : Rat):=by unfold C1;exact Rat.intCast_neg _
  rw [e3]
  grind
 ·intro i hi hs
  have hm : i ∉ U:=by rw [hUe];exact fun h=>(A8R.1 h).2 hs
  rw [hw i hi,A5c _ hm,A5c _ hm]
  grind
theorem A6c {GR : List (List Rat)} {PL : List Rat} {n : Nat} {G : Mx} (hG : ∀ i,i < n → ∀ j,j < n → gq (B6 GR i) j = G i j) (sg : List Int) (F B : List Rat) (a : Rat) : ∀ i,i ≤ n →
  (H7 a (V9 GR PL F B sg n i) = true ↔ ∀ t,t < i → if gi sg t ≠ 0 then 0 ≤ (gi sg t : Rat) * gq (M5 F B n a) t else F5 (gq PL t - C8 (G t) (gq (M5 F B n a)) n) ≤ a)
 | 0,_=>by
  constructor
  ·intro _ t ht;exact absurd ht (Nat.not_lt_zero _)
  ·intro _;rfl
 | i + 1,hi=>by
  have ih:=A6c (PL:=PL) hG sg F B a i (by omega)
  rw [A4I]
  have e : H7 a (V9 GR PL F B sg n i ++ U6 GR PL F B sg n i) = (H7 a (V9 GR PL F B sg n i) && H7 a (U6 GR PL F B sg n i)):=by
   unfold H7
   rw [List.all_append]
  rw [e,Bool.and_eq_true,ih]
  have hwt : ∀ t,t < n → gq (M5 F B n a) t = gq F t + gq B t * a:=fun t ht=>R7 _ ht
  have key : H7 a (U6 GR PL F B sg n i) = true ↔ if gi sg i ≠ 0 then 0 ≤ (gi sg i : Rat) * gq (M5 F B n a) i else F5 (gq PL i - C8 (G i) (gq (M5 F B n a)) n) ≤ a:=by
   unfold U6 H7
   by_cases hs : gi sg i ≠ 0
   ·rw [if_pos hs,if_pos hs,hwt i (by omega)]
    simp only [List.all_cons,List.all_nil,Bool.and_true]
    unfold A1L
    rw [decide_eq_true_iff]
    unfold G8 C2 C1
    constructor <;> intro h <;> grind
   ·rw [if_neg hs,if_neg hs]
    simp only [List.all_cons,List.all_nil,Bool.and_true,Bool.and_eq_true]
    unfold A1L
    rw [decide_eq_true_iff,decide_eq_true_iff]
    have e1 : C8 (G i) (gq (M5 F B n a)) n = E5 (B6 GR i) F n + a * E5 (B6 GR i) B n:=by
     rw [A85,A85,show C8 (G i) (gq (M5 F B n a)) n = C8 (G i) (fun t=>gq F t + a * gq B t) n from F6 fun t ht=>by rw [hwt t ht];grind,A3i,A7q (fun j hj=>(hG i (by omega) j hj).symm),A7q (fun j hj=>(hG i (by omega) j hj).symm)]
    rw [e1]
    unfold G8 C2 G9 Y5
    have e2 : C1 1 = 1:=rfl
    rw [e2]
    rcases U8 (gq PL i - (E5 (B6 GR i) F n + a * E5 (B6 GR i) B n)) with ⟨h1,h2⟩ | ⟨h1,h2⟩ <;> rw [h2] <;> constructor
    ·rintro ⟨g1,g2⟩;grind
    ·intro g;constructor <;> grind
    ·rintro ⟨g1,g2⟩;grind
    ·intro g;constructor <;> grind
  rw [key]
  constructor
  ·rintro ⟨g1,g2⟩ t ht
   by_cases e : t = i
   ·rw [e];exact g2
   ·exact g1 t (by omega)
  ·intro g
   exact ⟨fun t ht=>g t (by omega),g i (by omega)⟩
end Go.Proofs.YtgpglgbcobeogaaGreatDoor
