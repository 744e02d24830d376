/- Contracts and laws. -/
import Derived.Test.YtgpglgbcobeogaaGreatDoorU47
set_option linter.unusedSimpArgs false
set_option linter.unusedVariables false
set_option maxHeartbeats 4000000
set_option maxRecDepth 100000
namespace Go.Proofs.YtgpglgbcobeogaaGreatDoor
open Go Go.RowKit
theorem A2j {X : List (List Rat)} {N L i j : Nat} (hi : i < L) (hj : j < L) : gq (B6 (J4 X N L) i) j = I1 X N i j:=by
 have e1 : B6 (J4 X N L) i = F0 (I1 X N) L i:=A2D hi
 rw [e1]
 exact R7 _ hj
theorem A6Y {n c t : Nat} (h : t < n) : gi (E6 n c) t = sgI c t:=by
 unfold gi E6
 rw [List.getElem?_map,List.getElem?_range h]
 rfl
theorem A5m (n c : Nat) : Sgn n (gi (E6 n c)):=fun i hi=>by
 rw [A6Y hi]
 unfold sgI
 have : c / 3 ^ i % 3 < 3:=Nat.mod_lt _ (by omega)
 omega
theorem A58 (s : Nat → Int) : ∀ n,Sgn n s → ∃ c,c < 3 ^ n ∧ ∀ t,t < n → sgI c t = s t
 | 0,_=>⟨0,by simp,fun t ht=>absurd ht (Nat.not_lt_zero _)⟩
 | n + 1,h=>by
  obtain ⟨c,hc,he⟩:=A58 s n fun i hi=>h i (by omega)
  obtain ⟨d,hd⟩ : ∃ d : Nat,(d : Int) = s n + 1:=⟨(s n + 1).toNat,by have := h n (by omega);omega⟩
  have hd3 : d < 3:=by have := h n (by omega);omega
  have h3 : d * 3 ^ n ≤ 2 * 3 ^ n:=Nat.mul_le_mul_right _ (by omega)
  refine ⟨c + d * 3 ^ n,by rw [Nat.pow_succ];omega,fun t ht=>?_⟩
  by_cases e : t = n
  ·subst e
   unfold sgI
   have e1 : (c + d * 3 ^ t) / 3 ^ t = d:=by
    rw [Nat.add_mul_div_right _ _ (Nat.pow_pos (by omega)),Nat.div_eq_of_lt hc]
    omega
   rw [e1,Nat.mod_eq_of_lt hd3]
   omega
  ·have e1 : (c + d * 3 ^ n) / 3 ^ t % 3 = c / 3 ^ t % 3:=by
    obtain ⟨m,hm⟩ : ∃ m,n = t + (m + 1):=⟨n - t - 1,by omega⟩
    rw [hm,Nat.pow_add,← Nat.mul_assoc,Nat.mul_right_comm,Nat.add_mul_div_right _ _ (Nat.pow_pos (by omega)),Nat.pow_succ,← Nat.mul_assoc,Nat.add_mul_mod_self_right]
   rw [← he t (by omega)]
   unfold sgI
   rw [e1]
def Q7 (X : List (List Rat)) (y : List Rat) (N L k : Nat) : List Rat:=A0I (J4 X N L) (H5 X y N L) (E6 L k) L
def Q0 (X : List (List Rat)) (N L k : Nat) : List Rat:=Z4 (J4 X N L) (E6 L k) L
def U4 (X : List (List Rat)) (y : List Rat) (N L k : Nat) : List Lm:=V9 (J4 X N L) (H5 X y N L) (Q7 X y N L k) (Q0 X N L k) (E6 L k) L L
def P9 (X : List (List Rat)) (y : List Rat) (N L : Nat) (a : Rat) : Nat:=Y7 (fun k=>!H7 a (U4 X y N L k)) (3 ^ L) 0
def A19 (X : List (List Rat)) (y : List Rat) (N L : Nat) (a : Rat) (k : Nat) : List Rat:=M5 (Q7 X y N L k) (Q0 X N L k) L a
def Q9 (X : List (List Rat)) (y : List Rat) (N L : Nat) (a : Rat) : List Rat:=A19 X y N L a (P9 X y N L a)
def A3W (X : List (List Rat)) (N L : Nat) : Prop:=(C7 N L (E8 X,[]) L).2.length = L
section
variable {X : List (List Rat)} {N L : Nat} (hF : A3W X N L)
include hF
theorem A7c (y : List Rat) (a : Rat) (k : Nat) : SolW (I1 X N) L (gq (H5 X y N L)) a (gi (E6 L k)) (gq (A19 X y N L a k)) :=
 A9e (fun i hi j hj=>A2j hi hj) (A2J hF) (E6 L k) a
omit hF in
theorem A6Z (y : List Rat) (a : Rat) (k : Nat) : H7 a (U4 X y N L k) = true ↔ A4h (I1 X N) L (gq (H5 X y N L)) a (gi (E6 L k)) (gq (A19 X y N L a k)) :=
 A6c (G:=I1 X N) (fun i hi j hj=>A2j hi hj) (E6 L k) _ _ a L (Nat.le_refl _)
theorem B0a (y : List Rat) (a : Rat) : ∃ k,k < 3 ^ L ∧ H7 a (U4 X y N L k) = true:=by
 obtain ⟨k,hk,h⟩:=B0I (G:=I1 X N) (n:=L) (p:=gq (H5 X y N L)) (a:=a) (fun i _ j _=>A84 X N i j) (A86 X N L) (A2J hF) (3 ^ L) (fun k=>gi (E6 L k)) (fun k=>gq (A19 X y N L a k)) (fun k _=>A5m L k) (fun k _=>A7c hF y a k) (fun s hs=>by
  obtain ⟨c,hc,he⟩:=A58 s L hs
  exact ⟨c,hc,fun i hi=>by rw [A6Y hi];exact he i hi⟩)
 exact ⟨k,hk,(A6Z y a k).2 h⟩
theorem A8w (y : List Rat) (a : Rat) : P9 X y N L a < 3 ^ L ∧ H7 a (U4 X y N L (P9 X y N L a)) = true ∧ ∀ j,j < P9 X y N L a → H7 a (U4 X y N L j) = false:=by
 obtain ⟨h1,h2,h3,h4⟩:=A27 (fun k=>!H7 a (U4 X y N L k)) (3 ^ L) 0
 have hlt : P9 X y N L a < 3 ^ L:=by
  rcases Nat.lt_or_ge (P9 X y N L a) (3 ^ L) with h | h
  ·exact h
  ·obtain ⟨k,hk,hh⟩:=B0a hF y a
   have := h3 k (Nat.zero_le _) (by unfold P9 at h;omega)
   simp only [hh] at this
   cases this
 refine ⟨hlt,?_,fun j hj=>?_⟩
 ·have := h4 (by unfold P9 at hlt;omega)
  simpa [P9] using this
 ·have := h3 j (Nat.zero_le _) hj
  simpa using this
theorem A7w (y : List Rat) {a : Rat} (ha : 0 ≤ a) : Kkt (I1 X N) L (gq (H5 X y N L)) a (gq (Q9 X y N L a)) :=
 B0m (A5m L _) ha (A7c hF y a _) ((A6Z y a _).1 (A8w hF y a).2.1)
theorem A9L (y : List Rat) {a : Rat} (ha : 0 ≤ a) {w : Nat → Rat} (h : Kkt (I1 X N) L (gq (H5 X y N L)) a w) : ∀ i,i < L → w i = gq (Q9 X y N L a) i :=
 B32 (fun i _ j _=>A84 X N i j) (A86 X N L) (A2J hF) ha (A7w hF y ha) h
end
theorem B0R (X : List (List Rat)) (y : List Rat) (N L : Nat) (a : Rat) : (Q9 X y N L a).length = L:=by
 unfold Q9 A19 M5
 simp
section
variable {X : List (List Rat)} {y : List Rat} {N L s g : Nat} (hN : N ≤ 300) (hX : ∀ i,i < N → ∀ j,j < L → qs (gq (B6 X i) j) ≤ s) (hys : ∀ i,i < N → qs (gq y i) ≤ s) (hg : N * (s + s + 1) + 1 ≤ g)
include hX hg
theorem A8S {i j : Nat} (hi : i < L) (hj : j < L) : qs (gq (B6 (J4 X N L) i) j) ≤ g:=by
 rw [A2j hi hj]
 have h1:=A0u (a:=G7 X i N) (b:=G7 X j N) (n:=N) (s:=s) (t:=s) (fun r hr=>by rw [A1R X i N hr];exact hX r hr i hi) (fun r hr=>by rw [A1R X j N hr];exact hX r hr j hj) N (Nat.le_refl _)
 exact Nat.le_trans h1 hg
include hys
theorem A7Z {i : Nat} (hi : i < L) : qs (gq (H5 X y N L) i) ≤ g:=by
 rw [show gq (H5 X y N L) i = E5 (G7 X i N) y N from R7 _ hi]
 have h1:=A0u (a:=G7 X i N) (b:=y) (n:=N) (s:=s) (t:=s) (fun r hr=>by rw [A1R X i N hr];exact hX r hr i hi) hys N (Nat.le_refl _)
 exact Nat.le_trans h1 hg
end
theorem A6p (x : Int) (h1 : -1 ≤ x) (h2 : x ≤ 1) : qs (C1 x) ≤ 1:=by
 have : x = -1 ∨ x = 0 ∨ x = 1:=by omega
 rcases this with rfl | rfl | rfl <;> decide
theorem B1i (n c : Nat) : (E6 n c).length = n:=by unfold E6;simp
theorem A4g {n c i : Nat} (hi : i < n) : -1 ≤ gi (E6 n c) i ∧ gi (E6 n c) i ≤ 1:=by
 have := A5m n c i hi
 omega
theorem A6a {X : List (List Rat)} {y : List Rat} {N L g : Nat} (hg1 : 1 ≤ g) (hL : L ≤ 6) (hG : ∀ i,i < L → ∀ j,j < L → qs (gq (B6 (J4 X N L) i) j) ≤ g) (hP : ∀ i,i < L → qs (gq (H5 X y N L) i) ≤ g) (k : Nat) :
  (∀ i,qs (gq (Q7 X y N L k) i) ≤ g * 10 ^ (L + 1)) ∧ (∀ i,qs (gq (Q0 X N L k) i) ≤ g * 10 ^ (L + 1)) ∧ ∀ x ∈ U4 X y N L k,qs x.1 ≤ 20 * (g * 10 ^ (L + 1)) ∧ qs x.2 ≤ 20 * (g * 10 ^ (L + 1)):=by
 obtain ⟨Z,hZ⟩ : ∃ Z,Z = g * 10 ^ (L + 1):=⟨_,rfl⟩
 have hgZ : 10 * g ≤ Z:=by
  rw [hZ,Nat.pow_succ,Nat.mul_comm (10 ^ L) 10,← Nat.mul_assoc,Nat.mul_comm g 10]
  exact Nat.le_mul_of_pos_right _ (Nat.pow_pos (by omega))
 have hv1:=A3P (y:=R0 (H5 X y N L) (E7 (E6 L k) L)) (U:=E7 (E6 L k) L) (n:=L) A1C (A3d _ _) hG hg1 (fun j hj=>by unfold R0;rw [A1b hj];exact hP _ (A1C _ (M7 hj)))
 have hv2:=A3P (y:=S5 (E6 L k) (E7 (E6 L k) L)) (U:=E7 (E6 L k) L) (n:=L) A1C (A3d _ _) hG hg1 (fun j hj=>by
  unfold S5
  rw [A1b hj]
  obtain ⟨h1,h2⟩:=A4g (c:=k) (A1C _ (M7 hj))
  exact Nat.le_trans (A6p _ (by omega) (by omega)) hg1)
 rw [← hZ] at hv1 hv2 ⊢
 have hF : ∀ i,qs (gq (Q7 X y N L k) i) ≤ Z:=fun i=>A2a hv1 (by omega) _ (Nat.le_refl _) i
 have hB : ∀ i,qs (gq (Q0 X N L k) i) ≤ Z:=fun i=>A2a hv2 (by omega) _ (Nat.le_refl _) i
 refine ⟨hF,hB,fun x hx=>?_⟩
 unfold U4 V9 at hx
 obtain ⟨i,hi,hx⟩:=List.mem_flatMap.1 hx
 have hi:=List.mem_range.1 hi
 obtain ⟨h1,h2⟩:=A4g (c:=k) hi
 have q1:=A6p _ h1 h2
 have q2 : qs (C1 1) ≤ 1:=by decide
 unfold U6 at hx
 split at hx
 ·rw [List.mem_singleton] at hx
  subst hx
  have z1:=T4 (gq (Q0 X N L k) i) (C1 (gi (E6 L k) i))
  have z2:=T4 (gq (Q7 X y N L k) i) (C1 (gi (E6 L k) i))
  have z3:=hF i
  have z4:=hB i
  unfold C2
  exact ⟨by simp only;omega,by simp only;omega⟩
 ·have hd:=fun (W : List Rat) (hW : ∀ i,qs (gq W i) ≤ Z)=>A0u (a:=B6 (J4 X N L) i) (b:=W) (n:=L) (s:=g) (t:=Z) (fun j hj=>hG i hi j hj) (fun j _=>hW j) L (Nat.le_refl _)
  have d1:=hd _ hF
  have d2:=hd _ hB
  have d3 : L * (g + Z + 1) ≤ 6 * (g + Z + 1):=Nat.mul_le_mul_right _ hL
  have z5:=hP i hi
  have z1:=A2r (C1 1) (E5 (B6 (J4 X N L) i) (Q0 X N L k) L)
  have z2:=A2r (gq (H5 X y N L) i) (E5 (B6 (J4 X N L) i) (Q7 X y N L k) L)
  have z3:=A2i (C1 1) (E5 (B6 (J4 X N L) i) (Q0 X N L k) L)
  simp only [List.mem_cons,List.not_mem_nil,or_false] at hx
  rcases hx with rfl | rfl
  ·unfold G9
   exact ⟨by simp only;omega,by simp only;omega⟩
  ·have z4 : qs (Y5 (G9 (gq (H5 X y N L) i) (E5 (B6 (J4 X N L) i) (Q7 X y N L k) L))) = qs (G9 (gq (H5 X y N L) i) (E5 (B6 (J4 X N L) i) (Q7 X y N L k) L)):=A3E _
   simp only
   rw [z4]
   unfold G9 G8
   exact ⟨by omega,by omega⟩
theorem B0k (X : List (List Rat)) (y : List Rat) (N L k : Nat) (hL : L ≤ 6) : (Q7 X y N L k).length = L ∧ (Q0 X N L k).length = L ∧ (U4 X y N L k).length ≤ 1000 :=
 ⟨W7 _ _ _ _,W7 _ _ _ _,Nat.le_trans (A4l L) (by omega)⟩
theorem B3z (X : List (List Rat)) (N L : Nat) : (J4 X N L).length = L ∧ ∀ r ∈ J4 X N L,r.length = L:=by
 refine ⟨by unfold J4;simp,fun r hr=>?_⟩
 unfold J4 at hr
 obtain ⟨i,-,rfl⟩:=List.mem_map.1 hr
 unfold F0
 simp
theorem B3R {X : List (List Rat)} {y : List Rat} {N L g : Nat} (hF : A3W X N L) (hL1 : 1 ≤ L) (hL : L ≤ 6) (hg1 : 1 ≤ g) (hG : ∀ i,i < L → ∀ j,j < L → qs (gq (B6 (J4 X N L) i) j) ≤ g) (hP : ∀ i,i < L → qs (gq (H5 X y N L) i) ≤ g) (hBz : 100 * (g * 10 ^ (L + 1)) ≤ BIG) (k : Nat) :
  A2P L (J4 X N L) (H5 X y N L) (E6 L k) (Q7 X y N L k) (Q0 X N L k) (U4 X y N L k):=by
 obtain ⟨g1,g2⟩:=B3z X N L
 exact A6g L hL1 hL _ _ _ g1 g2 (by unfold H5;simp) (B1i L k) (fun i hi=>A4g hi) g hg1 hG hP hBz
  (A5L (A4M _ _) A1C (fun i hi j hj=>A2j hi hj) (A2J hF) _) (A5L (A4M _ _) A1C (fun i hi j hj=>A2j hi hj) (A2J hF) _)
theorem B4j {a : Rat} (ha : 0 ≤ a) : ¬ a.num < 0:=by
 have := Rat.num_nonneg.2 ha
 omega
theorem B24 (A : Option Addr) (rs : List Rq) (N Lw c : Nat) (Y : Ax) (y : List Rat) (hn : rs.length = N) (hN1 : 1 ≤ N) (hN2 : N ≤ 300) (hL1 : 1 ≤ Lw) (hL2 : Lw ≤ 6) (hrl : ∀ r ∈ rs,r.2.2.length = Lw) (hy : y.length = N) (s g : Nat) (hs1 : 1 ≤ s) (hs : s ≤ 10000) (hX : ∀ i,i < N → ∀ j,j < Lw → qs (gq (B6 (rs.map (·.2.2)) i) j) ≤ s) (hys : ∀ i,i < N → qs (gq y i) ≤ s) (hg : N * (s + s + 1) + 1 ≤ g) (hBz : 100 * (g * 10 ^ (Lw + 1)) ≤ BIG) (a : Rat) (ha0 : 0 ≤ a) (haz : qs a ≤ g)
  (hun : A3W (rs.map (·.2.2)) N Lw) (w : World) (h : Lrq w A rs) (h2 : Lq w Y.1 y) (HT : Tab w) :
  Calls Tryz.prog 14 #[.slice A N c,.slice Y.1 N Y.2,qV a] w (G5 (fun x : Ax=>.tuple #[.slice x.1 Lw x.2,.int .i64 0]) (fun x W=>Lq W x.1 (Q9 (rs.map (·.2.2)) y N Lw a)) w):=by
 have hG:=fun i (hi : i < Lw) j (hj : j < Lw)=>A8S hX hg hi hj
 have hP:=fun i (hi : i < Lw)=>A7Z hX hys hg hi
 obtain ⟨k1,k2,k3⟩:=A8w hun y a
 have hgZ : 10 * g ≤ g * 10 ^ (Lw + 1):=by
  rw [Nat.pow_succ,Nat.mul_comm (10 ^ Lw) 10,← Nat.mul_assoc,Nat.mul_comm g 10]
  exact Nat.le_mul_of_pos_right _ (Nat.pow_pos (by omega))
 have hz1 : qs a ≤ 20 * (g * 10 ^ (Lw + 1)):=by
  generalize g * 10 ^ (Lw + 1) = Z at *
  omega
 have hz2 : 4 * (20 * (g * 10 ^ (Lw + 1))) + 10 ≤ BIG:=by
  generalize g * 10 ^ (Lw + 1) = Z at *
  omega
 have hsz : ∀ k,k < 3 ^ Lw → (∀ i,i < Lw → qs (gq (Q7 (rs.map (·.2.2)) y N Lw k) i) ≤ 20 * (g * 10 ^ (Lw + 1))) ∧ (∀ i,i < Lw → qs (gq (Q0 (rs.map (·.2.2)) N Lw k) i) ≤ 20 * (g * 10 ^ (Lw + 1))) ∧ ∀ x ∈ U4 (rs.map (·.2.2)) y N Lw k,qs x.1 ≤ 20 * (g * 10 ^ (Lw + 1)) ∧ qs x.2 ≤ 20 * (g * 10 ^ (Lw + 1)):=fun k _=>by
  obtain ⟨z1,z2,z3⟩:=A6a (by omega) hL2 hG hP k
  generalize g * 10 ^ (Lw + 1) = Z at *
  exact ⟨fun i _=>Nat.le_trans (z1 i) (by omega),fun i _=>Nat.le_trans (z2 i) (by omega),z3⟩
 have hsv : ∀ k,k < 3 ^ Lw → A2P Lw (J4 (rs.map (·.2.2)) N Lw) (H5 (rs.map (·.2.2)) y N Lw) (E6 Lw k) (Q7 (rs.map (·.2.2)) y N Lw k) (Q0 (rs.map (·.2.2)) N Lw k) (U4 (rs.map (·.2.2)) y N Lw k):=fun k _=>B3R hun hL1 hL2 (by omega) hG hP hBz k
 have hln : ∀ k,k < 3 ^ Lw → (Q7 (rs.map (·.2.2)) y N Lw k).length = Lw ∧ (Q0 (rs.map (·.2.2)) N Lw k).length = Lw ∧ (U4 (rs.map (·.2.2)) y N Lw k).length ≤ 1000:=fun k _=>B0k _ y N Lw k hL2
 unfold Q9 A19
 obtain ⟨kk,hkk⟩ : ∃ kk,kk = P9 (rs.map (·.2.2)) y N Lw a:=⟨_,rfl⟩
 rw [← hkk] at k1 k2 k3 ⊢
 obtain ⟨Z,hZ⟩ : ∃ Z,Z = 20 * (g * 10 ^ (Lw + 1)):=⟨_,rfl⟩
 rw [← hZ] at hz1 hz2
 simp only [← hZ] at hsz
 obtain ⟨F,hF⟩ : ∃ F,F = Q7 (rs.map (·.2.2)) y N Lw:=⟨_,rfl⟩
 obtain ⟨B,hB⟩ : ∃ B,B = Q0 (rs.map (·.2.2)) N Lw:=⟨_,rfl⟩
 obtain ⟨LM,hLM⟩ : ∃ LM,LM = U4 (rs.map (·.2.2)) y N Lw:=⟨_,rfl⟩
 rw [← hLM] at k2 k3
 simp only [← hF,← hB,← hLM] at hsz hsv hln ⊢
 exact A8X A rs N Lw c Y y hn hN1 hN2 hL1 hL2 hrl hy s hs1 hs hX hys a (B4j ha0) hun F B LM Z hz1 hz2 hln hsz hsv kk k1 k2 k3 w h h2 HT
theorem B1v (A Y : Option Addr) (N M c d : Nat) (a : Rat) (ha : 0 ≤ a) (haz : qs a ≤ BIG) (z : Int) (hz : (z != 0) = true) (w : World) (hs : ∀ W,A4 w W → Calls Tryz.prog 57 #[.slice A N c,.slice Y M d] W fun e w'=>e = .returned (.bool true) ∧ A4 W w')
  (hu : ∀ W,A4 w W → Calls Tryz.prog 58 #[.slice A N c] W fun e w'=>e = .returned (.int .i64 z) ∧ A4 W w') :
  Calls Tryz.prog 14 #[.slice A N c,.slice Y M d,qV a] w fun e w'=>e = .returned (.tuple #[.slice none 0 0,.int .i64 z]) ∧ A4 w w':=by
 have hfs:=fun (W : World)=>Q8 a (by have := G4 a;have := I9;omega) W
 have hsg : decide (a.num.sign < 0) = false:=by
  have h1 : ¬ a < 0:=by grind
  have h2:=@A4a a
  rcases A7Y a with e | e | e
  ·rw [e];rfl
  ·exact absurd (h2.1 e) h1
  ·rw [e];rfl
 obtain ⟨S,hS⟩ : ∃ S,S = a.num.sign:=⟨_,rfl⟩
 rw [← hS] at hsg
 simp only [← hS] at hfs
 have Hs:=Lib.hid hs
 have Hu:=Lib.hid hu
 have Hfs:=Lib.hid hfs
 clear hs hu hfs ha haz hS
 go_enter Tryz.func14,Tryz.ntmps14
 refine en3 ?_
 intro u hG b7 b6 b5 hB hF
 refine wp_seq ?_
 refine wp_seq (rsE F8 [0,0,1,0] hB hG fun L hL=>?_)
 refine gs ?_
 refine gmd (C:=fun v ⟨hgu,hB,hG,_⟩=>Hs.out _ hG) ?_
 refine gs ?_
 refine geT hL ?_
 clear hB hG hL L
 rintro u ⟨-,hB,hG,-⟩
 refine wp_cond_false (rfl) ?_
 refine wp_skip ?_
 refine A6 ?_
 refine wp_seq ?_
 refine wp_seq (rsE F8 [0,1,0] hB hG fun L hL=>?_)
 refine gs ?_
 refine gmw (C:=fun v=>Hfs.out _) ?_
 refine gs ?_
 refine geT hL ?_
 clear hB hG hL L
 rintro u ⟨-,hB,hG,-⟩
 refine wp_cond_false (rfl) ?_
 refine wp_skip ?_
 refine A6 ?_
 refine wp_seq ?_
 refine wp_seq (rsE F8 [0,1,0] hB hG fun L hL=>?_)
 refine gs ?_
 refine gmd (C:=fun v ⟨hgu,hB,hG,_⟩=>Hu.out _ hG) ?_
 refine gs ?_
 refine geT hL ?_
 clear hB hG hL L
 rintro u ⟨-,hB,hG,-⟩
 refine r0T ?_
 refine wp_cond_true (rfl) ?_
 have hD : b6 ≠ b7 ∧ b7 ≠ b6:=⟨hF.ne 1 2 rfl rfl (by decide),hF.ne 2 1 rfl rfl (by decide)⟩
 refine r0T ?_
 clear hD
 refine st2 hB hF hG 1 0 [_] 2 0 [_] ?_
 clear hB hG
 intro u hB hG
 refine rt Tryz.results14 ?_
 exact ⟨rfl,hG⟩
end Go.Proofs.YtgpglgbcobeogaaGreatDoor
