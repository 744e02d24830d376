/- Contracts and laws. -/
import Derived.Test.YtlkniebmjdoopaaGreatDoorK2
set_option linter.unusedSimpArgs false
set_option linter.unusedVariables false
namespace Go.Proofs.YtlkniebmjdoopaaGreatDoor
def GW (W u2 u1 u0 v1 v0 g : Nat) : Prop:=g < W ∧ g * (v1 * W + v0) ≤ (u2 * W + u1) * W + u0 ∧ ∀ g',g' < W → g' * (v1 * W + v0) ≤ (u2 * W + u1) * W + u0 → g' ≤ g
def GI (W u2 u1 u0 v1 v0 g r : Nat) : Prop:=g < W ∧ g * v1 + r = u2 * W + u1 ∧ ∀ g',g' < W → g' * (v1 * W + v0) ≤ (u2 * W + u1) * W + u0 → g' ≤ g
theorem GI.full {W u2 u1 u0 v1 v0 : Nat} (hW : 0 < W) (h : u2 = v1) : GI W u2 u1 u0 v1 v0 (W - 1) (u1 + v1):=by
 refine ⟨by omega,?_,fun g' hg' _=>by omega⟩
 obtain ⟨k,rfl⟩ : ∃ k,W = k + 1:=⟨W - 1,by omega⟩
 subst h
 rw [Nat.add_sub_cancel,Nat.mul_add,Nat.mul_one,Nat.mul_comm k]
 omega
theorem GI.quo {W u2 u1 u0 v1 v0 : Nat} (hW : 0 < W) (h : u2 < v1) (h1 : u1 < W) (h0 : u0 < W) : GI W u2 u1 u0 v1 v0 ((u2 * W + u1) / v1) ((u2 * W + u1) % v1):=by
 have hlt : u2 * W + u1 < v1 * W:=by
  have : (u2 + 1) * W ≤ v1 * W:=Nat.mul_le_mul_right _ h
  rw [Nat.add_mul,Nat.one_mul] at this
  omega
 refine ⟨(Nat.div_lt_iff_lt_mul (by omega)).2 (by rw [Nat.mul_comm W v1];exact hlt),by rw [Nat.mul_comm];exact Nat.div_add_mod _ _,fun g' _ hg=>?_⟩
 rw [Nat.le_div_iff_mul_le (by omega)]
 have h2 : g' * v1 * W ≤ g' * (v1 * W + v0):=by rw [Nat.mul_add,Nat.mul_assoc];omega
 have h3 : g' * v1 * W < (u2 * W + u1 + 1) * W:=by rw [Nat.add_mul (u2 * W + u1),Nat.one_mul];omega
 have := Nat.lt_of_mul_lt_mul_right h3
 omega
theorem GI.stop {W u2 u1 u0 v1 v0 g r : Nat} (h : GI W u2 u1 u0 v1 v0 g r) (hs : g * v0 ≤ r * W + u0) : GW W u2 u1 u0 v1 v0 g:=by
 refine ⟨h.1,?_,h.2.2⟩
 rw [← h.2.1,Nat.mul_add,Nat.add_mul (g * v1),Nat.mul_assoc]
 omega
theorem GI.over {W u2 u1 u0 v1 v0 g r : Nat} (h : GI W u2 u1 u0 v1 v0 g r) (h0 : v0 < W) (hr : W ≤ r) : GW W u2 u1 u0 v1 v0 g:=by
 refine h.stop ?_
 have h1 : g * v0 ≤ W * W:=Nat.mul_le_mul (Nat.le_of_lt h.1) (Nat.le_of_lt h0)
 have h2 : W * W ≤ r * W:=Nat.mul_le_mul_right _ hr
 omega
theorem GI.next {W u2 u1 u0 v1 v0 g r : Nat} (h : GI W u2 u1 u0 v1 v0 g r) (hs : ¬ g * v0 ≤ r * W + u0) : 0 < g ∧ GI W u2 u1 u0 v1 v0 (g - 1) (r + v1):=by
 have hg : 0 < g:=by
  rcases Nat.eq_zero_or_pos g with h0 | h0
  ·rw [h0,Nat.zero_mul] at hs;omega
  ·exact h0
 obtain ⟨k,rfl⟩ : ∃ k,g = k + 1:=⟨g - 1,by omega⟩
 have h1:=h.2.1
 rw [Nat.add_mul,Nat.one_mul] at h1
 refine ⟨hg,by have := h.1;omega,by rw [Nat.add_sub_cancel];omega,fun g' hg' hv=>?_⟩
 have h2:=h.2.2 g' hg' hv
 rcases Nat.lt_or_ge g' (k + 1) with h3 | h3
 ·omega
 ·obtain rfl : g' = k + 1:=by omega
  exfalso
  apply hs
  rw [← h.2.1,Nat.mul_add,Nat.add_mul ((k + 1) * v1),Nat.mul_assoc] at hv
  omega
theorem B0J {W p r u0 : Nat} (hW : 0 < W) (h0 : u0 < W) : p ≤ r * W + u0 ↔ (p / W < r ∨ (p / W = r ∧ p % W ≤ u0)):=by
 have h1:=Nat.div_add_mod p W
 have h2:=Nat.mod_lt p hW
 constructor
 ·intro h
  rcases Nat.lt_or_ge (p / W) r with h3 | h3
  ·exact .inl h3
  ·refine .inr ?_
   have h4 : p / W ≤ r:=by
    rcases Nat.lt_or_ge r (p / W) with h5 | h5
    ·have : W * (r + 1) ≤ W * (p / W):=Nat.mul_le_mul_left _ h5
     rw [Nat.mul_add,Nat.mul_one,Nat.mul_comm W r] at this
     omega
    ·exact h5
   have h5 : p / W = r:=by omega
   refine ⟨h5,?_⟩
   rw [h5,Nat.mul_comm] at h1
   omega
 ·rintro (h | ⟨h,h3⟩)
  ·have : W * (p / W + 1) ≤ W * r:=Nat.mul_le_mul_left _ h
   rw [Nat.mul_add,Nat.mul_one,Nat.mul_comm W r] at this
   omega
  ·rw [h,Nat.mul_comm] at h1
   omega
theorem A5k {l : List Nat} {k : Nat} (h : k < l.length) (y : Nat) : dg (l.set k y) k = y:=by
 unfold dg
 rw [List.getElem?_set_self h]
 rfl
def ShU (W P wh : Nat) (l : List Nat) (i : Nat) (zs : List Nat) : Prop :=
 zs.length = l.length + wh + 1 ∧ Dig W zs ∧ val W zs = val W (l.take i) * (W ^ wh * P) ∧ dg zs (i + wh) < P ∧ ∀ t,i + wh < t → dg zs t = 0
theorem ShU.start {W P wh : Nat} (l : List Nat) (hW : 0 < W) (hP : 0 < P) : ShU W P wh l 0 (List.replicate (l.length + wh + 1) 0):=by
 have hz : ∀ t,dg (List.replicate (l.length + wh + 1) 0) t = 0:=fun t=>by unfold dg;rw [List.getElem?_replicate];split <;> rfl
 exact ⟨by simp,fun x hx=>by rw [(List.mem_replicate.1 hx).2];exact hW,by simp [A0c,val],by rw [hz];exact hP,fun t _=>hz t⟩
theorem A7c {W P R x c : Nat} (hW : W = P * R) (hR : 0 < R) (hc : c < P) (hx : x < W) : c + x % R * P < W ∧ x / R < P ∧ x % R * P + W * (x / R) = P * x:=by
 have h1 : x % R + 1 ≤ R:=Nat.mod_lt x hR
 have h2 : (x % R + 1) * P ≤ R * P:=Nat.mul_le_mul_right _ h1
 rw [Nat.add_mul,Nat.one_mul] at h2
 refine ⟨by rw [hW,Nat.mul_comm P R];omega,(Nat.div_lt_iff_lt_mul hR).2 (by rw [← hW];exact hx),?_⟩
 have h3:=Nat.div_add_mod x R
 rw [hW]
 calc x % R * P + P * R * (x / R) = P * (R * (x / R) + x % R):=by grind
  _ = P * x:=by rw [h3]
theorem ShU.next {W P R wh : Nat} {l : List Nat} {i : Nat} {zs : List Nat} (h : ShU W P wh l i zs) (hW : W = P * R) (hR : 0 < R) (hi : i < l.length) (hd : Dig W l) (hW0 : 0 < W) :
  ShU W P wh l (i + 1) ((zs.set (i + wh) (dg zs (i + wh) + dg l i % R * P)).set (i + wh + 1) (dg l i / R)):=by
 obtain ⟨h1,h2,h3,h4,h5⟩:=h
 have hx:=B9 hW0 hd i
 obtain ⟨a1,a2,a3⟩:=A7c (c:=dg zs (i + wh)) hW hR h4 hx
 have hP : P ≤ W:=by rw [hW];exact Nat.le_mul_of_pos_right _ hR
 have hk1 : i + wh < zs.length:=by omega
 have hk2 : i + wh + 1 < zs.length:=by omega
 have e1:=S3 W zs (i + wh) (dg zs (i + wh) + dg l i % R * P) hk1
 have e2:=S3 W (zs.set (i + wh) (dg zs (i + wh) + dg l i % R * P)) (i + wh + 1) (dg l i / R) (by rw [List.length_set];exact hk2)
 rw [L9 _ _ (by omega),h5 (i + wh + 1) (by omega),Nat.mul_zero,Nat.add_zero] at e2
 refine ⟨by simp [h1],M3 (M3 h2 _ a1) _ (by omega),?_,?_,fun t ht=>?_⟩
 ·rw [e2,I7,Nat.add_mul,← h3]
  have e3 : W ^ (i + wh) * (dg l i % R * P) + W ^ (i + wh + 1) * (dg l i / R) = W ^ i * dg l i * (W ^ wh * P):=by
   calc W ^ (i + wh) * (dg l i % R * P) + W ^ (i + wh + 1) * (dg l i / R) = W ^ (i + wh) * (dg l i % R * P + W * (dg l i / R)):=by rw [Nat.pow_succ];grind
    _ = W ^ i * dg l i * (W ^ wh * P):=by rw [a3,Nat.pow_add];grind
  rw [Nat.mul_add] at e1
  omega
 ·rw [show i + 1 + wh = i + wh + 1 by omega,A5k (by rw [List.length_set];exact hk2)]
  exact a2
 ·rw [L9 _ _ (by omega),L9 _ _ (by omega)]
  exact h5 t (by omega)
theorem ShU.done {W P wh : Nat} {l zs : List Nat} (h : ShU W P wh l l.length zs) : val W zs = val W l * (W ^ wh * P):=by
 have := h.2.2.1
 rwa [List.take_length] at this
theorem A6F (n : Nat) : 18446744073709551616 ^ (n / 64) * 2 ^ (n % 64) = 2 ^ n:=by
 rw [show (18446744073709551616 : Nat) = 2 ^ 64 from rfl,← Nat.pow_mul,← Nat.pow_add,Nat.div_add_mod]
def ShD (W P R wh : Nat) (l : List Nat) (i : Nat) (zs : List Nat) : Prop :=
 zs.length = l.length - wh ∧ (∀ t,t < i → dg zs t = dg l (t + wh) / P + dg l (t + wh + 1) % P * R) ∧ ∀ t,i ≤ t → dg zs t = 0
theorem A1l {W P R x y : Nat} (hW : W = P * R) (hP : 0 < P) (hx : x < W) : x / P + y % P * R < W ∧ x / P < R:=by
 have h0 : x / P < R:=(Nat.div_lt_iff_lt_mul hP).2 (by rw [Nat.mul_comm,← hW];exact hx)
 have h1 : y % P + 1 ≤ P:=Nat.mod_lt y hP
 have h2 : (y % P + 1) * R ≤ P * R:=Nat.mul_le_mul_right _ h1
 rw [Nat.add_mul,Nat.one_mul] at h2
 exact ⟨by rw [hW];omega,h0⟩
theorem A4c {W : Nat} (hW : 0 < W) {l : List Nat} (hd : Dig W l) (k : Nat) : val W (l.drop k) = val W l / W ^ k:=by
 have h1:=S7 W (l.take k) (l.drop k)
 rw [List.take_append_drop] at h1
 rcases Nat.lt_or_ge k l.length with h | h
 ·have hl : (l.take k).length = k:=by simp;omega
  have h2:=H5 (B:=W) (l:=l.take k) fun x hx=>hd x (List.mem_of_mem_take hx)
  rw [hl] at h1 h2
  rw [h1,Nat.add_mul_div_left _ _ (Nat.pow_pos hW),Nat.div_eq_of_lt h2,Nat.zero_add]
 ·rw [List.drop_of_length_le h]
  have h2:=H5 hd
  have h3 : W ^ l.length ≤ W ^ k:=Nat.pow_le_pow_right hW h
  rw [Nat.div_eq_of_lt (by omega)]
  rfl
theorem A3K {W P R : Nat} (hW : W = P * R) (hP : 0 < P) (hW0 : 0 < W) : ∀ (l zs : List Nat),Dig W l → zs.length = l.length → (∀ t,t < l.length → dg zs t = dg l t / P + dg l (t + 1) % P * R) → val W zs = val W l / P
 | [],zs,_,hl,_=>by
  rw [List.eq_nil_of_length_eq_zero hl]
  exact (Nat.zero_div P).symm
 | x :: l,[],_,hl,_=>by simp at hl
 | x :: l,z :: zs,hd,hl,h=>by
  have ih:=A3K hW hP hW0 l zs (fun y hy=>hd y (by simp [hy])) (by simpa using hl) fun t ht=>by
   have := h (t + 1) (by simp;omega)
   exact this
  have h0:=h 0 (by simp)
  have hz : z = x / P + dg l 0 % P * R:=h0
  rw [K3,K3,ih,hz]
  have hdl : val W l % P = dg l 0 % P:=by
   cases l with
   | nil=>rfl
   | cons y l' =>
    show (y + W * val W l') % P = y % P
    rw [hW,Nat.mul_assoc,Nat.add_mul_mod_self_left]
  have e1:=Nat.div_add_mod (val W l) P
  have e2:=Nat.div_add_mod x P
  have hm:=Nat.mod_lt x hP
  rw [← hdl]
  have e3 : x + W * val W l = P * (x / P + val W l % P * R + W * (val W l / P)) + x % P:=by
   calc x + W * val W l = P * (x / P) + x % P + W * (P * (val W l / P) + val W l % P):=by rw [e1,e2]
    _ = P * (x / P + val W l % P * R + W * (val W l / P)) + x % P:=by rw [hW];grind
  rw [e3,Nat.mul_add_div hP,Nat.div_eq_of_lt hm,Nat.add_zero]
theorem A0L (l : List Nat) (k t : Nat) : dg (l.drop k) t = dg l (k + t):=by unfold dg;rw [List.getElem?_drop]
theorem ShD.done {W P R wh : Nat} {l zs : List Nat} (hW : W = P * R) (hP : 0 < P) (hW0 : 0 < W) (hd : Dig W l) (h : ShD W P R wh l (l.length - wh) zs) : val W zs = val W l / (W ^ wh * P):=by
 rw [← Nat.div_div_eq_div_mul,← A4c hW0 hd wh]
 refine A3K hW hP hW0 _ _ (fun y hy=>hd y (List.mem_of_mem_drop hy)) (by rw [h.1,List.length_drop]) fun t ht=>?_
 rw [List.length_drop] at ht
 rw [h.2.1 t ht,A0L,A0L,show wh + (t + 1) = t + wh + 1 by omega,Nat.add_comm wh t]
theorem ShD.start {W P R wh : Nat} (l : List Nat) : ShD W P R wh l 0 (List.replicate (l.length - wh) 0) :=
 ⟨by simp,fun t ht=>by omega,fun t _=>by unfold dg;rw [List.getElem?_replicate];split <;> rfl⟩
theorem ShD.next {W P R wh : Nat} {l : List Nat} {i : Nat} {zs : List Nat} (h : ShD W P R wh l i zs) (hi : i < l.length - wh) : ShD W P R wh l (i + 1) (zs.set i (dg l (i + wh) / P + dg l (i + wh + 1) % P * R)):=by
 refine ⟨by rw [List.length_set];exact h.1,fun t ht=>?_,fun t ht=>by rw [L9 _ _ (by omega)];exact h.2.2 t (by omega)⟩
 rcases Nat.lt_or_ge t i with hlt | hge
 ·rw [L9 _ _ (by omega)];exact h.2.1 t hlt
 ·obtain rfl : t = i:=by omega
  rw [A5k (by rw [h.1];exact hi)]
theorem ShD.dig {W P R wh : Nat} {l zs : List Nat} (hW : W = P * R) (hP : 0 < P) (hW0 : 0 < W) (hd : Dig W l) (h : ShD W P R wh l (l.length - wh) zs) : Dig W zs:=fun x hx=>by
 obtain ⟨t,ht,rfl⟩:=List.getElem_of_mem hx
 rw [← D3 ht,h.2.1 t (by rw [← h.1];exact ht)]
 exact (A1l hW hP (B9 hW0 hd _)).1
theorem A1W {W : Nat} (hW : 0 < W) {l : List Nat} (hd : Dig W l) {k : Nat} (h : ∀ t,k ≤ t → dg l t = 0) : val W l < W ^ k:=by
 have h1:=S7 W (l.take k) (l.drop k)
 rw [List.take_append_drop] at h1
 have h2 : val W (l.drop k) = 0:=by
  have : ∀ (l : List Nat),(∀ t,dg l t = 0) → val W l = 0:=fun l=>by
   induction l with
   | nil=>intro _;rfl
   | cons x l ih =>
    intro h
    rw [K3,ih fun t=>h (t + 1),show x = 0 from h 0]
    simp
  exact this _ fun t=>by rw [A0L];exact h _ (by omega)
 rw [h2,Nat.mul_zero,Nat.add_zero] at h1
 rw [h1]
 have h3:=H5 (B:=W) (l:=l.take k) fun x hx=>hd x (List.mem_of_mem_take hx)
 exact Nat.lt_of_lt_of_le h3 (Nat.pow_le_pow_right hW (by simp;omega))
theorem A2V {W : Nat} (hW : 0 < W) {l : List Nat} (hd : Dig W l) {k : Nat} (h : val W l < W ^ k) (t : Nat) (ht : k ≤ t) : dg l t = 0:=by
 rcases Nat.lt_or_ge t l.length with hl | hl
 ·have h1:=S7 W (l.take t) (l.drop t)
  rw [List.take_append_drop] at h1
  have h2 : (l.take t).length = t:=by simp;omega
  rw [h2] at h1
  have h3 : W ^ k ≤ W ^ t:=Nat.pow_le_pow_right hW ht
  have h4 : val W (l.drop t) = 0:=by
   rcases Nat.eq_zero_or_pos (val W (l.drop t)) with h0 | h0
   ·exact h0
   ·have : W ^ t * 1 ≤ W ^ t * val W (l.drop t):=Nat.mul_le_mul_left _ h0
    omega
  obtain ⟨x,r,hx⟩ : ∃ x r,l.drop t = x :: r:=by
   cases hdr : l.drop t with
   | nil=>have := congrArg List.length hdr;simp at this;omega
   | cons x r=>exact ⟨x,r,rfl⟩
  rw [hx,K3] at h4
  have h5 : dg (l.drop t) 0 = 0:=by rw [hx];show x = 0;omega
  rw [A0L] at h5
  exact h5
 ·exact X1 hl
theorem A2m {W : Nat} (hW : 0 < W) {l : List Nat} (hd : Dig W l) (j : Nat) : val W l / W ^ j = val W (l.drop j):=(A4c hW hd j).symm
theorem A5g {W : Nat} {l : List Nat} (hd : Dig W l) (hW : 0 < W) (k : Nat) (h : ∀ t,k + 3 ≤ t → dg l t = 0) :
  ∃ ul,ul < W ^ k ∧ val W l = ((dg l (k + 2) * W + dg l (k + 1)) * W + dg l k) * W ^ k + ul:=by
 refine ⟨val W (l.take k),?_,?_⟩
 ·have h3:=H5 (B:=W) (l:=l.take k) fun x hx=>hd x (List.mem_of_mem_take hx)
  exact Nat.lt_of_lt_of_le h3 (Nat.pow_le_pow_right hW (by simp;omega))
 ·have h1:=I7 W l k
  have h2:=I7 W l (k + 1)
  have h3:=I7 W l (k + 2)
  have h4 : val W (l.take (k + 3)) = val W l:=by
   have h5:=S7 W (l.take (k + 3)) (l.drop (k + 3))
   rw [List.take_append_drop] at h5
   have h6:=A1W hW (l:=l.drop (k + 3)) (fun x hx=>hd x (List.mem_of_mem_drop hx)) (k:=0) fun t _=>by rw [A0L];exact h _ (by omega)
   have h7 : val W (l.drop (k + 3)) = 0:=by simpa using h6
   rw [h7,Nat.mul_zero,Nat.add_zero] at h5
   exact h5.symm
  rw [← h4,h3,h2,h1,Nat.pow_succ,Nat.pow_succ]
  grind
theorem B0B {W : Nat} {l : List Nat} (hd : Dig W l) (hW : 0 < W) (k : Nat) (h : ∀ t,k + 2 ≤ t → dg l t = 0) :
  ∃ ul,ul < W ^ k ∧ val W l = (dg l (k + 1) * W + dg l k) * W ^ k + ul:=by
 obtain ⟨ul,h1,h2⟩:=A5g hd hW k fun t ht=>h t (by omega)
 refine ⟨ul,h1,?_⟩
 rw [h2,h (k + 2) (by omega)]
 simp
theorem A9A {W n : Nat} {D V : List Nat} (hW : 0 < W) (hdD : Dig W D) (hdV : Dig W V) (hD : ∀ t,n + 3 ≤ t → dg D t = 0) (hV : ∀ t,n + 2 ≤ t → dg V t = 0) (hv1 : 0 < dg V (n + 1)) (hlt : val W D < val W V * W) {g : Nat}
  (h : GW W (dg D (n + 2)) (dg D (n + 1)) (dg D n) (dg V (n + 1)) (dg V n) g) : g = val W D / val W V ∨ (g = val W D / val W V + 1 ∧ val W D < g * val W V):=by
 obtain ⟨ul,hul,eD⟩:=A5g hdD hW n hD
 obtain ⟨vl,hvl,eV⟩:=B0B hdV hW n hV
 obtain ⟨h1,h2,h3⟩:=h
 have hp : 0 < W ^ n:=Nat.pow_pos hW
 have hV2 : W ≤ dg V (n + 1) * W + dg V n:=by
  have : 1 * W ≤ dg V (n + 1) * W:=Nat.mul_le_mul_right _ hv1
  omega
 have hV0 : 0 < val W V:=by
  rw [eV]
  have : 1 * 1 ≤ (dg V (n + 1) * W + dg V n) * W ^ n:=Nat.mul_le_mul (by omega) hp
  omega
 refine B3X hV0 ?_ ?_
 ·refine h3 _ ((Nat.div_lt_iff_lt_mul hV0).2 (by rw [Nat.mul_comm];exact hlt)) ?_
  have h4:=Nat.div_mul_le_self (val W D) (val W V)
  refine B5x (p:=W ^ n) (vl:=vl) hul ?_
  rw [← eV,← eD]
  exact h4
 ·have := B0x hp hvl hul hV2 h1 h2
  rw [← eV,← eD] at this
  exact this
theorem A8o {W n : Nat} {D V : List Nat} (hW : 0 < W) (hdD : Dig W D) (hdV : Dig W V) (hD : ∀ t,n + 3 ≤ t → dg D t = 0) (hV : ∀ t,n + 2 ≤ t → dg V t = 0) (hlt : val W D < val W V * W) : dg D (n + 2) ≤ dg V (n + 1):=by
 obtain ⟨ul,hul,eD⟩:=A5g hdD hW n hD
 obtain ⟨vl,hvl,eV⟩:=B0B hdV hW n hV
 have hp : 0 < W ^ n:=Nat.pow_pos hW
 rcases Nat.lt_or_ge (dg V (n + 1)) (dg D (n + 2)) with h | h
 ·exfalso
  have h0:=B9 hW hdV n
  have h1 : (dg V (n + 1) * W + dg V n) * W ^ n + vl < (dg V (n + 1) + 1) * W * W ^ n:=by
   have : (dg V (n + 1) * W + dg V n + 1) * W ^ n ≤ (dg V (n + 1) + 1) * W * W ^ n:=Nat.mul_le_mul_right _ (by rw [Nat.add_mul,Nat.one_mul];omega)
   rw [Nat.add_mul _ 1,Nat.one_mul] at this
   omega
  have h2 : (dg V (n + 1) + 1) * W * W ^ n * W ≤ val W D:=by
   rw [eD]
   have : (dg V (n + 1) + 1) * (W * W * W ^ n) ≤ dg D (n + 2) * (W * W * W ^ n):=Nat.mul_le_mul_right _ h
   calc (dg V (n + 1) + 1) * W * W ^ n * W = (dg V (n + 1) + 1) * (W * W * W ^ n):=by grind
    _ ≤ dg D (n + 2) * (W * W * W ^ n):=this
    _ ≤ ((dg D (n + 2) * W + dg D (n + 1)) * W + dg D n) * W ^ n + ul:=by
     have e : ((dg D (n + 2) * W + dg D (n + 1)) * W + dg D n) * W ^ n + ul = dg D (n + 2) * (W * W * W ^ n) + (dg D (n + 1) * W * W ^ n + dg D n * W ^ n + ul):=by grind
     omega
  rw [← eV] at h1
  have h3 : val W V * W ≤ (dg V (n + 1) + 1) * W * W ^ n * W:=Nat.mul_le_mul_right _ (Nat.le_of_lt h1)
  omega
 ·exact h
theorem A71 {W x y b : Nat} (hb : b ≤ 1) (hx : x < W) (hy : y < W) : (x + W - y - b) % W + y + b = x + (if x < y + b then 1 else 0) * W ∧ (x + W - y - b) % W < W:=by
 refine ⟨?_,Nat.mod_lt _ (by omega)⟩
 split
 ·rename_i h
  rw [Nat.mod_eq_of_lt (by omega)];omega
 ·rename_i h
  rw [show x + W - y - b = x - y - b + W by omega,Nat.add_mod_right,Nat.mod_eq_of_lt (by omega)]
  omega
def DvM (W j g : Nat) (vs us : List Nat) (i cy br : Nat) (zs : List Nat) : Prop :=
 zs.length = us.length ∧ Dig W zs ∧ (∀ t,j + i ≤ t → dg zs t = dg us t) ∧ val W zs + g * val W (vs.take i) * W ^ j = val W us + (cy + br) * W ^ (j + i) ∧ cy < W ∧ br ≤ 1
theorem DvM.start {W j g : Nat} {vs us : List Nat} (hW : 0 < W) (hd : Dig W us) : DvM W j g vs us 0 0 0 us :=
 ⟨rfl,hd,fun _ _=>rfl,by simp [val],hW,by omega⟩
theorem A9Z {W g x cy : Nat} (hW : 0 < W) (hg : g < W) (hx : x < W) (hc : cy < W) :
  g * x / W + (g * x % W + cy) / W < W ∧ (g * x / W + (g * x % W + cy) / W) * W + (g * x % W + cy) % W = g * x + cy:=by
 have e1:=Nat.div_add_mod (g * x) W
 have e2:=Nat.div_add_mod (g * x % W + cy) W
 have e3 : (g * x / W + (g * x % W + cy) / W) * W + (g * x % W + cy) % W = g * x + cy:=by
  rw [Nat.add_mul,Nat.mul_comm (g * x / W),Nat.mul_comm ((g * x % W + cy) / W)]
  omega
 refine ⟨?_,e3⟩
 have h1 : g * x ≤ (W - 1) * (W - 1):=Nat.mul_le_mul (by omega) (by omega)
 obtain ⟨k,rfl⟩ : ∃ k,W = k + 1:=⟨W - 1,by omega⟩
 rw [Nat.add_sub_cancel] at h1
 have h2 : g * x + cy < (k + 1) * (k + 1):=by
  have : (k + 1) * (k + 1) = k * k + k + k + 1:=by grind
  omega
 rw [← e3] at h2
 exact Nat.lt_of_mul_lt_mul_right (show (g * x / (k + 1) + (g * x % (k + 1) + cy) / (k + 1)) * (k + 1) < (k + 1) * (k + 1) by omega)
theorem DvM.next {W j g : Nat} {vs us : List Nat} {i cy br : Nat} {zs : List Nat} (h : DvM W j g vs us i cy br zs) (hW : 0 < W) (hg : g < W) (hv : Dig W vs) (hu : Dig W us) (hi : j + i < us.length) :
  DvM W j g vs us (i + 1) (g * dg vs i / W + (g * dg vs i % W + cy) / W) (if dg us (j + i) < (g * dg vs i % W + cy) % W + br then 1 else 0) (zs.set (j + i) ((dg us (j + i) + W - (g * dg vs i % W + cy) % W - br) % W)):=by
 obtain ⟨h1,h2,h3,h4,h5,h6⟩:=h
 have hx:=B9 hW hv i
 have hux:=B9 hW hu (j + i)
 obtain ⟨a1,a2⟩:=A9Z hW hg hx h5
 obtain ⟨b1,b2⟩:=A71 (W:=W) (x:=dg us (j + i)) (y:=(g * dg vs i % W + cy) % W) h6 hux (Nat.mod_lt _ hW)
 obtain ⟨s,hs⟩ : ∃ s,s = (g * dg vs i % W + cy) % W:=⟨_,rfl⟩
 obtain ⟨c,hc⟩ : ∃ s,s = g * dg vs i / W + (g * dg vs i % W + cy) / W:=⟨_,rfl⟩
 rw [← hs,← hc] at a2
 rw [← hc] at a1
 rw [← hs] at b1 b2
 rw [← hs,← hc]
 obtain ⟨z,hz⟩ : ∃ z,z = (dg us (j + i) + W - s - br) % W:=⟨_,rfl⟩
 obtain ⟨e,he⟩ : ∃ e,e = (if dg us (j + i) < s + br then 1 else 0):=⟨_,rfl⟩
 rw [← hz,← he] at b1
 rw [← hz] at b2
 rw [← hz,← he]
 have e1:=S3 W zs (j + i) z (by omega)
 rw [h3 (j + i) (Nat.le_refl _)] at e1
 refine ⟨by simp [h1],M3 h2 _ b2,fun t ht=>by rw [L9 _ _ (by omega)];exact h3 t (by omega),?_,a1,by rw [he];split <;> omega⟩
 rw [I7]
 have e2 : val W (zs.set (j + i) z) + g * (val W (vs.take i) + W ^ i * dg vs i) * W ^ j + W ^ (j + i) * dg us (j + i) = val W us + (c + e) * W ^ (j + (i + 1)) + W ^ (j + i) * dg us (j + i):=by
  calc val W (zs.set (j + i) z) + g * (val W (vs.take i) + W ^ i * dg vs i) * W ^ j + W ^ (j + i) * dg us (j + i)
    = (val W (zs.set (j + i) z) + W ^ (j + i) * dg us (j + i)) + g * val W (vs.take i) * W ^ j + W ^ (j + i) * (g * dg vs i):=by rw [Nat.pow_add];grind
   _ = (val W zs + W ^ (j + i) * z) + g * val W (vs.take i) * W ^ j + W ^ (j + i) * (g * dg vs i):=by rw [e1]
   _ = (val W zs + g * val W (vs.take i) * W ^ j) + W ^ (j + i) * (z + g * dg vs i):=by grind
   _ = val W us + W ^ (j + i) * (z + (g * dg vs i + cy) + br):=by rw [h4];grind
   _ = val W us + W ^ (j + i) * ((z + s + br) + c * W):=by rw [← a2];grind
   _ = val W us + W ^ (j + i) * ((dg us (j + i) + e * W) + c * W):=by rw [b1]
   _ = val W us + (c + e) * W ^ (j + (i + 1)) + W ^ (j + i) * dg us (j + i):=by rw [← Nat.add_assoc,Nat.pow_succ];grind
 omega
theorem DvM.last {W j g n : Nat} {vs us : List Nat} {cy br : Nat} {zs : List Nat} (h : DvM W j g vs us n cy br zs) (hW : 0 < W) (hu : Dig W us) (hi : j + n < us.length) (hvn : val W (vs.take n) = val W vs) :
  (zs.set (j + n) ((dg us (j + n) + W - cy - br) % W)).length = us.length ∧ Dig W (zs.set (j + n) ((dg us (j + n) + W - cy - br) % W)) ∧ (∀ t,j + n + 1 ≤ t → dg (zs.set (j + n) ((dg us (j + n) + W - cy - br) % W)) t = dg us t) ∧
  val W (zs.set (j + n) ((dg us (j + n) + W - cy - br) % W)) + g * val W vs * W ^ j = val W us + (if dg us (j + n) < cy + br then 1 else 0) * W ^ (j + n + 1):=by
 obtain ⟨h1,h2,h3,h4,h5,h6⟩:=h
 rw [hvn] at h4
 have hux:=B9 hW hu (j + n)
 obtain ⟨b1,b2⟩:=A71 (W:=W) (x:=dg us (j + n)) (y:=cy) h6 hux h5
 obtain ⟨z,hz⟩ : ∃ s,s = (dg us (j + n) + W - cy - br) % W:=⟨_,rfl⟩
 obtain ⟨e,he⟩ : ∃ e,e = (if dg us (j + n) < cy + br then 1 else 0):=⟨_,rfl⟩
 rw [← hz,← he] at b1
 rw [← hz] at b2
 rw [← hz,← he]
 have e1:=S3 W zs (j + n) z (by omega)
 rw [h3 (j + n) (Nat.le_refl _)] at e1
 refine ⟨by simp [h1],M3 h2 _ b2,fun t ht=>by rw [L9 _ _ (by omega)];exact h3 t (by omega),?_⟩
 have e2 : val W (zs.set (j + n) z) + g * val W vs * W ^ j + W ^ (j + n) * dg us (j + n) = val W us + e * W ^ (j + n + 1) + W ^ (j + n) * dg us (j + n):=by
  calc val W (zs.set (j + n) z) + g * val W vs * W ^ j + W ^ (j + n) * dg us (j + n)
    = (val W zs + g * val W vs * W ^ j) + W ^ (j + n) * z:=by grind
   _ = val W us + W ^ (j + n) * (z + cy + br):=by rw [h4];grind
   _ = val W us + W ^ (j + n) * (dg us (j + n) + e * W):=by rw [b1]
   _ = val W us + e * W ^ (j + n + 1) + W ^ (j + n) * dg us (j + n):=by rw [Nat.pow_succ];grind
 omega
def DvA (W j : Nat) (vs us : List Nat) (i c : Nat) (zs : List Nat) : Prop :=
 zs.length = us.length ∧ Dig W zs ∧ (∀ t,j + i ≤ t → dg zs t = dg us t) ∧ val W zs + c * W ^ (j + i) = val W us + val W (vs.take i) * W ^ j ∧ c ≤ 1
theorem DvA.start {W j : Nat} {vs us : List Nat} (hd : Dig W us) : DvA W j vs us 0 0 us:=⟨rfl,hd,fun _ _=>rfl,by simp [val],by omega⟩
theorem DvA.next {W j : Nat} {vs us : List Nat} {i c : Nat} {zs : List Nat} (h : DvA W j vs us i c zs) (hW : 0 < W) (hv : Dig W vs) (hu : Dig W us) (hi : j + i < us.length) :
  DvA W j vs us (i + 1) ((dg us (j + i) + dg vs i + c) / W) (zs.set (j + i) ((dg us (j + i) + dg vs i + c) % W)):=by
 obtain ⟨h1,h2,h3,h4,h5⟩:=h
 have hx:=B9 hW hv i
 have hux:=B9 hW hu (j + i)
 have b1:=Nat.div_add_mod (dg us (j + i) + dg vs i + c) W
 obtain ⟨z,hz⟩ : ∃ s,s = (dg us (j + i) + dg vs i + c) % W:=⟨_,rfl⟩
 obtain ⟨e,he⟩ : ∃ e,e = (dg us (j + i) + dg vs i + c) / W:=⟨_,rfl⟩
 rw [← hz,← he] at b1
 rw [← hz,← he]
 have e1:=S3 W zs (j + i) z (by omega)
 rw [h3 (j + i) (Nat.le_refl _)] at e1
 have hzW : z < W:=by rw [hz];exact Nat.mod_lt _ hW
 have he1 : e ≤ 1:=by
  have : e < 2:=by rw [he,Nat.div_lt_iff_lt_mul hW];omega
  omega
 refine ⟨by simp [h1],M3 h2 _ hzW,fun t ht=>by rw [L9 _ _ (by omega)];exact h3 t (by omega),?_,he1⟩
 rw [I7]
 have e2 : val W (zs.set (j + i) z) + e * W ^ (j + (i + 1)) + W ^ (j + i) * dg us (j + i) = val W us + (val W (vs.take i) + W ^ i * dg vs i) * W ^ j + W ^ (j + i) * dg us (j + i):=by
  calc val W (zs.set (j + i) z) + e * W ^ (j + (i + 1)) + W ^ (j + i) * dg us (j + i)
    = val W zs + W ^ (j + i) * (W * e + z):=by rw [← Nat.add_assoc j i 1,Nat.pow_succ];grind
   _ = val W zs + c * W ^ (j + i) + W ^ (j + i) * (dg us (j + i) + dg vs i):=by rw [b1];grind
   _ = val W us + val W (vs.take i) * W ^ j + W ^ (j + i) * (dg us (j + i) + dg vs i):=by rw [h4]
   _ = val W us + (val W (vs.take i) + W ^ i * dg vs i) * W ^ j + W ^ (j + i) * dg us (j + i):=by rw [Nat.pow_add];grind
 omega
def DvI (W V X k : Nat) (us qs : List Nat) : Prop:=Dig W us ∧ Dig W qs ∧ val W us + V * val W qs = X ∧ val W us < V * W ^ k ∧ ∀ t,t < k → dg qs t = 0
theorem DvI.fit {W V X j g : Nat} {us qs zs : List Nat} (h : DvI W V X (j + 1) us qs) (hW : 0 < W) (hV : 0 < V) (hg : g < W) (hj : j < qs.length) (hcase : g = val W us / W ^ j / V ∨ (g = val W us / W ^ j / V + 1 ∧ val W us / W ^ j < g * V))
  (hz : Dig W zs) (hv : val W zs + g * V * W ^ j = val W us) : DvI W V X j zs (qs.set j g):=by
 obtain ⟨h1,h2,h3,h4,h5⟩:=h
 have hp : 0 < W ^ j:=Nat.pow_pos hW
 have hq:=S3 W qs j g hj
 rw [h5 j (by omega),Nat.mul_zero,Nat.add_zero] at hq
 have hle : g * V ≤ val W us / W ^ j:=(Nat.le_div_iff_mul_le hp).2 (by omega)
 have hge : g = val W us / W ^ j / V:=by
  rcases hcase with h | h
  ·exact h
  ·omega
 refine ⟨hz,M3 h2 _ hg,?_,?_,fun t ht=>by rw [L9 _ _ (by omega)];exact h5 t (by omega)⟩
 ·rw [hq,Nat.mul_add,← h3,← hv]
  grind
 ·have h6 : val W us / W ^ j < (g + 1) * V:=by
   rw [hge]
   have := Nat.lt_mul_div_succ (val W us / W ^ j) hV
   rw [Nat.mul_comm] at this
   exact this
  rw [Nat.div_lt_iff_lt_mul hp,Nat.add_mul g,Nat.one_mul,Nat.add_mul] at h6
  omega
theorem DvI.back {W V X j n g e : Nat} {us qs ys zs : List Nat} (h : DvI W V X (j + 1) us qs) (hW : 0 < W) (hV : 0 < V) (hg : g < W) (hj : j < qs.length) (hcase : g = val W us / W ^ j / V ∨ (g = val W us / W ^ j / V + 1 ∧ val W us / W ^ j < g * V))
  (hVM : V * W ^ j ≤ W ^ (j + n + 1)) (hy : val W ys < W ^ (j + n + 1)) (hv : val W ys + g * V * W ^ j = val W us + 1 * W ^ (j + n + 1)) (hz : Dig W zs) (hzl : val W zs < W ^ (j + n + 1)) (he : val W zs + e * W ^ (j + n + 1) = val W ys + V * W ^ j) : 0 < g ∧ DvI W V X j zs (qs.set j (g - 1)):=by
 have hp : 0 < W ^ j:=Nat.pow_pos hW
 generalize W ^ (j + n + 1) = M at hy hv hzl he hVM
 rw [Nat.one_mul] at hv
 have hgt : val W us < g * V * W ^ j:=by omega
 have hg1 : g = val W us / W ^ j / V + 1:=by
  rcases hcase with h' | h'
  ·exfalso
   have h6 : g * V ≤ val W us / W ^ j:=by rw [h'];exact Nat.div_mul_le_self _ _
   have h7:=(Nat.le_div_iff_mul_le hp).1 h6
   omega
  ·exact h'.1
 have hg0 : 0 < g:=by rw [hg1];exact Nat.succ_pos _
 obtain ⟨q,rfl⟩ : ∃ q,g = q + 1:=⟨g - 1,by omega⟩
 refine ⟨hg0,?_⟩
 rw [Nat.add_sub_cancel]
 refine h.fit hW hV (by omega) hj (.inl (Nat.succ.inj hg1)) hz ?_
 rw [Nat.add_mul q 1,Nat.one_mul,Nat.add_mul] at hv
 have hq : q * V * W ^ j ≤ val W us:=by
  have h6 : q * V ≤ val W us / W ^ j:=by rw [show q = val W us / W ^ j / V from Nat.succ.inj hg1];exact Nat.div_mul_le_self _ _
  exact (Nat.le_div_iff_mul_le hp).1 h6
 have he1 : e = 1:=by
  have h8 : val W ys + V * W ^ j < 2 * M:=by
   have : val W us < q * V * W ^ j + V * W ^ j:=by rw [Nat.add_mul q 1,Nat.one_mul,Nat.add_mul] at hgt;exact hgt
   omega
  have h9 : M ≤ val W ys + V * W ^ j:=by omega
  rcases Nat.lt_or_ge e 1 with h0 | h0
  ·have : e = 0:=by omega
   rw [this,Nat.zero_mul] at he
   omega
  ·rcases Nat.lt_or_ge e 2 with h2 | h2
   ·omega
   ·have : 2 * M ≤ e * M:=Nat.mul_le_mul_right _ h2
    omega
 rw [he1,Nat.one_mul] at he
 omega
theorem DvI.done {W V X : Nat} {us qs : List Nat} (h : DvI W V X 0 us qs) (hV : 0 < V) : val W qs = X / V ∧ val W us = X % V:=by
 obtain ⟨h1,h2,h3,h4,h5⟩:=h
 rw [Nat.pow_zero,Nat.mul_one] at h4
 rw [← h3,Nat.add_mul_div_left _ _ hV,Nat.div_eq_of_lt h4,Nat.zero_add,Nat.add_mul_mod_self_left,Nat.mod_eq_of_lt h4]
 exact ⟨rfl,rfl⟩
end Go.Proofs.YtlkniebmjdoopaaGreatDoor
