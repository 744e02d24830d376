/- Contracts and laws. -/
set_option linter.unusedSimpArgs false
set_option linter.unusedVariables false
namespace Go.Proofs.YtlkniebmjdoopaaGreatDoor
def val (B : Nat) : List Nat → Nat
 | []=>0
 | x :: l=>x + B * val B l
theorem A5s (B : Nat) : val B [] = 0:=rfl
theorem K3 (B x : Nat) (l : List Nat) : val B (x :: l) = x + B * val B l:=rfl
theorem S7 (B : Nat) (l m : List Nat) : val B (l ++ m) = val B l + B ^ l.length * val B m:=by
 induction l with
 | nil=>simp [val]
 | cons x l ih=>simp [val,ih,Nat.pow_succ];grind
theorem W9 (B : Nat) (l : List Nat) (x : Nat) : val B (l ++ [x]) = val B l + B ^ l.length * x:=by
 rw [S7];simp [val]
theorem B4v (B : Nat) (l : List Nat) (i : Nat) (h : i < l.length) : val B (l.take (i + 1)) = val B (l.take i) + B ^ i * l[i]:=by
 rw [List.take_succ_eq_append_getElem h,W9,List.length_take,Nat.min_eq_left (by omega)]
theorem U6 (B : Nat) (l : List Nat) (i : Nat) (h : l.length ≤ i) : val B (l.take i) = val B l:=by
 rw [List.take_of_length_le h]
def Dig (B : Nat) (l : List Nat) : Prop:=∀ x ∈ l,x < B
theorem H5 {B : Nat} {l : List Nat} (h : Dig B l) : val B l < B ^ l.length:=by
 induction l with
 | nil=>simp [val]
 | cons x l ih =>
  have hx : x < B:=h x (by simp)
  have hl:=ih (fun y hy=>h y (by simp [hy]))
  simp only [val,List.length_cons,Nat.pow_succ]
  have : B * (val B l + 1) ≤ B * B ^ l.length:=Nat.mul_le_mul_left _ hl
  grind
theorem A0c (B n : Nat) : val B (List.replicate n 0) = 0:=by
 induction n with
 | zero=>rfl
 | succ n ih=>simp [List.replicate_succ,val,ih]
def Q3 (l : List Nat) : Prop:=l = [] ∨ l.getLast? ≠ some 0
def A0r (B : Nat) : Nat → Nat → List Nat
 | 0,_=>[]
 | f + 1,a=>if a = 0 then [] else a % B :: A0r B f (a / B)
def A7 (B a : Nat) : List Nat:=A0r B a a
theorem A6c {B : Nat} (hB : 2 ≤ B) : ∀ (f a : Nat),a ≤ f → A0r B f a = if a = 0 then [] else a % B :: A0r B (a / B) (a / B)
 | 0,a,h=>by simp [A0r];omega
 | f + 1,a,h=>by
  by_cases ha : a = 0
  ·simp [A0r,ha]
  ·have hlt : a / B < a:=Nat.div_lt_self (by omega) (by omega)
   simp only [A0r,ha,if_false,List.cons.injEq,true_and]
   rw [A6c hB f (a / B) (by omega),A6c hB (a / B) (a / B) (Nat.le_refl _)]
theorem A1x (B : Nat) : A7 B 0 = []:=rfl
theorem A0H {B a : Nat} (hB : 2 ≤ B) (ha : a ≠ 0) : A7 B a = a % B :: A7 B (a / B):=by
 unfold A7;rw [A6c hB a a (Nat.le_refl _),if_neg ha]
theorem D5 {B : Nat} (hB : 2 ≤ B) (a : Nat) : val B (A7 B a) = a:=by
 induction a using Nat.strongRecOn with
 | ind a ih =>
  by_cases ha : a = 0
  ·subst ha;rfl
  ·rw [A0H hB ha,val,ih _ (Nat.div_lt_self (by omega) (by omega)),Nat.mod_add_div]
theorem F2 {B : Nat} (hB : 2 ≤ B) (a : Nat) : Dig B (A7 B a):=by
 induction a using Nat.strongRecOn with
 | ind a ih =>
  by_cases ha : a = 0
  ·subst ha;intro x hx;simp [A1x] at hx
  ·rw [A0H hB ha]
   intro x hx
   rcases List.mem_cons.1 hx with rfl | hx
   ·exact Nat.mod_lt _ (by omega)
   ·exact ih _ (Nat.div_lt_self (by omega) (by omega)) x hx
theorem A3T {B : Nat} (hB : 2 ≤ B) : ∀ (l : List Nat),Dig B l → Q3 l → A7 B (val B l) = l
 | [],_,_=>rfl
 | x :: l,hd,ht=>by
  have hx : x < B:=hd x (by simp)
  have hl : Dig B l:=fun y hy=>hd y (by simp [hy])
  have htl : Q3 l:=by
   rcases l with _ | ⟨y,l⟩
   ·exact .inl rfl
   ·rcases ht with h | h
    ·cases h
    ·exact .inr (by simpa [List.getLast?_cons_cons] using h)
  have hne : val B (x :: l) ≠ 0:=by
   intro h0
   simp only [val] at h0
   have hx0 : x = 0:=by omega
   have hv0 : val B l = 0:=by
    have : B * val B l = 0:=by omega
    rcases Nat.mul_eq_zero.1 this with h | h
    ·omega
    ·exact h
   have := A3T hB l hl htl
   rw [hv0,A1x] at this
   subst this;subst hx0
   rcases ht with h | h
   ·cases h
   ·simp at h
  rw [A0H hB hne]
  have e1 : val B (x :: l) % B = x:=by simp only [val];rw [Nat.add_mul_mod_self_left,Nat.mod_eq_of_lt hx]
  have e2 : val B (x :: l) / B = val B l:=by simp only [val];rw [Nat.add_mul_div_left _ _ (by omega),Nat.div_eq_of_lt hx,Nat.zero_add]
  rw [e1,e2,A3T hB l hl htl]
theorem A1A {B : Nat} (hB : 2 ≤ B) (a : Nat) : Q3 (A7 B a):=by
 induction a using Nat.strongRecOn with
 | ind a ih =>
  by_cases ha : a = 0
  ·subst ha;exact .inl rfl
  ·have h:=ih _ (Nat.div_lt_self (Nat.pos_of_ne_zero ha) hB)
   rw [A0H hB ha]
   by_cases hq : a / B = 0
   ·rw [hq,A1x]
    refine .inr ?_
    simp only [List.getLast?_singleton,ne_eq,Option.some.injEq]
    have := Nat.mod_add_div a B
    rw [hq] at this
    omega
   ·rw [A0H hB hq] at h ⊢
    rcases h with h | h
    ·cases h
    ·exact .inr (by simpa [List.getLast?_cons_cons] using h)
theorem A4W {B : Nat} {l : List Nat} (hd : Dig B l) : Q3 l ↔ (l = [] ∨ B ^ (l.length - 1) ≤ val B l):=by
 constructor
 ·intro ht
  rcases List.eq_nil_or_concat l with rfl | ⟨m,x,rfl⟩
  ·exact .inl rfl
  ·refine .inr ?_
   rcases ht with h | h
   ·simp at h
   ·simp at h
    simp [W9]
    have : B ^ m.length * 1 ≤ B ^ m.length * x:=Nat.mul_le_mul_left _ (by omega)
    omega
 ·intro h
  rcases List.eq_nil_or_concat l with rfl | ⟨m,x,rfl⟩
  ·exact .inl rfl
  ·refine .inr ?_
   rcases h with h | h
   ·simp at h
   ·simp [W9] at h ⊢
    rintro rfl
    have := H5 (l:=m) (fun y hy=>hd y (by simp [hy]))
    simp at h
    omega
theorem A3A {B a n : Nat} (hB : 2 ≤ B) (h : a < B ^ n) : (A7 B a).length ≤ n:=by
 by_cases h0 : a = 0
 ·subst h0;simp [A1x]
 ·have ht:=(A4W (F2 hB a)).1 (A1A hB a)
  rw [D5 hB] at ht
  rcases ht with ht | ht
  ·rw [ht];simp
  ·have hlt : B ^ ((A7 B a).length - 1) < B ^ n:=Nat.lt_of_le_of_lt ht h
   have := (Nat.pow_lt_pow_iff_right (by omega)).1 hlt
   omega
theorem A4N {B a n : Nat} (hB : 2 ≤ B) (h : B ^ n ≤ a) : n < (A7 B a).length:=by
 have hv:=H5 (F2 hB a)
 rw [D5 hB] at hv
 exact (Nat.pow_lt_pow_iff_right (a:=B) (by omega)).1 (Nat.lt_of_le_of_lt h hv)
theorem B6Y {B a b : Nat} (hB : 2 ≤ B) (h : A7 B a = A7 B b) : a = b:=by
 rw [← D5 hB a,h,D5 hB]
theorem B0x {V2 U3 p vl ul g B : Nat} (_hp : 0 < p) (_hvl : vl < p) (_hul : ul < p) (hV2 : B ≤ V2) (hg : g < B) (hle : g * V2 ≤ U3) :
  g * (V2 * p + vl) < (U3 * p + ul) + (V2 * p + vl):=by
 have h1 : g * V2 * p ≤ U3 * p:=Nat.mul_le_mul_right _ hle
 have h2 : g * vl ≤ g * p:=Nat.mul_le_mul_left _ (by omega)
 have h3 : (g + 1) * p ≤ V2 * p:=Nat.mul_le_mul_right _ (by omega)
 have e : g * (V2 * p + vl) = g * V2 * p + g * vl:=by grind
 have e3 : (g + 1) * p = g * p + p:=by grind
 omega
theorem B5x {V2 U3 p vl ul q : Nat} (_hul : ul < p) (hq : q * (V2 * p + vl) ≤ U3 * p + ul) : q * V2 ≤ U3:=by
 have h : q * V2 * p < (U3 + 1) * p:=by
  have e : q * (V2 * p + vl) = q * V2 * p + q * vl:=by grind
  have e3 : (U3 + 1) * p = U3 * p + p:=by grind
  omega
 have := Nat.lt_of_mul_lt_mul_right h
 omega
theorem B3X {U V g : Nat} (hV : 0 < V) (hlo : U / V ≤ g) (hhi : g * V < U + V) : g = U / V ∨ (g = U / V + 1 ∧ U < g * V):=by
 have h1 : U / V * V ≤ U:=Nat.div_mul_le_self _ _
 have h2 : U < (U / V + 1) * V:=by have := Nat.lt_div_mul_add hV (a:=U);rw [Nat.add_mul];omega
 rcases Nat.lt_or_ge (U / V) g with h | h
 ·right
  have : g < U / V + 2:=by
   have : g * V < (U / V + 2) * V:=by
    have e : (U / V + 2) * V = (U / V + 1) * V + V:=by grind
    omega
   exact Nat.lt_of_mul_lt_mul_right this
  have e : g = U / V + 1:=by omega
  exact ⟨e,by rw [e];exact h2⟩
 ·left;omega
def dg (l : List Nat) (k : Nat) : Nat:=(l[k]?).getD 0
theorem B9 {B : Nat} {l : List Nat} (hB : 0 < B) (h : Dig B l) (k : Nat) : dg l k < B:=by
 unfold dg
 cases hk : l[k]? with
 | none=>exact hB
 | some x=>exact h x (List.mem_of_getElem? hk)
theorem D3 {l : List Nat} {k : Nat} (h : k < l.length) : dg l k = l[k]:=by
 unfold dg;rw [List.getElem?_eq_getElem h];rfl
theorem X1 {l : List Nat} {k : Nat} (h : l.length ≤ k) : dg l k = 0:=by
 unfold dg;rw [List.getElem?_eq_none h];rfl
theorem I7 (B : Nat) (l : List Nat) (k : Nat) : val B (l.take (k + 1)) = val B (l.take k) + B ^ k * dg l k:=by
 rcases Nat.lt_or_ge k l.length with h | h
 ·rw [B4v B l k h,D3 h]
 ·rw [U6 B l _ (by omega),U6 B l _ h,X1 h];simp
theorem A6I (B p s : Nat) : p * (s % B) + s / B * (p * B) = p * s:=by
 have h:=Nat.mod_add_div s B
 calc p * (s % B) + s / B * (p * B) = p * (s % B + B * (s / B)):=by grind
  _ = p * s:=by rw [h]
theorem A9w {B : Nat} {zs lx ly : List Nat} {k cy : Nat} (hz : zs.length = k) (h : val B zs + cy * B ^ k = val B (lx.take k) + val B (ly.take k)) :
  val B (zs ++ [(dg lx k + dg ly k + cy) % B]) + (dg lx k + dg ly k + cy) / B * B ^ (k + 1) = val B (lx.take (k + 1)) + val B (ly.take (k + 1)):=by
 have h1:=A6I B (B ^ k) (dg lx k + dg ly k + cy)
 rw [W9,hz,I7,I7,Nat.pow_succ]
 have h2 : B ^ k * (dg lx k + dg ly k + cy) = B ^ k * dg lx k + B ^ k * dg ly k + cy * B ^ k:=by grind
 omega
theorem A53 {B : Nat} {zs lx ly : List Nat} {k br : Nat} (hbr : br ≤ 1) (hx : dg lx k < B) (hy : dg ly k < B) (hz : zs.length = k) (h : val B zs + val B (ly.take k) = val B (lx.take k) + br * B ^ k) :
  val B (zs ++ [(dg lx k + B - dg ly k - br) % B]) + val B (ly.take (k + 1)) = val B (lx.take (k + 1)) + (if dg lx k < dg ly k + br then 1 else 0) * B ^ (k + 1):=by
 rw [W9,hz,I7,I7,Nat.pow_succ]
 split
 ·rename_i hlt
  rw [Nat.mod_eq_of_lt (by omega)]
  obtain ⟨d,hd⟩ : ∃ d,d = dg lx k + B - dg ly k - br:=⟨_,rfl⟩
  rw [← hd]
  have h3 : d + dg ly k + br = dg lx k + B:=by omega
  have h2 : B ^ k * d + B ^ k * dg ly k + br * B ^ k = B ^ k * dg lx k + B ^ k * B:=by
   calc B ^ k * d + B ^ k * dg ly k + br * B ^ k = B ^ k * (d + dg ly k + br):=by grind
    _ = B ^ k * (dg lx k + B):=by rw [h3]
    _ = _:=by grind
  omega
 ·rename_i hge
  have e : (dg lx k + B - dg ly k - br) % B = dg lx k - dg ly k - br:=by
   rw [show dg lx k + B - dg ly k - br = (dg lx k - dg ly k - br) + B by omega,Nat.add_mod_right,Nat.mod_eq_of_lt (by omega)]
  rw [e]
  obtain ⟨d,hd⟩ : ∃ d,d = dg lx k - dg ly k - br:=⟨_,rfl⟩
  rw [← hd]
  have h3 : d + dg ly k + br = dg lx k:=by omega
  have h2 : B ^ k * d + B ^ k * dg ly k + br * B ^ k = B ^ k * dg lx k:=by
   calc B ^ k * d + B ^ k * dg ly k + br * B ^ k = B ^ k * (d + dg ly k + br):=by grind
    _ = _:=by rw [h3]
  omega
theorem A1n {B : Nat} {la lb : List Nat} {k : Nat} (ha : Dig B la) (hl : la.length = lb.length) (hk : k < la.length) (hd : la.drop (k + 1) = lb.drop (k + 1)) (h : dg la k < dg lb k) : val B la < val B lb:=by
 have e1 : la = la.take k ++ (dg la k :: la.drop (k + 1)):=by
  rw [D3 hk,← List.drop_eq_getElem_cons hk,List.take_append_drop]
 have e2 : lb = lb.take k ++ (dg lb k :: lb.drop (k + 1)):=by
  rw [D3 (by omega),← List.drop_eq_getElem_cons (by omega),List.take_append_drop]
 have l1 : (la.take k).length = k:=by rw [List.length_take];omega
 have l2 : (lb.take k).length = k:=by rw [List.length_take];omega
 have h1 : val B (la.take k) < B ^ k:=by
  have := H5 (B:=B) (l:=la.take k) (fun x hx=>ha x (List.mem_of_mem_take hx))
  rw [l1] at this
  exact this
 rw [e1,e2,S7,S7,l1,l2,K3,K3,hd]
 have h2 : B ^ k * (dg la k + 1) ≤ B ^ k * dg lb k:=Nat.mul_le_mul_left _ h
 rw [Nat.mul_add,Nat.mul_add]
 rw [Nat.mul_add,Nat.mul_one] at h2
 omega
def E6 (a b : Nat) : Int:=if a < b then -1 else if b < a then 1 else 0
theorem O6 {a b : Nat} (h : a < b) : E6 a b = -1:=if_pos h
theorem W6 {a b : Nat} (h : b < a) : E6 a b = 1:=by unfold E6;rw [if_neg (by omega),if_pos h]
theorem A0v {a b : Nat} (h : a = b) : E6 a b = 0:=by unfold E6;rw [if_neg (by omega),if_neg (by omega)]
theorem S3 (B : Nat) : ∀ (l : List Nat) (k y : Nat),k < l.length → val B (l.set k y) + B ^ k * dg l k = val B l + B ^ k * y
 | [],k,_,h=>by simp at h
 | x :: l,0,y,_=>by simp [val,dg];omega
 | x :: l,k + 1,y,h=>by
  have ih:=S3 B l k y (by simpa using h)
  have e : dg (x :: l) (k + 1) = dg l k:=by simp [dg]
  rw [List.set_cons_succ,K3,K3,e,Nat.pow_succ]
  have h1 : B * (val B (l.set k y) + B ^ k * dg l k) = B * (val B l + B ^ k * y):=by rw [ih]
  grind
theorem M3 {B : Nat} {l : List Nat} (h : Dig B l) (k : Nat) {y : Nat} (hy : y < B) : Dig B (l.set k y):=fun x hx=>by
 rcases List.mem_or_eq_of_mem_set hx with h1 | h1
 ·exact h x h1
 ·rw [h1];exact hy
theorem L9 (l : List Nat) {k j : Nat} (y : Nat) (h : k ≠ j) : dg (l.set k y) j = dg l j:=by
 unfold dg;rw [List.getElem?_set_ne h]
theorem A50 {B x y d c : Nat} (hx : x < B) (hy : y < B) (hd : d < B) (hc : c < B) :
  ((x * y % B + d) % B + c) % B = (x * y + d + c) % B ∧ x * y / B + (x * y % B + d) / B + ((x * y % B + d) % B + c) / B = (x * y + d + c) / B ∧ (x * y + d + c) / B < B:=by
 have hB : 0 < B:=by omega
 have h1:=Nat.mod_add_div (x * y) B
 have h2:=Nat.mod_add_div (x * y % B + d) B
 have h3:=Nat.mod_add_div ((x * y % B + d) % B + c) B
 obtain ⟨r,hr⟩ : ∃ r,r = ((x * y % B + d) % B + c) % B:=⟨_,rfl⟩
 obtain ⟨q,hq⟩ : ∃ q,q = x * y / B + (x * y % B + d) / B + ((x * y % B + d) % B + c) / B:=⟨_,rfl⟩
 have hrB : r < B:=by rw [hr];exact Nat.mod_lt _ hB
 have ht : x * y + d + c = r + B * q:=by
  rw [hq,Nat.mul_add,Nat.mul_add]
  rw [← hr] at h3
  omega
 have hlt : x * y + d + c < B * B:=by
  have h5 : x * y ≤ (B - 1) * (B - 1):=Nat.mul_le_mul (by omega) (by omega)
  have h6 : (B - 1) * (B - 1) + 2 * (B - 1) + 1 = B * B:=by
   obtain ⟨m,rfl⟩ : ∃ m,B = m + 1:=⟨B - 1,by omega⟩
   simp only [Nat.add_sub_cancel]
   grind
  omega
 refine ⟨?_,?_,?_⟩
 ·rw [← hr,ht,Nat.add_mul_mod_self_left,Nat.mod_eq_of_lt hrB]
 ·rw [← hq,ht,Nat.add_mul_div_left _ _ hB,Nat.div_eq_of_lt hrB,Nat.zero_add]
 ·exact Nat.div_lt_of_lt_mul hlt
theorem A8a {B : Nat} {zs l2 : List Nat} {v0 m i j c : Nat} (hij : i + j < zs.length)
  (h : val B zs + c * B ^ (i + j) = v0 + B ^ i * (m * val B (l2.take j))) :
  val B (zs.set (i + j) ((m * dg l2 j + dg zs (i + j) + c) % B)) + (m * dg l2 j + dg zs (i + j) + c) / B * B ^ (i + j + 1) = v0 + B ^ i * (m * val B (l2.take (j + 1))):=by
 have h1:=S3 B zs (i + j) ((m * dg l2 j + dg zs (i + j) + c) % B) hij
 have h2:=A6I B (B ^ (i + j)) (m * dg l2 j + dg zs (i + j) + c)
 rw [I7,Nat.pow_succ]
 have h3 : B ^ (i + j) * (m * dg l2 j + dg zs (i + j) + c) = B ^ (i + j) * (m * dg l2 j) + B ^ (i + j) * dg zs (i + j) + c * B ^ (i + j):=by grind
 have h4 : B ^ i * (m * (val B (l2.take j) + B ^ j * dg l2 j)) = B ^ i * (m * val B (l2.take j)) + B ^ (i + j) * (m * dg l2 j):=by rw [Nat.pow_add];grind
 rw [h4]
 omega
def DG (b y1 y0 u n q r : Nat) : Prop:=q * y1 + r = u ∧ u * b + n < (q + 1) * (y1 * b + y0) ∧ r < b ∧ q ≤ b + 1
theorem DG.start {b y1 y0 u n : Nat} (hy1 : y1 < b) (hb : b ≤ 2 * y1) (hy0 : y0 < b) (hn : n < b) (hu : u < y1 * b + y0) : DG b y1 y0 u n (u / y1) (u % y1):=by
 have hp : 0 < y1:=by omega
 have h1:=Nat.div_add_mod u y1
 have h2:=Nat.mod_lt u hp
 rw [Nat.mul_comm] at h1
 refine ⟨h1,?_,by omega,?_⟩
 ·have h3 : u + 1 ≤ (u / y1 + 1) * y1:=by rw [Nat.add_mul];omega
  calc u * b + n < (u + 1) * b:=by rw [Nat.add_mul];omega
   _ ≤ (u / y1 + 1) * y1 * b:=Nat.mul_le_mul_right b h3
   _ ≤ (u / y1 + 1) * (y1 * b + y0):=by rw [Nat.mul_assoc];exact Nat.mul_le_mul_left _ (by omega)
 ·rcases Nat.lt_or_ge (b + 1) (u / y1) with h | h
  ·have h3 : (b + 2) * y1 ≤ u / y1 * y1:=Nat.mul_le_mul_right y1 h
   rw [Nat.add_mul,Nat.mul_comm b y1] at h3
   omega
  ·exact h
theorem DG.much {b y1 y0 u n q r : Nat} (h : DG b y1 y0 u n q r) (hn : n < b) (hu : u < y1 * b + y0) (hc : b ≤ q ∨ b * r + n < q * y0) : 0 < q ∧ u * b + n < q * (y1 * b + y0):=by
 obtain ⟨h1,h2,h3,h4⟩:=h
 rcases hc with hc | hc
 ·refine ⟨by omega,?_⟩
  calc u * b + n < (u + 1) * b:=by rw [Nat.add_mul];omega
   _ ≤ (y1 * b + y0) * b:=Nat.mul_le_mul_right b hu
   _ ≤ q * (y1 * b + y0):=by rw [Nat.mul_comm];exact Nat.mul_le_mul_right _ hc
 ·refine ⟨Nat.pos_of_ne_zero fun h0=>by rw [h0,Nat.zero_mul] at hc;omega,?_⟩
  rw [← h1,Nat.mul_add,← Nat.mul_assoc,Nat.add_mul,Nat.mul_comm r b]
  omega
theorem DG.next {b y1 y0 u n q r : Nat} (h : DG b y1 y0 u n q r) (hn : n < b) (hu : u < y1 * b + y0) (hc : b ≤ q ∨ b * r + n < q * y0) (hr : r + y1 < b) : DG b y1 y0 u n (q - 1) (r + y1):=by
 obtain ⟨hq,hlt⟩:=h.much hn hu hc
 obtain ⟨h1,h2,h3,h4⟩:=h
 obtain ⟨q',rfl⟩ : ∃ q',q = q' + 1:=⟨q - 1,by omega⟩
 refine ⟨?_,hlt,hr,by omega⟩
 rw [Nat.add_sub_cancel,← h1,Nat.add_mul];omega
theorem DG.stop {b y1 y0 u n q r : Nat} (h : DG b y1 y0 u n q r) (hc : q * y0 ≤ b * r + n) : (u * b + n) / (y1 * b + y0) = q:=by
 obtain ⟨h1,h2,h3,h4⟩:=h
 refine Nat.div_eq_of_lt_le ?_ h2
 rw [← h1,Nat.mul_add,← Nat.mul_assoc,Nat.add_mul,Nat.mul_comm r b]
 omega
theorem DG.broke {b y1 y0 u n q r : Nat} (h : DG b y1 y0 u n q r) (hn : n < b) (hy0 : y0 < b) (hu : u < y1 * b + y0) (hc : b ≤ q ∨ b * r + n < q * y0) (hr : b ≤ r + y1) : (u * b + n) / (y1 * b + y0) = q - 1:=by
 obtain ⟨hq,hlt⟩:=h.much hn hu hc
 obtain ⟨h1,h2,h3,h4⟩:=h
 obtain ⟨q',rfl⟩ : ∃ q',q = q' + 1:=⟨q - 1,by omega⟩
 rw [Nat.add_sub_cancel]
 refine Nat.div_eq_of_lt_le ?_ hlt
 have h5 : q' * y0 ≤ b * b:=Nat.mul_le_mul (by omega) (by omega)
 have h6 : b * b ≤ b * (r + y1):=Nat.mul_le_mul_left b hr
 have h7 : u = q' * y1 + (r + y1):=by rw [← h1,Nat.add_mul];omega
 rw [h7,Nat.mul_add,← Nat.mul_assoc,Nat.add_mul,Nat.mul_comm (r + y1) b]
 omega
theorem A3H (x W p : Nat) (_hp : 0 < p) (r : Nat) (hW : W = p * r) (_hr : 0 < r) : x * p / W = x / r ∧ x * p % W = x % r * p:=by
 subst hW
 rw [Nat.mul_comm x p,Nat.mul_div_mul_left _ _ _hp,Nat.mul_mod_mul_left,Nat.mul_comm p]
 exact ⟨rfl,rfl⟩
theorem A1z {a b s : Nat} (h : b < 2 ^ s) (ha : 2 ^ s ∣ a) : a ||| b = a + b:=by
 obtain ⟨k,rfl⟩:=ha
 exact (Nat.two_pow_add_eq_or_of_lt h k).symm
theorem A1T {a b s : Nat} (h : b < 2 ^ s) (ha : 2 ^ s ∣ a) : b ||| a = a + b:=by
 rw [Nat.or_comm];exact A1z h ha
theorem B2P {X p u n1 n0 y b : Nat} (hp : 0 < p) (hy : 0 < y) (h : X * p = (u * b + n1) * b + n0) :
  X / y = (u * b + n1) / (y * p) * b + ((u * b + n1) % (y * p) * b + n0) / (y * p) ∧ X % y = ((u * b + n1) % (y * p) * b + n0) % (y * p) / p:=by
 have hY : 0 < y * p:=Nat.mul_pos hy hp
 have e1:=Nat.div_add_mod (u * b + n1) (y * p)
 have e2:=Nat.div_add_mod ((u * b + n1) % (y * p) * b + n0) (y * p)
 have l2:=Nat.mod_lt ((u * b + n1) % (y * p) * b + n0) hY
 generalize (u * b + n1) / (y * p) = q1 at *
 generalize (u * b + n1) % (y * p) = u2 at *
 generalize (u2 * b + n0) / (y * p) = q2 at *
 generalize (u2 * b + n0) % (y * p) = r2 at *
 have e3 : X * p = (y * p) * (q1 * b + q2) + r2:=by rw [h,← e1];grind
 constructor
 ·rw [← Nat.mul_div_mul_right X y hp,e3,Nat.mul_add_div hY,Nat.div_eq_of_lt l2,Nat.add_zero]
 ·have e4 : X % y * p = r2:=by
   rw [← Nat.mul_mod_mul_right,e3,Nat.mul_add_mod,Nat.mod_eq_of_lt l2]
  rw [← e4,Nat.mul_div_cancel _ hp]
theorem A2z {u Y b n : Nat} (hu : u < Y) (hn : n < b) : (u * b + n) / Y < b:=by
 rw [Nat.div_lt_iff_lt_mul (by omega)]
 calc u * b + n < (u + 1) * b:=by rw [Nat.add_mul];omega
  _ ≤ Y * b:=Nat.mul_le_mul_right b hu
  _ = b * Y:=Nat.mul_comm _ _
end Go.Proofs.YtlkniebmjdoopaaGreatDoor
