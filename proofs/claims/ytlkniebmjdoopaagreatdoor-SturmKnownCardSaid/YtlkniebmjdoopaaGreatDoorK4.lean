/- Contracts and laws. -/
import Derived.Test.YtlkniebmjdoopaaGreatDoorK1
import Derived.Test.YtlkniebmjdoopaaGreatDoorK3
import Derived.Lib.Endian
import Derived.Lib.BitFns
import Derived.Lib.TrailingZeros
set_option linter.unusedSimpArgs false
set_option linter.unusedVariables false
namespace Go.Proofs.YtlkniebmjdoopaaGreatDoor
open Go
def W64 : Nat:=18446744073709551616
theorem C7 : 2 ≤ W64:=by unfold W64;omega
theorem B6 : 0 < W64:=by unfold W64;omega
theorem R5 : W64 = 2 ^ 64:=rfl
def bl (a : Nat) : Nat:=if a = 0 then 0 else a.log2 + 1
theorem Y9 : bl 0 = 0:=rfl
theorem J9 {a k : Nat} : bl a ≤ k ↔ a < 2 ^ k:=by
 unfold bl
 split
 ·rename_i h;subst h;simp [Nat.two_pow_pos]
 ·rename_i h;rw [Nat.add_one_le_iff,Nat.log2_lt h]
theorem Z6 {a k : Nat} : k < bl a ↔ 2 ^ k ≤ a:=by
 rw [← Nat.not_le,J9,Nat.not_lt]
theorem V7 (a : Nat) : a < 2 ^ bl a:=J9.1 (Nat.le_refl _)
theorem N8 {a b : Nat} (h : a ≤ b) : bl a ≤ bl b:=J9.2 (Nat.lt_of_le_of_lt h (V7 b))
theorem T0 {a : Nat} : bl a = 0 ↔ a = 0:=by
 rw [← Nat.le_zero,J9];simp
theorem P6 {a : Nat} : 0 < bl a ↔ a ≠ 0:=by
 have := @T0 a;omega
theorem A26 {a : Nat} : bl a = 1 ↔ a = 1:=by
 have h1:=@J9 a 1
 have h2:=@T0 a
 simp at h1
 omega
theorem B3g {a k : Nat} (h1 : 2 ^ k ≤ a) (h2 : a < 2 ^ (k + 1)) : bl a = k + 1:=by
 have := Z6.2 h1
 have := J9.2 h2
 omega
theorem A67 (a b : Nat) : bl (a + b) ≤ max (bl a) (bl b) + 1:=by
 rw [J9,Nat.pow_succ]
 have h1:=Nat.lt_of_lt_of_le (V7 a) (Nat.pow_le_pow_right (by omega) (Nat.le_max_left (bl a) (bl b)))
 have h2:=Nat.lt_of_lt_of_le (V7 b) (Nat.pow_le_pow_right (by omega) (Nat.le_max_right (bl a) (bl b)))
 omega
theorem P5 (a b : Nat) : bl (a * b) ≤ bl a + bl b:=by
 rw [J9,Nat.pow_add]
 rcases Nat.eq_zero_or_pos b with rfl | hb
 ·simp [Nat.two_pow_pos]
 ·exact Nat.lt_of_lt_of_le (Nat.mul_lt_mul_of_pos_right (V7 a) hb) (Nat.mul_le_mul_left _ (Nat.le_of_lt (V7 b)))
theorem M6 (a b : Nat) : bl (a / b) ≤ bl a:=N8 (Nat.div_le_self a b)
theorem A1r (a b : Nat) : bl (a % b) ≤ bl a:=N8 (Nat.mod_le a b)
theorem A8f (a b : Nat) : bl (a - b) ≤ bl a:=N8 (Nat.sub_le a b)
theorem B55 (a b : Nat) (ha : a ≠ 0) : bl (a.gcd b) ≤ bl a:=N8 (Nat.gcd_le_left b (by omega))
theorem A3G (a b : Nat) (hb : b ≠ 0) : bl (a.gcd b) ≤ bl b:=N8 (Nat.gcd_le_right a (by omega))
theorem A3q {x y k : Nat} (hx : x < 2 ^ k) (hy : y ≠ 0) : bl (x + 2 ^ k * y) = k + bl y:=by
 obtain ⟨m,hm⟩ : ∃ m,bl y = m + 1:=⟨bl y - 1,by have := P6.2 hy;omega⟩
 have h1 : 2 ^ m ≤ y:=Z6.1 (by omega)
 have h2 : y < 2 ^ (m + 1):=by rw [← hm];exact V7 y
 rw [hm,← Nat.add_assoc]
 refine B3g ?_ ?_
 ·rw [Nat.pow_add]
  have := Nat.mul_le_mul_left (2 ^ k) h1
  omega
 ·rw [Nat.add_assoc,Nat.pow_add]
  have h3 : 2 ^ k * (y + 1) ≤ 2 ^ k * 2 ^ (m + 1):=Nat.mul_le_mul_left _ h2
  rw [Nat.mul_add,Nat.mul_one] at h3
  omega
theorem A6q (x : Nat) (h : x < 2 ^ 64) : Lib.bitLen x = bl x:=by
  have key : ∀ f y,y < 2 ^ f → Lib.bitLenAux f y = bl y:=by
    intro f
    induction f with
    | zero => intro y hy; have : y = 0 := by simp at hy; omega
              subst this;rfl
    | succ f ih =>
      intro y hy
      simp only [Lib.bitLenAux]
      split
      · rename_i h0;subst h0;rfl
      · rename_i h0
        rw [Nat.pow_succ] at hy
        rw [ih (y / 2) (by omega)]
        by_cases h1 : y / 2 = 0
        · have hy1 : y = 1:=by omega
          subst hy1;rfl
        · have := A3q (x:=y % 2) (y:=y / 2) (k:=1) (by omega) h1
          rw [show y % 2 + 2 ^ 1 * (y / 2) = y by omega] at this
          omega
  exact key 64 x h
def C3 (a : Nat) : List Nat:=A7 W64 (a / W64)
def B3 (a : Nat) : Int:=(a % W64 : Nat)
def B1 (a : Nat) : ByteArray:=⟨((C3 a).flatMap (Lib.leBytes 8)).toArray⟩
def D1 (z : Int) : Bool:=decide (z < 0)
def G3 (d : Nat) : Nat:=if d = 1 then 0 else d
abbrev A6 (a : Nat) : Value:=.agg #[.int .u64 (B3 a),.string (B1 a)]
abbrev D4 (z : Int) : Value:=.agg #[.bool (D1 z),.int .u64 (B3 z.natAbs),.string (B1 z.natAbs)]
abbrev qV (q : Rat) : Value:=.agg #[.bool (D1 q.num),.int .u64 (B3 q.num.natAbs),.string (B1 q.num.natAbs),.int .u64 (B3 (G3 q.den)),.string (B1 (G3 q.den))]
theorem A9e {a : Nat} (h : a < W64) : C3 a = []:=by
 unfold C3;rw [Nat.div_eq_of_lt h];rfl
theorem A1U {a : Nat} (h : a < W64) : B1 a = ⟨#[]⟩:=by
 unfold B1;rw [A9e h];rfl
theorem J6 {a : Nat} (h : a < W64) : B3 a = a:=by
 unfold B3;rw [Nat.mod_eq_of_lt h]
theorem A1i (a : Nat) : 0 ≤ B3 a:=Int.natCast_nonneg _
theorem B1P (a : Nat) : B3 a < 18446744073709551616:=by
 have := Nat.mod_lt a B6;unfold B3;unfold W64 at *;omega
theorem B1O (a : Nat) : (B3 a).toNat = a % W64:=by unfold B3;omega
theorem A3Q (k v : Nat) : (Lib.leBytes k v).length = k:=by
 induction k generalizing v with
 | zero=>rfl
 | succ k ih=>simp [Lib.leBytes,ih]
theorem A6f (l : List Nat) : (l.flatMap (Lib.leBytes 8)).length = 8 * l.length:=by
 induction l with
 | nil=>rfl
 | cons x l ih=>simp [List.flatMap_cons,A3Q,ih];omega
theorem Y4 (a : Nat) : (B1 a).size = 8 * (C3 a).length:=by
 show ((C3 a).flatMap (Lib.leBytes 8)).toArray.size = _
 rw [List.size_toArray,A6f]
theorem A8Y (a : Nat) : (B1 a).data.toList = (C3 a).flatMap (Lib.leBytes 8):=rfl
theorem B4O (l : List Nat) (i : Nat) : (l.flatMap (Lib.leBytes 8)).drop (8 * i) = (l.drop i).flatMap (Lib.leBytes 8):=by
 induction i generalizing l with
 | zero=>simp
 | succ i ih =>
  cases l with
  | nil=>simp
  | cons x l =>
   rw [List.flatMap_cons,show 8 * (i + 1) = 8 + 8 * i by omega,← List.drop_drop,List.drop_left' (A3Q 8 x),ih]
   rfl
theorem B5P (x : Nat) (l : List Nat) : ((x :: l).flatMap (Lib.leBytes 8)).take 8 = Lib.leBytes 8 x:=by
 rw [List.flatMap_cons,List.take_left' (A3Q 8 x)]
theorem A1Z (a : Nat) : Dig W64 (C3 a):=F2 C7 _
theorem B4d (a i : Nat) (h : i < (C3 a).length) : Lib.leNat (((B1 a).data.toList.drop (8 * i)).take 8) = (C3 a)[i]:=by
 rw [A8Y,B4O,List.drop_eq_getElem_cons h,B5P]
 exact Lib.leNat_leBytes 8 _ (by have := A1Z a (C3 a)[i] (List.getElem_mem h);unfold W64 at this;omega)
theorem A3v {a : Nat} (h : a ≠ 0) : A7 W64 a = a % W64 :: C3 a:=A0H C7 h
theorem A4P {a : Nat} : C3 a = [] ↔ a < W64:=by
 constructor
 ·intro h
  have h1:=D5 C7 (a / W64)
  have h2 : A7 W64 (a / W64) = []:=h
  rw [h2] at h1
  have h3 : a / W64 = 0:=h1.symm
  rcases Nat.div_eq_zero_iff.1 h3 with h4 | h4
  ·exact absurd h4 (Nat.ne_of_gt B6)
  ·exact h4
 ·exact A9e
theorem L7 (a : Nat) : (B1 a).toList.isEmpty = decide (a < W64):=by
 rw [Bool.eq_iff_iff,List.isEmpty_iff,decide_eq_true_eq,← A4P]
 have hs : (B1 a).toList = (B1 a).data.toList:=ByteArray.toList_eq _
 rw [hs,A8Y]
 constructor
 ·intro h
  have := A6f (C3 a)
  rw [h] at this
  simp only [List.length_nil] at this
  exact List.eq_nil_of_length_eq_zero (by omega)
 ·intro h;rw [h];rfl
theorem A5i (a : Nat) : 64 * (C3 a).length ≤ bl a:=by
 rcases Nat.eq_zero_or_pos (C3 a).length with h | h
 ·omega
 ·have hne : a / W64 ≠ 0:=by
   intro h0
   have : C3 a = []:=by unfold C3;rw [h0];rfl
   rw [this] at h;simp at h
  have ht:=(A4W (F2 C7 (a / W64))).1 (A1A C7 (a / W64))
  rw [D5 C7] at ht
  rcases ht with ht | ht
  ·have : C3 a = []:=ht
   rw [this] at h;simp at h
  ·have h1 : W64 ^ (C3 a).length ≤ a:=by
    have h2 : W64 * W64 ^ ((C3 a).length - 1) ≤ a:=Nat.le_trans (Nat.mul_le_mul_left _ ht) (Nat.mul_div_le a W64)
    rw [← Nat.pow_succ',Nat.succ_eq_add_one,Nat.sub_add_cancel h] at h2
    exact h2
   rw [R5,← Nat.pow_mul] at h1
   exact Nat.le_of_lt (Z6.2 h1)
theorem B1k {a : Nat} (h : W64 ≤ a) : ∃ x,(C3 a).getLast? = some x ∧ x < 2 ^ 64 ∧ bl a = 64 * (C3 a).length + bl x:=by
 have hne : C3 a ≠ []:=by rw [Ne,A4P];omega
 obtain ⟨m,x,hmx⟩ : ∃ m x,C3 a = m ++ [x]:=⟨_,_,(List.dropLast_concat_getLast hne).symm⟩
 have hx : x < W64:=A1Z a x (by rw [hmx];simp)
 have hx0 : x ≠ 0:=by
  have ht : Q3 (C3 a):=A1A C7 _
  rcases ht with ht | ht
  ·exact absurd ht hne
  ·rw [hmx] at ht;simpa using ht
 refine ⟨x,by rw [hmx];simp,by rw [← R5];exact hx,?_⟩
 have hv : val W64 (a % W64 :: C3 a) = a:=by
  have h0 : a ≠ 0:=by have := B6;omega
  rw [← A3v h0,D5 C7]
 have hd : Dig W64 (a % W64 :: m):=by
  intro y hy
  rcases List.mem_cons.1 hy with rfl | hy
  ·exact Nat.mod_lt _ B6
  ·exact A1Z a y (by rw [hmx];simp [hy])
 have hs : a = val W64 (a % W64 :: m) + 2 ^ (64 * (C3 a).length) * x:=by
  have h1 : a % W64 :: C3 a = (a % W64 :: m) ++ [x]:=by rw [hmx];rfl
  rw [h1,W9] at hv
  rw [hmx]
  simp only [List.length_append,List.length_cons,List.length_nil] at hv ⊢
  rw [Nat.pow_mul,← R5]
  exact hv.symm
 have hlt : val W64 (a % W64 :: m) < 2 ^ (64 * (C3 a).length):=by
  have := H5 hd
  rw [hmx]
  simp only [List.length_append,List.length_cons,List.length_nil] at this ⊢
  rw [Nat.pow_mul,← R5]
  exact this
 rw [hs,A3q hlt hx0,← hs]
theorem W5 {a : Nat} (h : a < W64) : bl a ≤ 64:=J9.2 (by rw [← R5];exact h)
end Go.Proofs.YtlkniebmjdoopaaGreatDoor
namespace Go.Proofs.YtlkniebmjdoopaaGreatDoor
theorem B3v : W64 = 2 ^ 64:=rfl
theorem B0i {ly vs : List Nat} {n1 s top : Nat} (hd : Dig W64 ly) (hl : ly.length = n1 + 1) (htop : top = dg ly n1) (h0 : top ≠ 0) (hs : s = 64 - bl top) (htW : top < W64) (hv : Dig W64 vs) (hvv : val W64 vs = val W64 ly * 2 ^ s) :
  val W64 vs < W64 ^ (n1 + 1) ∧ W64 ^ n1 * 2 ^ s ≤ val W64 vs ∧ 0 < dg vs n1 ∧ 0 < val W64 ly:=by
 have h1:=I7 W64 ly n1
 rw [show ly.take (n1 + 1) = ly by rw [← hl,List.take_length],← htop] at h1
 have h2:=H5 (B:=W64) (l:=ly.take n1) fun x hx=>hd x (List.mem_of_mem_take hx)
 rw [show (ly.take n1).length = n1 by simp;omega] at h2
 have hb : bl top ≤ 64:=W5 htW
 have hlt:=V7 top
 have hp : 0 < W64 ^ n1:=Nat.pow_pos B6
 have hbl : 1 ≤ bl top:=P6.2 h0
 have h3 : val W64 ly < W64 ^ n1 * 2 ^ bl top:=by
  have : W64 ^ n1 * (top + 1) ≤ W64 ^ n1 * 2 ^ bl top:=Nat.mul_le_mul_left _ hlt
  rw [Nat.mul_add,Nat.mul_one] at this
  omega
 have h4 : W64 ^ n1 * 1 ≤ W64 ^ n1 * top:=Nat.mul_le_mul_left _ (by omega)
 have h5 : val W64 vs < W64 ^ (n1 + 1):=by
  rw [hvv,Nat.pow_succ]
  calc val W64 ly * 2 ^ s < W64 ^ n1 * 2 ^ bl top * 2 ^ s:=Nat.mul_lt_mul_of_pos_right h3 (Nat.two_pow_pos _)
   _ = W64 ^ n1 * W64:=by rw [Nat.mul_assoc,← Nat.pow_add,show bl top + s = 64 by omega,B3v]
 have h6 : W64 ^ n1 * 2 ^ s ≤ val W64 vs:=by rw [hvv];exact Nat.mul_le_mul_right _ (by omega)
 refine ⟨h5,h6,?_,by omega⟩
 rcases Nat.eq_zero_or_pos (dg vs n1) with hz | hz
 ·exfalso
  have h7:=A1W B6 hv (k:=n1) fun t ht=>by
   rcases Nat.lt_or_ge n1 t with h | h
   ·exact A2V B6 hv h5 t h
   ·obtain rfl : t = n1:=by omega
    exact hz
  have : W64 ^ n1 * 1 ≤ W64 ^ n1 * 2 ^ s:=Nat.mul_le_mul_left _ (Nat.two_pow_pos _)
  omega
 ·exact hz
theorem B1H {lx us vs : List Nat} {m n1 s k0 : Nat} (hd : Dig W64 lx) (hl : lx.length = m) (hu : Dig W64 us) (huv : val W64 us = val W64 lx * 2 ^ s) (hvn : W64 ^ n1 * 2 ^ s ≤ val W64 vs) (hk : n1 + k0 = m) :
  DvI W64 (val W64 vs) (val W64 us) k0 us (List.replicate k0 0):=by
 refine ⟨hu,fun x hx=>by rw [(List.mem_replicate.1 hx).2];exact B6,by rw [A0c];simp,?_,fun t _=>by unfold dg;rw [List.getElem?_replicate];split <;> rfl⟩
 have h1:=H5 hd
 rw [hl] at h1
 rw [huv]
 calc val W64 lx * 2 ^ s < W64 ^ m * 2 ^ s:=Nat.mul_lt_mul_of_pos_right h1 (Nat.two_pow_pos _)
  _ = W64 ^ n1 * 2 ^ s * W64 ^ k0:=by rw [← hk,Nat.pow_add];grind
  _ ≤ val W64 vs * W64 ^ k0:=Nat.mul_le_mul_right _ hvn
theorem DvI.top {X j n2 : Nat} {us qs vs : List Nat} (h : DvI W64 (val W64 vs) X (j + 1) us qs) (hv : Dig W64 vs) (hvW : val W64 vs < W64 ^ (n2 + 2)) :
  Dig W64 (us.drop j) ∧ (∀ t,n2 + 3 ≤ t → dg (us.drop j) t = 0) ∧ (∀ t,n2 + 2 ≤ t → dg vs t = 0) ∧ val W64 (us.drop j) < val W64 vs * W64 ∧ (∀ t,j + n2 + 3 ≤ t → dg us t = 0):=by
 have hW:=B6
 have hp : 0 < W64 ^ j:=Nat.pow_pos hW
 have h1 : val W64 us < W64 ^ (j + n2 + 3):=by
  refine Nat.lt_of_lt_of_le h.2.2.2.1 ?_
  calc val W64 vs * W64 ^ (j + 1) ≤ W64 ^ (n2 + 2) * W64 ^ (j + 1):=Nat.mul_le_mul_right _ (Nat.le_of_lt hvW)
   _ = W64 ^ (j + n2 + 3):=by rw [← Nat.pow_add];congr 1;omega
 have h2:=A2V hW h.1 h1
 refine ⟨fun x hx=>h.1 x (List.mem_of_mem_drop hx),fun t ht=>by rw [A0L];exact h2 _ (by omega),A2V hW hv hvW,?_,h2⟩
 rw [← A2m hW h.1,Nat.div_lt_iff_lt_mul hp,Nat.mul_assoc,Nat.mul_comm W64,← Nat.pow_succ]
 exact h.2.2.2.1
theorem A4y {vs : List Nat} {n : Nat} (hv : Dig W64 vs) (h : val W64 vs < W64 ^ n) : val W64 (vs.take n) = val W64 vs:=by
 have h1:=S7 W64 (vs.take n) (vs.drop n)
 rw [List.take_append_drop] at h1
 have h2:=A2m B6 hv n
 rw [Nat.div_eq_of_lt h] at h2
 rw [← h2,Nat.mul_zero,Nat.add_zero] at h1
 exact h1.symm
theorem A89 {M g V p a b : Nat} (hy : a < M) (hv : a + g * V * p = b + 1 * M) : 0 < g:=by
 rcases Nat.eq_zero_or_pos g with h | h
 ·rw [h,Nat.zero_mul,Nat.zero_mul] at hv;omega
 ·exact h
theorem DvA.last {W j n : Nat} {vs us : List Nat} {c : Nat} {zs : List Nat} (h : DvA W j vs us n c zs) (hW : 0 < W) (hi : j + n < us.length) (hvn : val W (vs.take n) = val W vs) :
  (zs.set (j + n) ((dg us (j + n) + c) % W)).length = us.length ∧ Dig W (zs.set (j + n) ((dg us (j + n) + c) % W)) ∧ (∀ t,j + n + 1 ≤ t → dg (zs.set (j + n) ((dg us (j + n) + c) % W)) t = dg us t) ∧
  val W (zs.set (j + n) ((dg us (j + n) + c) % W)) + (dg us (j + n) + c) / W * W ^ (j + n + 1) = val W us + val W vs * W ^ j:=by
 obtain ⟨h1,h2,h3,h4,h5⟩:=h
 rw [hvn] at h4
 have b1:=Nat.div_add_mod (dg us (j + n) + c) W
 have b2:=Nat.mod_lt (dg us (j + n) + c) hW
 obtain ⟨z,hz⟩ : ∃ z,z = (dg us (j + n) + c) % W:=⟨_,rfl⟩
 obtain ⟨e,he⟩ : ∃ e,e = (dg us (j + n) + c) / W:=⟨_,rfl⟩
 rw [← hz,← he] at b1
 rw [← hz] at b2
 rw [← hz,← he]
 have e1:=S3 W zs (j + n) z (by omega)
 rw [h3 (j + n) (Nat.le_refl _)] at e1
 refine ⟨by simp [h1],M3 h2 _ b2,fun t ht=>by rw [L9 _ _ (by omega)];exact h3 t (by omega),?_⟩
 have e2 : val W (zs.set (j + n) z) + e * W ^ (j + n + 1) + W ^ (j + n) * dg us (j + n) = val W us + val W vs * W ^ j + W ^ (j + n) * dg us (j + n):=by
  calc val W (zs.set (j + n) z) + e * W ^ (j + n + 1) + W ^ (j + n) * dg us (j + n)
    = val W zs + W ^ (j + n) * (W * e + z):=by rw [Nat.pow_succ];grind
   _ = val W zs + c * W ^ (j + n) + W ^ (j + n) * dg us (j + n):=by rw [b1];grind
   _ = val W us + val W vs * W ^ j + W ^ (j + n) * dg us (j + n):=by rw [h4]
 omega
theorem B1D (W : Nat) (l : List Nat) (k : Nat) : W ^ k * dg l k ≤ val W l:=by
 have h1:=I7 W l k
 have h2:=S7 W (l.take (k + 1)) (l.drop (k + 1))
 rw [List.take_append_drop] at h2
 omega
theorem A57 (i : Nat) : (256 : Nat) ^ i = W64 ^ (i / 8) * 2 ^ (8 * (i % 8)):=by
 rw [R5,show (256 : Nat) = 2 ^ 8 from rfl,← Nat.pow_mul,← Nat.pow_mul,← Nat.pow_add]
 congr 1
 omega
theorem B2O {zs : List Nat} {i y : Nat} (hi : i / 8 < zs.length) (hv : val W64 zs < 256 ^ i) (hy : y < 256) :
  dg zs (i / 8) ||| y * 2 ^ (8 * (i % 8)) = dg zs (i / 8) + y * 2 ^ (8 * (i % 8)) ∧ dg zs (i / 8) + y * 2 ^ (8 * (i % 8)) < W64 ∧
  val W64 (zs.set (i / 8) (dg zs (i / 8) + y * 2 ^ (8 * (i % 8)))) = val W64 zs + y * 256 ^ i:=by
 have h1:=B1D W64 zs (i / 8)
 have h2 : dg zs (i / 8) < 2 ^ (8 * (i % 8)):=by
  rw [A57 i] at hv
  exact Nat.lt_of_mul_lt_mul_left (Nat.lt_of_le_of_lt h1 hv)
 have h3:=S3 W64 zs (i / 8) (dg zs (i / 8) + y * 2 ^ (8 * (i % 8))) hi
 have h4 : y * 256 ^ i = W64 ^ (i / 8) * (y * 2 ^ (8 * (i % 8))):=by rw [A57];grind
 have h5 : (y + 1) * 2 ^ (8 * (i % 8)) ≤ 256 * 2 ^ (8 * (i % 8)):=Nat.mul_le_mul_right _ hy
 have h6 : 256 * 2 ^ (8 * (i % 8)) ≤ W64:=by
  rw [show (256 : Nat) = 2 ^ 8 from rfl,← Nat.pow_add,R5]
  exact Nat.pow_le_pow_right (by omega) (by omega)
 rw [Nat.add_mul,Nat.one_mul] at h5
 refine ⟨?_,by omega,?_⟩
 ·rw [A1T h2 (Nat.dvd_mul_left _ _),Nat.add_comm]
 ·rw [Nat.mul_add] at h3
  omega
theorem A56 {W : Nat} (hW : 0 < W) {l : List Nat} (h : Dig W l) (k : Nat) : val W (l.take k) < W ^ k:=by
 rcases Nat.lt_or_ge k l.length with hk | hk
 ·have := H5 (B:=W) (l:=l.take k) (fun x hx=>h x (List.mem_of_mem_take hx))
  rwa [List.length_take,Nat.min_eq_left (by omega)] at this
 ·rw [U6 W l k hk]
  exact Nat.lt_of_lt_of_le (H5 h) (Nat.pow_le_pow_right hW hk)
def Tz (V z : Nat) : Prop:=∃ m,V = 2 ^ z * (2 * m + 1)
theorem A9l {W : Nat} {l : List Nat} {k : Nat} (h : ∀ i,i < k → dg l i = 0) : val W (l.take k) = 0:=by
 induction k with
 | zero=>rfl
 | succ k ih=>rw [I7,ih (fun i hi=>h i (by omega)),h k (by omega)];simp
theorem B0M {l : List Nat} {k t m : Nat} (h0 : ∀ i,i < k → dg l i = 0) (hk : k < l.length) (hx : dg l k = 2 ^ t * (2 * m + 1)) (ht : t < 64) : Tz (val W64 l) (64 * k + t):=by
 have h1:=S7 W64 (l.take k) (l.drop k)
 rw [List.take_append_drop,A9l h0,List.length_take,Nat.min_eq_left (by omega),List.drop_eq_getElem_cons hk,← D3 hk,K3,hx,Nat.zero_add] at h1
 refine ⟨m + 2 ^ (63 - t) * val W64 (l.drop (k + 1)),?_⟩
 rw [h1,Nat.pow_add,Nat.pow_mul]
 have e : W64 = 2 ^ t * (2 * 2 ^ (63 - t)):=by
  rw [← Nat.pow_succ',← Nat.pow_add,R5]
  congr 1
  omega
 rw [show (2 : Nat) ^ 64 = W64 from rfl,Nat.mul_assoc]
 congr 1
 rw [e]
 grind
theorem Tz.inj {V z z' : Nat} (h : Tz V z) (h' : Tz V z') : z = z':=by
 obtain ⟨m,hm⟩:=h
 obtain ⟨m',hm'⟩:=h'
 have key : ∀ a b x y : Nat,a < b → 2 ^ a * (2 * x + 1) = 2 ^ b * (2 * y + 1) → False:=by
  intro a b x y hab he
  obtain ⟨d,rfl⟩ : ∃ d,b = a + (d + 1):=⟨b - a - 1,by omega⟩
  rw [Nat.pow_add,Nat.mul_assoc] at he
  have := Nat.eq_of_mul_eq_mul_left (Nat.two_pow_pos a) he
  rw [Nat.pow_succ,Nat.mul_comm (2 ^ d) 2,Nat.mul_assoc] at this
  omega
 rcases Nat.lt_trichotomy z z' with h | h | h
 ·exact (key _ _ _ _ h (hm.symm.trans hm')).elim
 ·exact h
 ·exact (key _ _ _ _ h (hm'.symm.trans hm)).elim
def DnI (P R : Nat) (l : List Nat) (i : Nat) (zs : List Nat) : Prop :=
 zs.length = l.length ∧ (∀ t,t < i → dg zs t = dg l t / P + dg l (t + 1) % P * R) ∧ ∀ t,i ≤ t → dg zs t = dg l t
theorem DnI.start (P R : Nat) (l : List Nat) : DnI P R l 0 l:=⟨rfl,fun t ht=>by omega,fun _ _=>rfl⟩
theorem DnI.next {P R : Nat} {l zs : List Nat} {i : Nat} (h : DnI P R l i zs) (hi : i < l.length) : DnI P R l (i + 1) (zs.set i (dg l i / P + dg l (i + 1) % P * R)):=by
 refine ⟨by rw [List.length_set];exact h.1,fun t ht=>?_,fun t ht=>by rw [L9 _ _ (by omega)];exact h.2.2 t (by omega)⟩
 rcases Nat.lt_or_ge t i with hlt | hge
 ·rw [L9 _ _ (by omega)];exact h.2.1 t hlt
 ·obtain rfl : t = i:=by omega
  rw [A5k (by rw [h.1];exact hi)]
theorem DnI.done {W P R : Nat} {l zs : List Nat} (hW : W = P * R) (hP : 0 < P) (hW0 : 0 < W) (hd : Dig W l) (h : DnI P R l l.length zs) : val W zs = val W l / P ∧ Dig W zs :=
 ⟨A3K hW hP hW0 l zs hd h.1 h.2.1,fun x hx=>by
  obtain ⟨t,ht,rfl⟩:=List.getElem_of_mem hx
  rw [← D3 ht,h.2.1 t (by rw [← h.1];exact ht)]
  exact (A1l hW hP (B9 hW0 hd _)).1⟩
def SbI (W : Nat) (lx ly : List Nat) (k br : Nat) (zs : List Nat) : Prop :=
 zs.length = lx.length ∧ Dig W zs ∧ br ≤ 1 ∧ (∀ t,k ≤ t → dg zs t = dg lx t) ∧ val W (zs.take k) + val W (ly.take k) = val W (lx.take k) + br * W ^ k
theorem SbI.start (W : Nat) {lx : List Nat} (ly : List Nat) (h : Dig W lx) : SbI W lx ly 0 0 lx:=⟨rfl,h,by omega,fun _ _=>rfl,by simp [val]⟩
theorem A5Q {zs : List Nat} {k z : Nat} (h : k < zs.length) : (zs.set k z).take (k + 1) = zs.take k ++ [z]:=by
 rw [List.take_succ_eq_append_getElem (by rw [List.length_set];exact h),List.take_set_of_le (Nat.le_refl k),List.getElem_set_self]
theorem SbI.next {W : Nat} {lx ly zs : List Nat} {k br : Nat} (h : SbI W lx ly k br zs) (hW : 0 < W) (hx : Dig W lx) (hy : Dig W ly) (hk : k < lx.length) :
  SbI W lx ly (k + 1) (if dg lx k < dg ly k + br then 1 else 0) (zs.set k ((dg lx k + W - dg ly k - br) % W)):=by
 obtain ⟨h1,h2,h3,h4,h5⟩:=h
 refine ⟨by rw [List.length_set];exact h1,M3 h2 _ (Nat.mod_lt _ hW),by split <;> omega,fun t ht=>by rw [L9 _ _ (by omega)];exact h4 t (by omega),?_⟩
 rw [A5Q (by omega)]
 exact A53 h3 (B9 hW hx k) (B9 hW hy k) (by rw [List.length_take];omega) h5
theorem SbI.done {W : Nat} {lx ly zs : List Nat} {k br : Nat} (h : SbI W lx ly k br zs) (hk : k = lx.length) (hl : ly.length ≤ lx.length) (hle : val W ly ≤ val W lx) : val W zs = val W lx - val W ly:=by
 obtain ⟨h1,h2,h3,h4,h5⟩:=h
 subst hk
 have h6:=H5 h2
 rw [List.take_of_length_le (by omega),List.take_of_length_le hl,List.take_length] at h5
 rw [h1] at h6
 rcases Nat.eq_zero_or_pos br with rfl | hp
 ·omega
 ·obtain rfl : br = 1:=by omega
  omega
theorem B52 {v w z m g : Nat} (hw : w % 2 = 1) (hlt : w < v) (hz : v - w = 2 ^ z * m) (h : Nat.gcd v w = g) : Nat.gcd m w = g:=by
 rw [← h,← Nat.gcd_sub_self_left (Nat.le_of_lt hlt),hz]
 refine (Nat.Coprime.gcd_mul_left_cancel m ?_).symm
 exact Nat.Coprime.pow_left z (by
  rw [Nat.coprime_iff_gcd_eq_one]
  show Nat.gcd 2 w = 1
  rw [Nat.gcd_rec,hw];rfl)
theorem B0C {w : Nat} (hw : w % 2 = 1) (z : Nat) : Nat.Coprime (2 ^ z) w:=Nat.Coprime.pow_left z (by
  show Nat.gcd 2 w = 1
  rw [Nat.gcd_rec,hw];rfl)
theorem B6h {x y a b v w : Nat} (hx : x = 2 ^ a * v) (hy : y = 2 ^ b * w) (hv : v % 2 = 1) (hw : w % 2 = 1) : Nat.gcd x y = 2 ^ min a b * Nat.gcd v w:=by
 subst hx;subst hy
 rcases Nat.le_total a b with h | h
 ·obtain ⟨d,rfl⟩ : ∃ d,b = a + d:=⟨b - a,by omega⟩
  rw [Nat.min_eq_left h,Nat.pow_add,Nat.mul_assoc,Nat.gcd_mul_left]
  congr 1
  rw [Nat.gcd_comm,Nat.Coprime.gcd_mul_left_cancel w (B0C hv d),Nat.gcd_comm]
 ·obtain ⟨d,rfl⟩ : ∃ d,a = b + d:=⟨a - b,by omega⟩
  rw [Nat.min_eq_right h,Nat.pow_add,Nat.mul_assoc,Nat.gcd_mul_left]
  congr 1
  exact Nat.Coprime.gcd_mul_left_cancel v (B0C hw d)
theorem B1r (x : Nat) (h0 : x ≠ 0) (h : x < W64) : ∃ m,x = 2 ^ Lib.ctz 64 x * (2 * m + 1) ∧ Lib.ctz 64 x < 64:=by
 have := Lib.ctzFrom_spec 64 x (by omega) h
 unfold Lib.ctz
 rw [if_neg h0]
 exact this
end Go.Proofs.YtlkniebmjdoopaaGreatDoor
