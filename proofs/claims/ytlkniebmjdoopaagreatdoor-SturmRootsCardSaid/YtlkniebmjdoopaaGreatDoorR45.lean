/- Contracts and laws. -/
import Derived.Test.YtlkniebmjdoopaaGreatDoorR44
set_option linter.unusedSimpArgs false
set_option linter.unusedVariables false
namespace Go.Proofs.YtlkniebmjdoopaaGreatDoor
open Go Go.RowKit
theorem A8Q : ∃ n : Nat,n = 57000000:=⟨_,rfl⟩
noncomputable def ZC : Nat:=A8Q.choose
theorem A2O : ZC = 57000000:=A8Q.choose_spec
theorem A7Z : ∃ n : Nat,n = 990000000:=⟨_,rfl⟩
noncomputable def DM : Nat:=A7Z.choose
theorem A0O : DM = 990000000:=A7Z.choose_spec
theorem O7 : BIG = 1099511627520:=rfl
structure Pok (p : List Rat) : Prop where
 len : p.length ≤ 32
 nz : trN p ≠ 0
 le : trN p ≤ 25
 sz : ∃ S,S ≤ 1000 ∧ Czl p S ∧ 16 * ((S + 6) * E5 (trN p)) + 1000 ≤ BIG
 g : Czl (G6 p (D7 p)) 200
 f : Czl (C5 p) 200
 fl : (C5 p).length ≤ 15
theorem A5d : A19 fun r=>r:=fun _ _ h=>h
theorem A1C : A19 shL:=fun _ _ h=>B3D h
section
variable {p : List Rat}
theorem Pok.qsB (h : Pok p) : ∀ x ∈ p,qs x ≤ BIG:=fun x hx=>by
 obtain ⟨S,h1,h2,h3⟩:=h.sz
 have : BIG = 1099511627520:=rfl
 have := I9 h2 x hx
 omega
theorem Pok.ref (h : Pok p) : Y9 p = 0:=by
 unfold Y9
 rw [if_neg h.nz,if_neg (by have := h.le;omega)]
theorem Pok.free (h : Pok p) : L8 95 p (C5 p):=by
 obtain ⟨S,h1,h2,h3⟩:=h.sz
 have e : BIG = 1099511627520:=rfl
 exact B2h h2 h.nz (Nat.le_refl _) h.len h.g h3 (by omega)
theorem Pok.mon (h : Pok p) : Mon (C5 p):=(A5h h.nz).choose_spec.choose_spec.2
theorem Pok.part (h : Pok p) : ∃ d e,Part p (C5 p) d e:=by
 obtain ⟨d,e,h1,-⟩:=A5h h.nz
 exact ⟨d,e,h1⟩
theorem Pok.sqf (h : Pok p) : Sqf (C5 p):=by
 obtain ⟨d,e,h1⟩:=h.part
 exact h1.sqf
theorem B3M : 206 * E5 15 ≤ ZC:=by rw [A2O];decide
theorem Pok.chz {sh : List Rat → List Rat} (hs : Shape sh) (hz : A19 sh) (h : Pok p) : ChZ sh (C5 p) ZC:=by
 have h1:=B6E hs hz h.f h.mon.tr h.mon.1 (by have := h.fl;omega) (n:=15) h.fl
 have h2:=B3M
 have h3 : (200 + 6) * E5 15 ≤ ZC:=h2
 exact ⟨h1.len,h1.kle,fun i hi=>⟨(h1.el i hi).1.mono h3,(h1.el i hi).2.mono h3⟩,fun i hi=>by
  obtain ⟨a,b,c,d⟩:=h1.dv i hi
  exact ⟨a.mono h3,b.mono h3,A5q c (by omega),d⟩⟩
theorem Pok.callC_id (h : Pok p) : A25 72 p (chL (fun r=>r) p) (cK (fun r=>r) (C5 p) + 1) :=
 A8c (enters_of Tryz.func72 (by kernel_rfl) rfl) A1A h.free h.mon (by have := h.fl;omega) (h.chz A1A A5d) (by rw [A2O,O7];omega) fun r _ _=>B4A r
theorem Pok.callC_sh (h : Pok p) : A25 114 p (chL shL p) (cK shL (C5 p) + 1) :=
 A8c (enters_of Tryz.func114 (by kernel_rfl) rfl) A0H h.free h.mon (by have := h.fl;omega) (h.chz A0H A1C) (by rw [A2O,O7];omega) fun r hr hq=>B17 hr ZC hq (by rw [A2O,O7];omega)
theorem Pok.signs (h : Pok p) : A4B 48 p (chL shL p) (cK shL (C5 p) + 1):=B7F h.callC_sh
theorem Pok.chain (h : Pok p) : A4B 22 p (chL (fun r=>r) p) (cK (fun r=>r) (C5 p) + 1):=B4v h.ref (by have := h.len;omega) h.qsB h.callC_id
theorem B5f {sh : List Rat → List Rat} {q : List Rat} (hq : q ∈ chL sh p) : ∃ i,i ≤ cK sh (C5 p) ∧ q = cC sh (C5 p) i:=by
 unfold chL at hq
 obtain ⟨i,hi,e⟩:=List.mem_map.1 hq
 exact ⟨i,by have := List.mem_range.1 hi;omega,e.symm⟩
theorem A3z {sh : List Rat → List Rat} : (chL sh p).length = cK sh (C5 p) + 1:=by unfold chL;simp
theorem Pok.kle {sh : List Rat → List Rat} (hs : Shape sh) (hz : A19 sh) (h : Pok p) : cK sh (C5 p) ≤ 15:=Nat.le_trans (h.chz hs hz).kle h.fl
theorem Pok.at {sh : List Rat → List Rat} (hs : Shape sh) (hz : A19 sh) (h : Pok p) {x : Rat} (hx : Xz x DM) : ∀ q ∈ chL sh p,A0u q x:=fun q hq=>by
 obtain ⟨i,hi,rfl⟩:=B5f hq
 have hc:=h.chz hs hz
 exact A8M (hc.el i hi).1 hx (Nat.le_trans (hc.len i (by omega)) h.fl) (by omega) (by rw [A2O,A0O,O7];omega)
theorem B0H {a : Rat} (h : 0 < a) : 0 < a.num:=by
 have h1:=Rat.num_nonneg.2 (Rat.le_of_lt h)
 have h2 : a.num ≠ 0:=fun e=>by
  rw [Rat.num_eq_zero.1 e] at h
  exact absurd h (by decide)
 omega
theorem A9q (l : List Rat) (x : Rat) : sgQ l x = sgr (pv l x):=by
 unfold sgQ
 rw [B3h]
 generalize pv l x = a
 rcases A0y a with h | h | h
 ·rw [h];exact Int.sign_eq_one_of_pos (B0H (U8.1 h))
 ·rw [h];exact Int.sign_eq_neg_one_of_neg (by
  have h2:=B0H (show 0 < -a by have := U9.1 h;grind)
  rw [Rat.neg_num] at h2
  omega)
 ·rw [h,A1x.1 h];rfl
theorem A8V {s s' : Nat → Int} : ∀ n,(∀ i,i < n → s i = s' i) → D9 s n = D9 s' n
 | 0,_=>rfl
 | n + 1,h=>by rw [D9,D9,A8V n (fun i hi=>h i (by omega)),h n (by omega)]
theorem B7S (sh : List Rat → List Rat) (x : Rat) : Y5 (chL sh p) x = chV (cC sh (C5 p)) (cK sh (C5 p)) x:=by
 unfold Y5 chV
 rw [A3z,A8V _ fun i hi=>?_]
 show sgQ (R3 (chL sh p) i) x = _
 rw [A9q]
 unfold R3 chL
 rw [List.getElem?_map,List.getElem?_range hi]
 rfl
end
def Stk (V : Rat → Nat) (P : Nat → Rat → Rat → Prop) (d : Nat) : List (Rat × Rat) → Prop
 | []=>True
 | s :: r=>(∃ e,e + r.length ≤ d ∧ Z0 V e s.1 s.2 ∧ P e s.1 s.2) ∧ Stk V P d r
theorem A9h {V : Rat → Nat} {P : Nat → Rat → Rat → Prop} {d : Nat} {lo hi : Rat} (h : Z0 V d lo hi) (h0 : P d lo hi) (hP : ∀ e a b,P (e + 1) a b → P e a (E9 a b) ∧ P e (E9 a b) b) : ∀ n,Stk V P d (G4 V ([(lo,hi)],[]) n).1
 | 0=>⟨⟨d,by simp,h,h0⟩,trivial⟩
 | n + 1=>by
  have ih:=A9h h h0 hP n
  rw [G4]
  generalize G4 V ([(lo,hi)],[]) n = S at *
  obtain ⟨st,o⟩:=S
  cases st with
  | nil=>trivial
  | cons t r =>
   obtain ⟨a,b⟩:=t
   rw [Z7]
   obtain ⟨⟨e,he,hok,hp⟩,hr⟩:=ih
   split
   ·exact hr
   ·rename_i n0
    split
    ·exact hr
    ·rename_i n1
     cases e with
     | zero=>rcases hok with h | h;exact absurd h n0;exact absurd h n1
     | succ e =>
      rcases hok with h | h | ⟨hl,hrr⟩
      ·exact absurd h n0
      ·exact absurd h n1
      ·have h2:=hP e a b hp
       refine ⟨⟨e,?_,hl,h2.1⟩,⟨e,by omega,hrr,h2.2⟩,hr⟩
       simp only [List.length_cons];omega
def sV (p : List Rat) (x : Rat) : Nat:=Y5 (chL shL p) x
theorem A8g : ∃ n : Nat,n = 1100:=⟨_,rfl⟩
noncomputable def RH : Nat:=A8g.choose
theorem A2n : RH = 1100:=A8g.choose_spec
theorem A9g : ∃ n : Nat,n = 970000000:=⟨_,rfl⟩
noncomputable def DEP : Nat:=A9g.choose
theorem A9R : DEP = 970000000:=A9g.choose_spec
theorem A9z : ∃ n : Nat,n = DEP + RH + 3:=⟨_,rfl⟩
noncomputable def DD : Nat:=A9z.choose
theorem A5N : DD = DEP + RH + 3:=A9z.choose_spec
theorem B5c : ZC + 16 * (ZC + 16 * (RH + 1) + 1) + 205 + 15 * (RH + 2) ≤ DEP:=by rw [A2O,A2n,A9R];omega
section
variable {p : List Rat}
theorem Pok.st (h : Pok p) : Sturm (cC shL (C5 p)) (cK shL (C5 p)):=B0T A0H h.mon.tr h.sqf
theorem A0i (x : Rat) : sV p x = chV (cC shL (C5 p)) (cK shL (C5 p)) x:=B7S shL x
theorem A7A (h : Pok p) {a b : Rat} (hab : a ≤ b) : sV p b ≤ sV p a:=by rw [A0i,A0i];exact A35 h.st hab
theorem A6l (h : Pok p) (x : Rat) : sV p x ≤ 1000:=by
 have h1:=A6x (chL shL p) x
 rw [A3z] at h1
 have h2:=h.kle A0H A1C
 unfold sV;omega
theorem B4S (h : Pok p) {a b : Rat} (ha : mg a ≤ p2 RH) (hb : mg b ≤ p2 RH) (hab : a < b) (hd : (b - a) * p2 DEP < 1) : sV p a ≤ sV p b + 1:=by
 have hz:=h.chz A1A A5d
 have hsep:=B3U (f:=C5 p) (Z:=ZC) (n:=16) (ρ:=RH) h.mon.tr h.sqf (by have := h.kle A1A A5d;omega) (fun i hi=>⟨(hz.dv i hi).1,by have := (hz.dv i hi).2.2.2;have := h.fl;omega⟩) (hz.el _ (Nat.le_refl _)).1
 have hd' : (b - a) * p2 (ZC + 16 * (ZC + 16 * (RH + 1) + 1) + 205 + 15 * (RH + 2)) < 1:=by
  have h1:=A0p B5c
  have h2:=Rat.mul_le_mul_of_nonneg_left h1 (show 0 ≤ b - a by grind)
  grind
 have hs:=B1b (f:=C5 p) (E:=ZC + 16 * (ZC + 16 * (RH + 1) + 1)) (Z:=205) (ρ:=RH) (n:=15) (a:=a) (b:=b) (h.f.mono (by omega)) (A6H (Y:=5) h.f (by have := h.fl;omega)) hsep h.fl ha hb hab hd'
 rw [A0i,A0i]
 rcases hs with ⟨t,ht⟩ | ⟨t,ht⟩
 ·have ht : Cn (cC shL (C5 p) 0) a b t:=by rw [A04];exact ht
  have := B08 h.st hab ht
  omega
 ·have ht : Mn (cC shL (C5 p) 0) a b t:=by rw [A04];exact ht
  exact B5L h.st hab ht
theorem A6P (h : Pok p) {lo hi : Rat} (h1 : mg lo ≤ p2 RH) (h2 : mg hi ≤ p2 RH) (hlt : lo < hi) : Z0 (sV p) DD lo hi:=by
 have hP:=R2 (DEP + 1)
 have e : 1 / p2 (DEP + 1) * p2 (DEP + 1) = 1:=Rat.div_mul_cancel (by grind)
 refine A49 (A:=lo) (B:=hi) (δ:=1 / p2 (DEP + 1)) (fun a b _ hab _=>A7A h (Rat.le_of_lt hab)) (fun a b ha hab hb hd=>?_) DD lo hi Rat.le_refl hlt Rat.le_refl ?_
 ·refine B4S h (P9 h1 h2 ha (by grind)) (P9 h1 h2 (by grind) hb) hab ?_
  have h3:=Rat.mul_le_mul_of_nonneg_right hd (Rat.le_of_lt hP)
  rw [e,R5,A15] at h3
  have h4:=Rat.mul_pos (show 0 < b - a by grind) (R2 DEP)
  generalize p2 DEP = X at *
  grind
 ·have h3 : (2 : Rat) ^ DD = p2 (DEP + 1) * p2 (RH + 2):=by
   have h4:=A55 1 DD
   rw [A15,Nat.mul_one] at h4
   rw [h4,← R5,show DEP + 1 + (RH + 2) = DD by rw [A5N];omega]
  rw [h3,← Rat.mul_assoc,e,R5]
  rw [A2D] at h1 h2
  have h5 : p2 2 = 4:=rfl
  rw [h5]
  have h6:=R2 RH
  generalize p2 RH = X at *
  grind
theorem Xz.mg {x : Rat} {D : Nat} (h : Xz x D) : Go.Proofs.YtlkniebmjdoopaaGreatDoor.mg x ≤ p2 D:=by
 obtain ⟨u,v,v0,h1,h2,h3⟩:=h
 have h4:=A23 h1
 rw [← h3,V9] at h4
 have h5:=Rat.mul_le_mul_of_nonneg_left (A21 v0) (G8 x)
 grind
noncomputable def isoP (p : List Rat) (lo hi : Rat) : List (Rat × Rat):=L7 (sV p) DD lo hi
theorem B4B (h : Pok p) {lo hi : Rat} (hs : Spn lo hi RH) (hlt : lo < hi) : G4 (sV p) ([(lo,hi)],[]) (A0X (sV p) DD lo hi) = ([],isoP p lo hi):=by
 have := A6e (sV p) DD lo hi (A6P h hs.lo.mg hs.hi.mg hlt) [] []
 rw [this];rfl
theorem B2y (h : Pok p) {lo hi : Rat} (hs : Spn lo hi RH) (hlt : lo < hi) (n : Nat) : Stk (sV p) (fun e a b=>Spn a b (RH + DD - e)) DD (G4 (sV p) ([(lo,hi)],[]) n).1:=by
 have h0:=A9h (P:=fun e a b=>e ≤ DD ∧ Spn a b (RH + DD - e)) (A6P h hs.lo.mg hs.hi.mg hlt) ⟨Nat.le_refl _,hs.mono (by omega)⟩ (fun e a b ⟨he,hp⟩=>by
  obtain ⟨h1,h2⟩:=hp.mid
  exact ⟨⟨by omega,h1.mono (by omega)⟩,by omega,h2.mono (by omega)⟩) n
 generalize (G4 (sV p) ([(lo,hi)],[]) n).1 = st at *
 induction st with
 | nil=>trivial
 | cons s r ih =>
  obtain ⟨⟨e,h1,h2,h3⟩,h4⟩:=h0
  exact ⟨⟨e,h1,h2,h3.2⟩,ih h4⟩
theorem A3o : RH + DD + 2 ≤ DM:=by rw [A5N,A0O,A2n,A9R];omega
theorem Pok.turns (h : Pok p) {x : Rat} (hx : Xz x DM) (A : Option Addr) (c : Nat) (W : World) (hr : RW (chL shL p) A W) (hT : Tab W) : Z4 112 #[.slice A (cK shL (C5 p) + 1) c,qV x] W (sV p x : Nat) :=
 A50 A c _ (chL shL p) A3z (by have := h.kle A0H A1C;omega) x (h.at A0H A1C hx) W hr hT
theorem Pok.inside (h : Pok p) {lo hi : Rat} (h1 : Xz lo DM) (h2 : Xz hi DM) (A : Option Addr) (c : Nat) (W : World) (hr : RW (chL shL p) A W) (hT : Tab W) : Z4 55 #[.slice A (cK shL (C5 p) + 1) c,spV lo hi] W (U7 (chL shL p) lo hi) :=
 B7b A c _ (chL shL p) A3z (by have := h.kle A0H A1C;omega) lo hi (by have := h1.qs;have := h2.qs;have := A0O;have := O7;omega) (fun _=>h.at A0H A1C h1) (fun _=>h.at A0H A1C h2) W hr hT
theorem Pok.refuse (h : Pok p) (A : Option Addr) (c : Nat) (w : World) (hp : PR p (A,c) w) : Z4 50 #[.slice A p.length c] w 0:=by
 have := A3v A p p.length c rfl hp.2.1 (by have := h.len;omega) h.qsB w hp.1
 rw [h.ref] at this
 exact this
theorem Pok.count (h : Pok p) {lo hi : Rat} (h1 : Xz lo DM) (h2 : Xz hi DM) (hle : lo ≤ hi) (A : Option Addr) (c : Nat) (w : World) (hp : PR p (A,c) w) (HT : Tab w) : R4 14 #[.slice A p.length c,qV lo,qV hi] w (.tuple #[.int .i64 (U7 (chL shL p) lo hi),.int .i64 0]) :=
 B3C A c p.length _ (chL shL p) lo hi (H4 lo hi) _ (by unfold H4;split;omega;rw [if_neg (by grind)];omega) w HT (fun W hg=>h.refuse A c W (hp.grow hg)) (fun W=>A01 _ _ W (by have := h1.qs;have := h2.qs;have := A0O;have := O7;omega)) (fun W hg=>h.signs W A c (hp.grow hg) (HT.grow hg)) (fun W y hr hT=>h.inside h1 h2 y.1 y.2 W hr hT)
theorem Pok.bound (h : Pok p) (A : Option Addr) (c : Nat) (w : World) (hp : PR p (A,c) w) (HT : Tab w) : R4 13 #[.slice A p.length c] w (.tuple #[qV (E0 p),.int .i64 0]):=by
 obtain ⟨S,h1,h2,h3⟩:=h.sz
 exact B48 A c p.length p rfl (by have := h.len;omega) (S + 1) (by omega) (fun x hx=>Nat.le_trans (I9 h2 x hx) (by omega)) (by have := O7;omega) h.ref w hp HT
theorem A0k (p : List Rat) : 0 < E0 p:=by
 have key : ∀ (f : Nat → Rat) n,0 ≤ J7 f n:=fun f n=>by
  induction n with
  | zero=>exact Rat.le_refl
  | succ n ih =>
   unfold J7 Z5
   split
   ·rw [A0D];exact G8 _
   ·exact ih
 have := key (I5 p) (trN p - 1)
 unfold E0
 show 0 < J7 _ _ + 1
 grind
theorem B6x {S : Nat} (hp : Czl p S) (h0 : trN p ≠ 0) : Xz (E0 p) (S + 1):=by
 obtain ⟨d,d0,dz,hd⟩:=hp
 obtain ⟨B,hB,hBz⟩:=hd (trN p - 1)
 have ht:=S2 h0
 have hB : B6 p * (d : Rat) = (B : Rat):=hB
 have hB0 : B ≠ 0:=fun e1=>by
  rw [e1] at hB
  rcases Rat.mul_eq_zero.1 (hB.trans rfl) with h | h
  ·exact ht h
  ·exact Y4 d0 h
 have hf : ∀ i,∃ m : Int,I0 (I5 p i) * (B : Rat) = (m : Rat) ∧ m.natAbs < 2 ^ S:=fun i=>by
  obtain ⟨M,hM,hMz⟩:=hd i
  have h1 : I5 p i * (B : Rat) = (M : Rat):=by
   rw [← hB,← hM]
   show gq p i / B6 p * (B6 p * (d : Rat)) = _
   have : gq p i / B6 p * B6 p = gq p i:=Rat.div_mul_cancel ht
   rw [← Rat.mul_assoc,this]
  rw [A0D]
  unfold mg
  split
  ·exact ⟨M,h1,hMz⟩
  ·exact ⟨-M,by rw [Rat.intCast_neg,← h1];grind,by rw [Int.natAbs_neg];exact hMz⟩
 have key : ∀ n,∃ m : Int,J7 (I5 p) n * (B : Rat) = (m : Rat) ∧ m.natAbs < 2 ^ S:=by
  intro n
  induction n with
  | zero=>exact ⟨0,by show (0 : Rat) * _ = _;rw [Rat.intCast_zero];grind,Nat.two_pow_pos _⟩
  | succ n ih =>
   unfold J7 Z5
   split
   ·exact hf n
   ·exact ih
 obtain ⟨m,hm,hmz⟩:=key (trN p - 1)
 refine ⟨m + B,B,hB0,?_,W5 hBz (by omega),?_⟩
 ·have := A5E hmz hBz
  omega
 ·unfold E0
  show (J7 _ _ + 1) * (B : Rat) = _
  rw [Rat.intCast_add,← hm];grind
theorem Xz.neg {x : Rat} {D : Nat} (h : Xz x D) : Xz (-x) D:=by
 obtain ⟨u,v,h0,h1,h2,h3⟩:=h
 exact ⟨-u,v,h0,by rw [Int.natAbs_neg];exact h1,h2,by rw [Rat.intCast_neg,← h3];grind⟩
theorem A72 {x : Rat} {D : Nat} (h : Xz x D) : Spn (-x) x D:=by
 obtain ⟨u,v,h0,h1,h2,h3⟩:=h
 exact ⟨v,-u,u,h0,h2,by rw [Int.natAbs_neg];exact h1,h1,by rw [Rat.intCast_neg,← h3];grind,h3⟩
noncomputable def rootsP (p : List Rat) : List (Rat × Rat):=isoP p (-E0 p) (E0 p)
theorem Pok.bxz (h : Pok p) : Xz (E0 p) RH:=by
 obtain ⟨S,h1,h2,-⟩:=h.sz
 exact (B6x h2 h.nz).mono (by rw [A2n];omega)
theorem Pok.iok (h : Pok p) : Z0 (sV p) DD (-E0 p) (E0 p):=A6P h h.bxz.neg.mg h.bxz.mg (by have := A0k p;grind)
theorem Pok.rootsL (h : Pok p) : (rootsP p).length + sV p (E0 p) = sV p (-E0 p) ∧ (∀ s ∈ rootsP p,sV p s.1 = sV p s.2 + 1 ∧ -E0 p ≤ s.1 ∧ s.1 < s.2 ∧ s.2 ≤ E0 p) ∧ A0R (-E0 p) (rootsP p) :=
 B4i (A:=-E0 p) (B:=E0 p) (fun a b _ hab _=>A7A h (Rat.le_of_lt hab)) DD _ _ Rat.le_refl (by have := A0k p;grind) Rat.le_refl h.iok
theorem Pok.roots (h : Pok p) (A : Option Addr) (c : Nat) (w : World) (hp : PR p (A,c) w) (HT : Tab w) : Calls Tryz.prog 10 #[.slice A p.length c] w (A6k (rootsP p) w):=by
 have hlt : -E0 p < E0 p:=by have := A0k p;grind
 have hsp:=A72 h.bxz
 have e1:=A0O
 have e2:=O7
 have e3:=A3o
 refine B5d A c p.length _ (chL shL p) (sV p) (E0 p) _ (DD + 2) (rootsP p) w HT (fun W hg=>h.bound A c W (hp.grow hg) (HT.grow hg)) (fun W hg=>h.signs W A c (hp.grow hg) (HT.grow hg)) (fun W=>?_) (A6l h) (fun A c W hr hT=>h.turns (h.bxz.neg.mono (by omega)) A c W hr hT) (fun A c W hr hT=>h.turns (h.bxz.mono (by omega)) A c W hr hT) (fun k s r o hk=>?_) (by omega) ?_ (B4B h hsp hlt)
 ·refine A6n (E0 p) ?_ W
  have := h.bxz.qs
  have h9 : bl (E0 p).num.natAbs ≤ qs (E0 p):=by unfold qs;omega
  have e4:=A2n
  omega
 ·have hs:=B2y h hsp hlt k
  rw [hk] at hs
  obtain ⟨⟨e,h1,h2,h3⟩,-⟩:=hs
  refine ⟨by omega,fun n0 n1=>?_⟩
  have hm:=h3.mid.1
  have hz1 : qs s.1 ≤ DM:=Nat.le_trans h3.lo.qs (by omega)
  have hz2 : qs s.2 ≤ DM:=Nat.le_trans h3.hi.qs (by omega)
  refine ⟨fun W hT=>B5A s.1 s.2 DM hz1 hz2 (by omega) W hT,fun A c W hr hT=>h.turns (hm.hi.mono (by omega)) A c W hr hT⟩
 ·have h1:=h.rootsL.1
  have h2:=A6l h (-E0 p)
  omega
end
end Go.Proofs.YtlkniebmjdoopaaGreatDoor
