/- Contracts and laws. -/
import Derived.Test.YtlkniebmjdoopaaGreatDoorK46
import Derived.Deep.CutRange
import Derived.Deep.DeepCutAuto
set_option linter.unusedSimpArgs false
set_option linter.unusedVariables false
set_option maxHeartbeats 8000000
set_option maxRecDepth 100000
namespace Go.Proofs.YtlkniebmjdoopaaGreatDoor
open Go Go.RowKit
theorem A70 : ∃ n : Nat,n = 57000000:=⟨_,rfl⟩
noncomputable def ZC : Nat:=A70.choose
theorem A1P : ZC = 57000000:=A70.choose_spec
theorem A8q : ∃ n : Nat,n = 990000000:=⟨_,rfl⟩
noncomputable def DM : Nat:=A8q.choose
theorem Q6 : DM = 990000000:=A8q.choose_spec
theorem K5 : BIG = 1099511627520:=rfl
structure Pok (p : List Rat) : Prop where
 len : p.length ≤ 32
 nz : trN p ≠ 0
 le : trN p ≤ 25
 sz : ∃ S,S ≤ 1000 ∧ Czl p S ∧ 16 * ((S + 6) * C9 (trN p)) + 1000 ≤ BIG
 g : Czl (C8 p (D2 p)) 200
 f : Czl (B4 p) 200
 fl : (B4 p).length ≤ 15
theorem A6J : A1h fun r=>r:=fun _ _ h=>h
theorem A0x : A1h shL:=fun _ _ h=>B2x h
section
variable {p : List Rat}
theorem Pok.qsB (h : Pok p) : ∀ x ∈ p,qs x ≤ BIG:=fun x hx=>by
 obtain ⟨S,h1,h2,h3⟩:=h.sz
 have : BIG = 1099511627520:=rfl
 have := G9 h2 x hx
 omega
theorem Pok.ref (h : Pok p) : S5 p = 0:=by
 unfold S5
 rw [if_neg h.nz,if_neg (by have := h.le;omega)]
theorem Pok.free (h : Pok p) : I3 95 p (B4 p):=by
 obtain ⟨S,h1,h2,h3⟩:=h.sz
 have e : BIG = 1099511627520:=rfl
 exact B17 h2 h.nz (Nat.le_refl _) h.len h.g h3 (by omega)
theorem Pok.mon (h : Pok p) : Mon (B4 p):=(A4e h.nz).choose_spec.choose_spec.2
theorem Pok.part (h : Pok p) : ∃ d e,Part p (B4 p) d e:=by
 obtain ⟨d,e,h1,-⟩:=A4e h.nz
 exact ⟨d,e,h1⟩
theorem Pok.sqf (h : Pok p) : Sqf (B4 p):=by
 obtain ⟨d,e,h1⟩:=h.part
 exact h1.sqf
theorem B0w : 206 * C9 15 ≤ ZC:=by rw [A1P];decide
theorem Pok.chz {sh : List Rat → List Rat} (hs : Shape sh) (hz : A1h sh) (h : Pok p) : ChZ sh (B4 p) ZC:=by
 have h1:=B4A hs hz h.f h.mon.tr h.mon.1 (by have := h.fl;omega) (n:=15) h.fl
 have h2:=B0w
 have h3 : (200 + 6) * C9 15 ≤ ZC:=h2
 exact ⟨h1.len,h1.kle,fun i hi=>⟨(h1.el i hi).1.mono h3,(h1.el i hi).2.mono h3⟩,fun i hi=>by
  obtain ⟨a,b,c,d⟩:=h1.dv i hi
  exact ⟨a.mono h3,b.mono h3,A12 c (by omega),d⟩⟩
theorem Pok.callC_id (h : Pok p) : A2x 72 p (chL (fun r=>r) p) (cK (fun r=>r) (B4 p) + 1) :=
 A7Y (enters_of Tryz.func72 (by kernel_rfl) rfl) A0u h.free h.mon (by have := h.fl;omega) (h.chz A0u A6J) (by rw [A1P,K5];omega) fun r _ _=>B1v r
theorem Pok.callC_sh (h : Pok p) : A2x 114 p (chL shL p) (cK shL (B4 p) + 1) :=
 A7Y (enters_of Tryz.func114 (by kernel_rfl) rfl) Y0 h.free h.mon (by have := h.fl;omega) (h.chz Y0 A0x) (by rw [A1P,K5];omega) fun r hr hq=>B50 hr ZC hq (by rw [A1P,K5];omega)
theorem Pok.signs (h : Pok p) : A3y 48 p (chL shL p) (cK shL (B4 p) + 1):=B5q h.callC_sh
theorem Pok.chain (h : Pok p) : A3y 22 p (chL (fun r=>r) p) (cK (fun r=>r) (B4 p) + 1):=B21 h.ref (by have := h.len;omega) h.qsB h.callC_id
theorem B47 {sh : List Rat → List Rat} {q : List Rat} (hq : q ∈ chL sh p) : ∃ i,i ≤ cK sh (B4 p) ∧ q = cC sh (B4 p) i:=by
 unfold chL at hq
 obtain ⟨i,hi,e⟩:=List.mem_map.1 hq
 exact ⟨i,by have := List.mem_range.1 hi;omega,e.symm⟩
theorem A4K {sh : List Rat → List Rat} : (chL sh p).length = cK sh (B4 p) + 1:=by unfold chL;simp
theorem Pok.kle {sh : List Rat → List Rat} (hs : Shape sh) (hz : A1h sh) (h : Pok p) : cK sh (B4 p) ≤ 15:=Nat.le_trans (h.chz hs hz).kle h.fl
theorem Pok.at {sh : List Rat → List Rat} (hs : Shape sh) (hz : A1h sh) (h : Pok p) {x : Rat} (hx : Xz x DM) : ∀ q ∈ chL sh p,T3 q x:=fun q hq=>by
 obtain ⟨i,hi,rfl⟩:=B47 hq
 have hc:=h.chz hs hz
 exact A4M (hc.el i hi).1 hx (Nat.le_trans (hc.len i (by omega)) h.fl) (by omega) (by rw [A1P,Q6,K5];omega)
theorem A5N {a : Rat} (h : 0 < a) : 0 < a.num:=by
 have h1:=Rat.num_nonneg.2 (Rat.le_of_lt h)
 have h2 : a.num ≠ 0:=fun e=>by
  rw [Rat.num_eq_zero.1 e] at h
  exact absurd h (by decide)
 omega
theorem A4O (l : List Rat) (x : Rat) : sgQ l x = sgr (pv l x):=by
 unfold sgQ
 rw [B6I]
 generalize pv l x = a
 rcases R9 a with h | h | h
 ·rw [h];exact Int.sign_eq_one_of_pos (A5N (N2.1 h))
 ·rw [h];exact Int.sign_eq_neg_one_of_neg (by
  have h2:=A5N (show 0 < -a by have := N4.1 h;grind)
  rw [Rat.neg_num] at h2
  omega)
 ·rw [h,N1.1 h];rfl
theorem B0H {s s' : Nat → Int} : ∀ n,(∀ i,i < n → s i = s' i) → E2 s n = E2 s' n
 | 0,_=>rfl
 | n + 1,h=>by rw [E2,E2,B0H n (fun i hi=>h i (by omega)),h n (by omega)]
theorem B1E (sh : List Rat → List Rat) (x : Rat) : Y1 (chL sh p) x = chV (cC sh (B4 p)) (cK sh (B4 p)) x:=by
 unfold Y1 chV
 rw [A4K,B0H _ fun i hi=>?_]
 show sgQ (Q9 (chL sh p) i) x = _
 rw [A4O]
 unfold Q9 chL
 rw [List.getElem?_map,List.getElem?_range hi]
 rfl
end
def Stk (V : Rat → Nat) (P : Nat → Rat → Rat → Prop) (d : Nat) : List (Rat × Rat) → Prop
 | []=>True
 | s :: r=>(∃ e,e + r.length ≤ d ∧ Y6 V e s.1 s.2 ∧ P e s.1 s.2) ∧ Stk V P d r
theorem A9b {V : Rat → Nat} {P : Nat → Rat → Rat → Prop} {d : Nat} {lo hi : Rat} (h : Y6 V d lo hi) (h0 : P d lo hi) (hP : ∀ e a b,P (e + 1) a b → P e a (D6 a b) ∧ P e (D6 a b) b) : ∀ n,Stk V P d (F7 V ([(lo,hi)],[]) n).1
 | 0=>⟨⟨d,by simp,h,h0⟩,trivial⟩
 | n + 1=>by
  have ih:=A9b h h0 hP n
  rw [F7]
  generalize F7 V ([(lo,hi)],[]) n = S at *
  obtain ⟨st,o⟩:=S
  cases st with
  | nil=>trivial
  | cons t r =>
   obtain ⟨a,b⟩:=t
   rw [X6]
   obtain ⟨⟨e,he,hok,hp⟩,hr⟩:=ih
   split
   ·exact hr
   ·rename_i n0
    split
    ·exact hr
    ·rename_i n1
     cases e with
     | zero=>rcases hok with h | h;exact absurd h n0;exact absurd h n1
     | succ e =>
      rcases hok with h | h | ⟨hl,hrr⟩
      ·exact absurd h n0
      ·exact absurd h n1
      ·have h2:=hP e a b hp
       refine ⟨⟨e,?_,hl,h2.1⟩,⟨e,by omega,hrr,h2.2⟩,hr⟩
       simp only [List.length_cons];omega
def sV (p : List Rat) (x : Rat) : Nat:=Y1 (chL shL p) x
theorem A8M : ∃ n : Nat,n = 1100:=⟨_,rfl⟩
noncomputable def RH : Nat:=A8M.choose
theorem A0d : RH = 1100:=A8M.choose_spec
theorem A7z : ∃ n : Nat,n = 970000000:=⟨_,rfl⟩
noncomputable def DEP : Nat:=A7z.choose
theorem A5Y : DEP = 970000000:=A7z.choose_spec
theorem A6k : ∃ n : Nat,n = DEP + RH + 3:=⟨_,rfl⟩
noncomputable def DD : Nat:=A6k.choose
theorem A20 : DD = DEP + RH + 3:=A6k.choose_spec
theorem B2C : ZC + 16 * (ZC + 16 * (RH + 1) + 1) + 205 + 15 * (RH + 2) ≤ DEP:=by rw [A1P,A0d,A5Y];omega
section
variable {p : List Rat}
theorem Pok.st (h : Pok p) : Sturm (cC shL (B4 p)) (cK shL (B4 p)):=A58 Y0 h.mon.tr h.sqf
theorem A15 (x : Rat) : sV p x = chV (cC shL (B4 p)) (cK shL (B4 p)) x:=B1E shL x
theorem A63 (h : Pok p) {a b : Rat} (hab : a ≤ b) : sV p b ≤ sV p a:=by rw [A15,A15];exact A36 h.st hab
theorem A8I (h : Pok p) (x : Rat) : sV p x ≤ 1000:=by
 have h1:=A6P (chL shL p) x
 rw [A4K] at h1
 have h2:=h.kle Y0 A0x
 unfold sV;omega
theorem B27 (h : Pok p) {a b : Rat} (ha : mg a ≤ p2 RH) (hb : mg b ≤ p2 RH) (hab : a < b) (hd : (b - a) * p2 DEP < 1) : sV p a ≤ sV p b + 1:=by
 have hz:=h.chz A0u A6J
 have hsep:=B3Z (f:=B4 p) (Z:=ZC) (n:=16) (ρ:=RH) h.mon.tr h.sqf (by have := h.kle A0u A6J;omega) (fun i hi=>⟨(hz.dv i hi).1,by have := (hz.dv i hi).2.2.2;have := h.fl;omega⟩) (hz.el _ (Nat.le_refl _)).1
 have hd' : (b - a) * p2 (ZC + 16 * (ZC + 16 * (RH + 1) + 1) + 205 + 15 * (RH + 2)) < 1:=by
  have h1:=Z0 B2C
  have h2:=Rat.mul_le_mul_of_nonneg_left h1 (show 0 ≤ b - a by grind)
  grind
 have hs:=B3z (f:=B4 p) (E:=ZC + 16 * (ZC + 16 * (RH + 1) + 1)) (Z:=205) (ρ:=RH) (n:=15) (a:=a) (b:=b) (h.f.mono (by omega)) (A30 (Y:=5) h.f (by have := h.fl;omega)) hsep h.fl ha hb hab hd'
 rw [A15,A15]
 rcases hs with ⟨t,ht⟩ | ⟨t,ht⟩
 ·have ht : Cn (cC shL (B4 p) 0) a b t:=by rw [A0O];exact ht
  have := B2V h.st hab ht
  omega
 ·have ht : Mn (cC shL (B4 p) 0) a b t:=by rw [A0O];exact ht
  exact B5Z h.st hab ht
theorem A5D (h : Pok p) {lo hi : Rat} (h1 : mg lo ≤ p2 RH) (h2 : mg hi ≤ p2 RH) (hlt : lo < hi) : Y6 (sV p) DD lo hi:=by
 have hP:=O2 (DEP + 1)
 have e : 1 / p2 (DEP + 1) * p2 (DEP + 1) = 1:=Rat.div_mul_cancel (by grind)
 refine A4z (A:=lo) (B:=hi) (δ:=1 / p2 (DEP + 1)) (fun a b _ hab _=>A63 h (Rat.le_of_lt hab)) (fun a b ha hab hb hd=>?_) DD lo hi Rat.le_refl hlt Rat.le_refl ?_
 ·refine B27 h (P3 h1 h2 ha (by grind)) (P3 h1 h2 (by grind) hb) hab ?_
  have h3:=Rat.mul_le_mul_of_nonneg_right hd (Rat.le_of_lt hP)
  rw [e,M0,A0F] at h3
  have h4:=Rat.mul_pos (show 0 < b - a by grind) (O2 DEP)
  generalize p2 DEP = X at *
  grind
 ·have h3 : (2 : Rat) ^ DD = p2 (DEP + 1) * p2 (RH + 2):=by
   have h4:=A54 1 DD
   rw [A0F,Nat.mul_one] at h4
   rw [h4,← M0,show DEP + 1 + (RH + 2) = DD by rw [A20];omega]
  rw [h3,← Rat.mul_assoc,e,M0]
  rw [A0n] at h1 h2
  have h5 : p2 2 = 4:=rfl
  rw [h5]
  have h6:=O2 RH
  generalize p2 RH = X at *
  grind
theorem Xz.mg {x : Rat} {D : Nat} (h : Xz x D) : Go.Proofs.YtlkniebmjdoopaaGreatDoor.mg x ≤ p2 D:=by
 obtain ⟨u,v,v0,h1,h2,h3⟩:=h
 have h4:=A1L h1
 rw [← h3,A0E] at h4
 have h5:=Rat.mul_le_mul_of_nonneg_left (A1Y v0) (I2 x)
 grind
noncomputable def isoP (p : List Rat) (lo hi : Rat) : List (Rat × Rat):=O4 (sV p) DD lo hi
theorem B2l (h : Pok p) {lo hi : Rat} (hs : Spn lo hi RH) (hlt : lo < hi) : F7 (sV p) ([(lo,hi)],[]) (Z2 (sV p) DD lo hi) = ([],isoP p lo hi):=by
 have := A6R (sV p) DD lo hi (A5D h hs.lo.mg hs.hi.mg hlt) [] []
 rw [this];rfl
theorem B2M (h : Pok p) {lo hi : Rat} (hs : Spn lo hi RH) (hlt : lo < hi) (n : Nat) : Stk (sV p) (fun e a b=>Spn a b (RH + DD - e)) DD (F7 (sV p) ([(lo,hi)],[]) n).1:=by
 have h0:=A9b (P:=fun e a b=>e ≤ DD ∧ Spn a b (RH + DD - e)) (A5D h hs.lo.mg hs.hi.mg hlt) ⟨Nat.le_refl _,hs.mono (by omega)⟩ (fun e a b ⟨he,hp⟩=>by
  obtain ⟨h1,h2⟩:=hp.mid
  exact ⟨⟨by omega,h1.mono (by omega)⟩,by omega,h2.mono (by omega)⟩) n
 generalize (F7 (sV p) ([(lo,hi)],[]) n).1 = st at *
 induction st with
 | nil=>trivial
 | cons s r ih =>
  obtain ⟨⟨e,h1,h2,h3⟩,h4⟩:=h0
  exact ⟨⟨e,h1,h2,h3.2⟩,ih h4⟩
theorem A3u : RH + DD + 2 ≤ DM:=by rw [A20,Q6,A0d,A5Y];omega
theorem Pok.turns (h : Pok p) {x : Rat} (hx : Xz x DM) (A : Option Addr) (c : Nat) (W : World) (hr : RW (chL shL p) A W) (hT : Tab W) : F9 112 #[.slice A (cK shL (B4 p) + 1) c,qV x] W (sV p x : Nat) :=
 A4l A c _ (chL shL p) A4K (by have := h.kle Y0 A0x;omega) x (h.at Y0 A0x hx) W hr hT
theorem Pok.inside (h : Pok p) {lo hi : Rat} (h1 : Xz lo DM) (h2 : Xz hi DM) (A : Option Addr) (c : Nat) (W : World) (hr : RW (chL shL p) A W) (hT : Tab W) : F9 55 #[.slice A (cK shL (B4 p) + 1) c,spV lo hi] W (J7 (chL shL p) lo hi) :=
 B3l A c _ (chL shL p) A4K (by have := h.kle Y0 A0x;omega) lo hi (by have := h1.qs;have := h2.qs;have := Q6;have := K5;omega) (fun _=>h.at Y0 A0x h1) (fun _=>h.at Y0 A0x h2) W hr hT
theorem Pok.refuse (h : Pok p) (A : Option Addr) (c : Nat) (w : World) (hp : PR p (A,c) w) : F9 50 #[.slice A p.length c] w 0:=by
 have := A3M A p p.length c rfl hp.2.1 (by have := h.len;omega) h.qsB w hp.1
 rw [h.ref] at this
 exact this
theorem Pok.count (h : Pok p) {lo hi : Rat} (h1 : Xz lo DM) (h2 : Xz hi DM) (hle : lo ≤ hi) (A : Option Addr) (c : Nat) (w : World) (hp : PR p (A,c) w) (HT : Tab w) : F5 14 #[.slice A p.length c,qV lo,qV hi] w (.tuple #[.int .i64 (J7 (chL shL p) lo hi),.int .i64 0]) :=
 B6b A c p.length _ (chL shL p) lo hi (K6 lo hi) _ (by unfold K6;split;omega;rw [if_neg (by grind)];omega) w HT (fun W hg=>h.refuse A c W (hp.grow hg)) (fun W=>A2S _ _ W (by have := h1.qs;have := h2.qs;have := Q6;have := K5;omega)) (fun W hg=>h.signs W A c (hp.grow hg) (HT.grow hg)) (fun W y hr hT=>h.inside h1 h2 y.1 y.2 W hr hT)
theorem Pok.bound (h : Pok p) (A : Option Addr) (c : Nat) (w : World) (hp : PR p (A,c) w) (HT : Tab w) : F5 13 #[.slice A p.length c] w (.tuple #[qV (H7 p),.int .i64 0]):=by
 obtain ⟨S,h1,h2,h3⟩:=h.sz
 exact B3r A c p.length p rfl (by have := h.len;omega) (S + 1) (by omega) (fun x hx=>Nat.le_trans (G9 h2 x hx) (by omega)) (by have := K5;omega) h.ref w hp HT
theorem A42 (p : List Rat) : 0 < H7 p:=by
 have key : ∀ (f : Nat → Rat) n,0 ≤ N3 f n:=fun f n=>by
  induction n with
  | zero=>exact Rat.le_refl
  | succ n ih =>
   unfold N3 A0b
   split
   ·rw [A05];exact I2 _
   ·exact ih
 have := key (J4 p) (trN p - 1)
 unfold H7
 show 0 < N3 _ _ + 1
 grind
theorem B31 {S : Nat} (hp : Czl p S) (h0 : trN p ≠ 0) : Xz (H7 p) (S + 1):=by
 obtain ⟨d,d0,dz,hd⟩:=hp
 obtain ⟨B,hB,hBz⟩:=hd (trN p - 1)
 have ht:=X8 h0
 have hB : C1 p * (d : Rat) = (B : Rat):=hB
 have hB0 : B ≠ 0:=fun e1=>by
  rw [e1] at hB
  rcases Rat.mul_eq_zero.1 (hB.trans rfl) with h | h
  ·exact ht h
  ·exact X5 d0 h
 have hf : ∀ i,∃ m : Int,H6 (J4 p i) * (B : Rat) = (m : Rat) ∧ m.natAbs < 2 ^ S:=fun i=>by
  obtain ⟨M,hM,hMz⟩:=hd i
  have h1 : J4 p i * (B : Rat) = (M : Rat):=by
   rw [← hB,← hM]
   show gq p i / C1 p * (C1 p * (d : Rat)) = _
   have : gq p i / C1 p * C1 p = gq p i:=Rat.div_mul_cancel ht
   rw [← Rat.mul_assoc,this]
  rw [A05]
  unfold mg
  split
  ·exact ⟨M,h1,hMz⟩
  ·exact ⟨-M,by rw [Rat.intCast_neg,← h1];grind,by rw [Int.natAbs_neg];exact hMz⟩
 have key : ∀ n,∃ m : Int,N3 (J4 p) n * (B : Rat) = (m : Rat) ∧ m.natAbs < 2 ^ S:=by
  intro n
  induction n with
  | zero=>exact ⟨0,by show (0 : Rat) * _ = _;rw [Rat.intCast_zero];grind,Nat.two_pow_pos _⟩
  | succ n ih =>
   unfold N3 A0b
   split
   ·exact hf n
   ·exact ih
 obtain ⟨m,hm,hmz⟩:=key (trN p - 1)
 refine ⟨m + B,B,hB0,?_,A0G hBz (by omega),?_⟩
 ·have := A6Q hmz hBz
  omega
 ·unfold H7
  show (N3 _ _ + 1) * (B : Rat) = _
  rw [Rat.intCast_add,← hm];grind
theorem Xz.neg {x : Rat} {D : Nat} (h : Xz x D) : Xz (-x) D:=by
 obtain ⟨u,v,h0,h1,h2,h3⟩:=h
 exact ⟨-u,v,h0,by rw [Int.natAbs_neg];exact h1,h2,by rw [Rat.intCast_neg,← h3];grind⟩
theorem B5H {x : Rat} {D : Nat} (h : Xz x D) : Spn (-x) x D:=by
 obtain ⟨u,v,h0,h1,h2,h3⟩:=h
 exact ⟨v,-u,u,h0,h2,by rw [Int.natAbs_neg];exact h1,h1,by rw [Rat.intCast_neg,← h3];grind,h3⟩
noncomputable def rootsP (p : List Rat) : List (Rat × Rat):=isoP p (-H7 p) (H7 p)
theorem Pok.bxz (h : Pok p) : Xz (H7 p) RH:=by
 obtain ⟨S,h1,h2,-⟩:=h.sz
 exact (B31 h2 h.nz).mono (by rw [A0d];omega)
theorem Pok.iok (h : Pok p) : Y6 (sV p) DD (-H7 p) (H7 p):=A5D h h.bxz.neg.mg h.bxz.mg (by have := A42 p;grind)
theorem Pok.rootsL (h : Pok p) : (rootsP p).length + sV p (H7 p) = sV p (-H7 p) ∧ (∀ s ∈ rootsP p,sV p s.1 = sV p s.2 + 1 ∧ -H7 p ≤ s.1 ∧ s.1 < s.2 ∧ s.2 ≤ H7 p) ∧ A0l (-H7 p) (rootsP p) :=
 B4e (A:=-H7 p) (B:=H7 p) (fun a b _ hab _=>A63 h (Rat.le_of_lt hab)) DD _ _ Rat.le_refl (by have := A42 p;grind) Rat.le_refl h.iok
theorem Pok.roots (h : Pok p) (A : Option Addr) (c : Nat) (w : World) (hp : PR p (A,c) w) (HT : Tab w) : Calls Tryz.prog 10 #[.slice A p.length c] w (A6V (rootsP p) w):=by
 have hlt : -H7 p < H7 p:=by have := A42 p;grind
 have hsp:=B5H h.bxz
 have e1:=Q6
 have e2:=K5
 have e3:=A3u
 refine B16 A c p.length _ (chL shL p) (sV p) (H7 p) _ (DD + 2) (rootsP p) w HT (fun W hg=>h.bound A c W (hp.grow hg) (HT.grow hg)) (fun W hg=>h.signs W A c (hp.grow hg) (HT.grow hg)) (fun W=>?_) (A8I h) (fun A c W hr hT=>h.turns (h.bxz.neg.mono (by omega)) A c W hr hT) (fun A c W hr hT=>h.turns (h.bxz.mono (by omega)) A c W hr hT) (fun k s r o hk=>?_) (by omega) ?_ (B2l h hsp hlt)
 ·refine A95 (H7 p) ?_ W
  have := h.bxz.qs
  have h9 : bl (H7 p).num.natAbs ≤ qs (H7 p):=by unfold qs;omega
  have e4:=A0d
  omega
 ·have hs:=B2M h hsp hlt k
  rw [hk] at hs
  obtain ⟨⟨e,h1,h2,h3⟩,-⟩:=hs
  refine ⟨by omega,fun n0 n1=>?_⟩
  have hm:=h3.mid.1
  have hz1 : qs s.1 ≤ DM:=Nat.le_trans h3.lo.qs (by omega)
  have hz2 : qs s.2 ≤ DM:=Nat.le_trans h3.hi.qs (by omega)
  refine ⟨fun W hT=>A8K s.1 s.2 DM hz1 hz2 (by omega) W hT,fun A c W hr hT=>h.turns (hm.hi.mono (by omega)) A c W hr hT⟩
 ·have h1:=h.rootsL.1
  have h2:=A8I h (-H7 p)
  omega
end
end Go.Proofs.YtlkniebmjdoopaaGreatDoor
namespace Go.Proofs.YtlkniebmjdoopaaGreatDoor
end Go.Proofs.YtlkniebmjdoopaaGreatDoor
namespace Go.Proofs.YtlkniebmjdoopaaGreatDoor
open Go Go.RowKit
theorem H4.row {u u' : World} {ps : List Zr} {B size n cap g i : Nat} {xs vs : List Value} (hl : H4 u ps) (h : u.ownsRow B 66 size (.slice (some ⟨g,0,none⟩) n cap) n xs) (hu : E9 u g i vs = u') : H4 u' ps:=by
 obtain ⟨h0,h1 | ⟨g',cap',cur,e1,hb,hh,-⟩⟩:=h
 ·exact absurd h1.1 (by simp)
 ·obtain rfl : g = g':=by cases e1;rfl
  exact hl.put (bl:=[(g,66,cur)]) (Bx.cons hh (Bx.nil u)) 0 rfl (by decide) i vs hu
def ZW (B g c N : Nat) (l : List Rat) (W : World) : Prop:=∃ ps : List Zr,ps.map (·.2) = l ∧ H4 W ps ∧ W.ownsRow B 66 3 (.slice (some ⟨g,0,none⟩) N c) N (ps.flatMap zrL)
section
variable {B B' g c N : Nat} {l : List Rat} {u w' : World}
theorem ZW.len (h : ZW B g c N l u) : l.length = N:=by
 obtain ⟨ps,h1,h2,h3⟩:=h
 obtain ⟨A,c',e,-,-,-,hk⟩:=A2u h3 h2
 rw [← h1,List.length_map,hk]
theorem ZW.grow (h : ZW B g c N l u) (hg : A3 u w') : ZW B g c N l w':=by
 obtain ⟨ps,h1,h2,h3⟩:=h
 exact ⟨ps,h1,h2.grow hg,F3 h3 hg⟩
theorem ZW.mono (h : ZW B g c N l u) (hb : B' ≤ B) : ZW B' g c N l u:=by
 obtain ⟨ps,h1,h2,h3⟩:=h
 exact ⟨ps,h1,h2,h3.mono hb⟩
theorem ZW.lt (h : ZW B g c N l u) : B ≤ g ∧ g < u.heap.size:=by
 obtain ⟨ps,h1,h2,h3⟩:=h
 exact h3.lt g rfl
theorem ZW.put (h : ZW B g c N l u) {i : Nat} (hi : i < N) {p : Az} {q : Rat} (hp : Rz u p q) (hu : E9 u g (i * 3) (zL p q) = w') : ZW B g c N (l.set i q) w' ∧ u.grownBy w' (some g):=by
 obtain ⟨ps,h1,h2,h3⟩:=h
 obtain ⟨A,c',e,-,-,-,hk⟩:=A2u h3 h2
 have hP:=A1J (enc:=zrL) (size:=3) (ps:=ps) (fun _=>rfl) h3 i (p,q) (by omega)
 rw [show E9 u g (i * 3) (zrL (p,q)) = w' from hu] at hP
 have hA : H4 u (ps ++ [(p,q)]):=fun r hr=>by
  rcases List.mem_append.1 hr with hr | hr
  ·exact h2 r hr
  ·rw [List.mem_singleton] at hr
   rw [hr]
   exact hp
 have hA2:=H4.row hA h3 hu
 refine ⟨⟨ps.set i (p,q),by rw [List.map_set,h1],fun r hr=>?_,hP.1⟩,hP.2⟩
 rcases List.mem_or_eq_of_mem_set hr with hr | hr
 ·exact hA2 r (List.mem_append.2 (.inl hr))
 ·rw [hr]
  exact hA2 _ (by simp)
theorem ZW.other (h : ZW B g c N l u) {g2 : Nat} {B2 e size n : Nat} {c2 : Nat} {xs : List Value} (h2 : u.ownsRow B2 e size (.slice (some ⟨g2,0,none⟩) n c2) n xs) (hne : g2 ≠ g) (he : e ≠ 176) (hg : u.grownBy w' (some g2)) : ZW B g c N l w':=by
 obtain ⟨ps,h1,h3,h4⟩:=h
 exact ⟨ps,h1,B0y h3 h2 he hg,h4.kept hg (.inr (fun e=>hne (Option.some.inj e).symm))⟩
theorem ZW.own (h : ZW B g c N l u) : ∃ xs,u.ownsRow B 66 3 (.slice (some ⟨g,0,none⟩) N c) N xs:=by
 obtain ⟨ps,h1,h3,h4⟩:=h
 exact ⟨_,h4⟩
end
theorem ZW.lz {B g c N : Nat} {l : List Rat} {W : World} (h : ZW B g c N l W) : Lz W (some ⟨g,0,none⟩) l:=by
 obtain ⟨ps,h1,h2,h3⟩:=h
 obtain ⟨A,c',e,-,-,h4,-⟩:=A2u h3 h2
 cases e
 rw [← h1]
 exact h4
theorem ZW.read {B g c N : Nat} {l : List Rat} {W : World} (h : ZW B g c N l W) {i : Nat} (hi : i < N) : ∃ p : Az,∀ V,A3 W V → Rz V p (gq l i) ∧ Cz V g (i * 3) p (gq l i):=by
 have := h.lz.read (i:=i) (by rw [h.len];exact hi)
 simpa only [Nat.zero_add] using this
def OZ (B : Nat) (x : Ax) (l : List Rat) (W : World) : Prop:=∃ ps : List Zr,ps.map (·.2) = l ∧ H4 W ps ∧ W.ownsRow B 66 3 (.slice x.1 l.length x.2) l.length (ps.flatMap zrL)
section
variable {B B' : Nat} {x : Ax} {l : List Rat} {u v : World}
theorem OZ.grow (h : OZ B x l u) (hg : A3 u v) : OZ B x l v:=by
 obtain ⟨ps,h1,h2,h3⟩:=h
 exact ⟨ps,h1,h2.grow hg,F3 h3 hg⟩
theorem OZ.mono (h : OZ B x l u) (hb : B' ≤ B) : OZ B' x l u:=by
 obtain ⟨ps,h1,h2,h3⟩:=h
 exact ⟨ps,h1,h2,World.ownsRow.mono h3 hb⟩
theorem OZ.lz (h : OZ B x l u) : Lz u x.1 l:=by
 obtain ⟨ps,h1,h2,h3⟩:=h
 obtain ⟨A,c',e,-,-,h4,-⟩:=A2u h3 h2
 cases e
 rw [← h1]
 exact h4
theorem OZ.cap (h : OZ B x l u) : l.length ≤ x.2:=by
 obtain ⟨ps,h1,h2,h3,h4 | ⟨g,cap,cur,e,hb,hh,hn,-⟩⟩:=h
 ·rw [h4.2];exact Nat.zero_le _
 ·injection e with _ _ e
  rw [e];exact hn
theorem OZ.nil (B : Nat) (u : World) : OZ B (none,0) [] u:=⟨[],rfl,H4.nil u,rfl,.inl ⟨rfl,rfl⟩⟩
end
theorem A5E {x : Rat} {D : Nat} (h : qs x ≤ D) : Xz x D:=by
 unfold qs at h
 have h0 : ((x.den : Int)) ≠ 0:=by have := x.den_nz;omega
 refine ⟨x.num,x.den,h0,J9.1 (by omega),by rw [Int.natAbs_natCast];exact J9.1 (by omega),?_⟩
 have h1 : x = (x.num : Rat) / ((x.den : Int) : Rat):=by
  have h2:=Rat.mkRat_self x
  rw [Rat.mkRat_eq_div] at h2
  exact h2.symm
 have h3 : (x.num : Rat) / ((x.den : Int) : Rat) * ((x.den : Int) : Rat) = (x.num : Rat):=Rat.div_mul_cancel (X5 h0)
 rw [← h1] at h3
 exact h3
theorem A55 {p : List Rat} {S : Nat} (hS : S ≤ 200) (h : Czl p S) (hs : Sm p 200) (hl : p.length ≤ 32) (hn : trN p ≤ 15) : Pok p:=by
 have h0:=P0.1 hs.1
 obtain ⟨d,e,hp,hm⟩:=A4e h0
 have hd : Dv (B4 p) p:=⟨d,hp.eq⟩
 refine ⟨hl,h0,by omega,⟨S,by omega,h,?_⟩,hs.2 _ (A4F _ h0) (A4E p (D2 p)).1,hs.2 _ hm hd,Nat.le_trans (hd.len hm hs.1) hn⟩
 have h1:=Nat.mul_le_mul (show S + 6 ≤ 206 by omega) (A0p hn)
 have h2 : 206 * C9 15 = 56816242:=by decide
 rw [K5];omega
end Go.Proofs.YtlkniebmjdoopaaGreatDoor
namespace Go.Proofs.YtlkniebmjdoopaaGreatDoor
open Go.RowKit
end Go.Proofs.YtlkniebmjdoopaaGreatDoor
namespace Go.Proofs.YtlkniebmjdoopaaGreatDoor
open Go Go.RowKit
theorem B4Y {u : World} {B b m size : Nat} {T : TypeId} {xs : List Value} (h : Blk u b T xs.toArray) (hb : B ≤ b) (hl : xs.length = m * size) (hm : m ≤ 1000000) : u.ownsRow B T size (.slice (some ⟨b,0,none⟩) m m) m xs:=by
 refine ⟨hl,.inr ⟨b,m,_,rfl,hb,h,Nat.le_refl _,by unfold maxLen;omega,by simpa using hl,?_⟩⟩
 rw [← hl];simp
def kP : List Rat:=[A8 (-2),A8 0,A8 1]
theorem A3b : Czl kP 2:=⟨1,by omega,by decide,fun i=>by
 match i with
 | 0=>exact ⟨-2,by kernel_rfl,by decide⟩
 | 1=>exact ⟨0,by kernel_rfl,by decide⟩
 | 2=>exact ⟨1,by kernel_rfl,by decide⟩
 | i + 3=>exact ⟨0,by rw [O9 (by unfold kP;simp),Rat.intCast_zero];grind,by decide⟩⟩
theorem A1p : trN kP = 3:=by kernel_rfl
theorem V3 : Pok kP:=by
 have hn : Nz kP:=P0.2 (by rw [A1p];omega)
 have hs:=A9n A3b hn (by rw [A1p];omega) (by omega)
 exact A55 (S:=2) (by omega) A3b ⟨hn,fun f hf hd=>(hs.2 f hf hd).mono (by omega)⟩ (by unfold kP;simp) (by rw [A1p];omega)
theorem B4L : J7 (chL shL kP) (A8 0) (A8 2) = 1:=by kernel_rfl
theorem B1K : H7 kP = B5 3 1:=by kernel_rfl
theorem B4r : sV kP (B5 (-3) 1) = 2 ∧ sV kP (B5 0 1) = 1 ∧ sV kP (B5 3 1) = 0:=by
 unfold sV
 exact ⟨by kernel_rfl,by kernel_rfl,by kernel_rfl⟩
theorem B4t : rootsP kP = [(B5 (-3) 1,B5 0 1),(B5 0 1,B5 3 1)]:=by
 obtain ⟨v1,v2,v3⟩:=B4r
 unfold rootsP isoP
 rw [B1K,show -(B5 3 1) = B5 (-3) 1 by kernel_rfl]
 obtain ⟨d,hd⟩ : ∃ d,DD = d + 1:=⟨DEP + RH + 2,by rw [A20]⟩
 have hm : D6 (B5 (-3) 1) (B5 3 1) = B5 0 1:=by kernel_rfl
 have one : ∀ d a b,sV kP a = sV kP b + 1 → O4 (sV kP) d a b = [(a,b)]:=fun d a b h=>by
  cases d with
  | zero=>rw [O4,if_neg (by omega)]
  | succ d=>rw [O4,if_neg (by omega),if_pos h]
 rw [hd,O4,if_neg (by omega),if_neg (by omega),hm,one _ _ _ (by omega),one _ _ _ (by omega)]
 rfl
theorem B0A {u : World} {B : Nat} {v : Value} {l : List Rat} (h : u.ownsRow B 39 5 v l.length (l.flatMap qL)) : ∃ x : Ax,v = .slice x.1 l.length x.2 ∧ PR l x u:=by
 obtain ⟨A,c,e,h1,h2,h3,-⟩:=Z8 h
 refine ⟨(A,c),e,h3,h1,fun a ha=>?_⟩
 have ha : A = some a:=ha
 subst e
 exact A2d h (by rw [ha];rfl)
theorem A6n (A : Option Addr) (l : List Rat) (c n : Nat) (hn : n = l.length) (hm : n ≤ 1048576) (hs : ∀ x ∈ l,qs x ≤ BIG) (w : World) (h : Lz w A l) (HT : Tab w) : Calls Tryz.prog 8 #[.slice A n c] w (I1 (fun x : Ax=>.slice x.1 n x.2) (fun x W=>PR l x W) w) :=
 (B1V A l c n hn hm hs w h HT).mono fun e w' ⟨v,g1,g2,g3⟩=>by
  subst hn
  obtain ⟨x,rfl,hx⟩:=B0A g2
  exact ⟨x,g1,hx,g3⟩
theorem A4A {u : World} {b : Nat} {ps : List Zr} (h : Blk u b 66 (ps.flatMap zrL).toArray) (hA : H4 u ps) (hm : ps.length ≤ 1000) : Lz u (some ⟨b,0,none⟩) (ps.map (·.2)):=by
 obtain ⟨A9,c9,e9,-,-,h9,-⟩:=A2u (B4Y (m:=ps.length) (size:=3) h (Nat.zero_le _) (by rw [A7a];omega) (by omega)) hA
 cases e9
 exact h9
theorem A4u {u : World} {p q r : Az} {a b c : Rat} (h1 : Rn u p.1 a.num.natAbs) (h2 : Rn u p.2 a.den) (h3 : Rn u q.1 b.num.natAbs) (h4 : Rn u q.2 b.den) (h5 : Rn u r.1 c.num.natAbs) (h6 : Rn u r.2 c.den) : H4 u [(p,a),(q,b),(r,c)]:=fun x hx=>by
 simp only [List.mem_cons,List.not_mem_nil,or_false] at hx
 rcases hx with rfl | rfl | rfl
 ·exact ⟨h1,h2⟩
 ·exact ⟨h3,h4⟩
 ·exact ⟨h5,h6⟩
def SW (L : List (Rat × Rat)) (x : Ax) (W : World) : Prop:=∃ B,W.ownsRow B 48 10 (.slice x.1 L.length x.2) L.length (L.flatMap spL)
theorem SW.grow {L : List (Rat × Rat)} {x : Ax} {u v : World} (h : SW L x u) (hg : A3 u v) : SW L x v:=by
 obtain ⟨B,h⟩:=h
 exact ⟨B,F3 h hg⟩
theorem SW.read {L : List (Rat × Rat)} {x : Ax} {u : World} (h : SW L x u) {i : Nat} {s : Rat × Rat} (hi : L[i]? = some s) : ∃ g,x.1 = some ⟨g,0,none⟩ ∧ ∀ W,A3 u W → Cq W g (i * 10) s.1 ∧ Cq W g (i * 10 + 5) s.2:=by
 obtain ⟨B,h⟩:=h
 have hlt : i < L.length:=(List.getElem?_eq_some_iff.1 hi).1
 obtain ⟨g,cap,e,-,-⟩:=A3E h (by omega)
 injection e with e1 e2 e3
 refine ⟨g,e1,fun W hg=>?_⟩
 have h2:=F3 h hg
 rw [e1,e3] at h2
 have hc : ∀ t,t < 10 → W.cell? ⟨g,i * 10 + t,none⟩ = (spL s)[t]?:=fun t ht=>by
  rw [h2.cellAt (i * 10 + t) (by omega)]
  have h3:=A7Q (enc:=spL) (size:=10) (fun _=>rfl) L i t hlt ht
  have h4:=(List.getElem?_eq_some_iff.1 hi).2
  rw [h4] at h3
  exact h3
 exact ⟨⟨hc 0 (by omega),hc 1 (by omega),hc 2 (by omega),hc 3 (by omega),hc 4 (by omega)⟩,hc 5 (by omega),hc 6 (by omega),hc 7 (by omega),hc 8 (by omega),hc 9 (by omega)⟩
theorem A6t {F : FuncId} {args : Array Value} {L : List (Rat × Rat)} {w : World} (h : Calls Tryz.prog F args w (A6V L w)) : Calls Tryz.prog F args w (I1 (fun x : Ax=>.tuple #[.slice x.1 L.length x.2,.int .i64 0]) (fun x W=>SW L x W) w) :=
 h.mono fun e w' ⟨v,g1,g2,g3⟩=>by
  obtain ⟨A,c,rfl⟩:=A6r g2
  exact ⟨(A,c),g1,⟨_,g2⟩,g3⟩
theorem B5J (w : World) (HT : Tab w) : Calls Tryz.prog 12 #[] w fun e w'=>e = .returned (.bool true) ∧ A3 w w':=by
 have hin:=fun W (x : Nat) (hz : Lz W (some ⟨x,0,none⟩) kP) (hT : Tab W)=>A6n (some ⟨x,0,none⟩) kP 3 3 rfl (by omega) (fun x hx=>Nat.le_trans (G9 A3b x hx) (by have := K5;omega)) W hz hT
 have hct:=fun W (x : Ax) (hp : PR kP x W) (hT : Tab W)=>V3.count (lo:=A8 0) (hi:=A8 2) (A5E (by have h9 : qs (A8 0) ≤ 2:=(by decide);have := Q6;omega)) (A5E (by have h9 : qs (A8 2) ≤ 2:=(by decide);have := Q6;omega)) (by decide) x.1 x.2 W hp hT
 rw [B4L] at hct
 have hrt:=fun W (x : Ax) (hp : PR kP x W) (hT : Tab W)=>A6t (V3.roots x.1 x.2 W hp hT)
 rw [B4t] at hrt
 have his : ∀ (n : Int),n = -3 ∨ n = 0 ∨ n = 3 → ∀ W,Calls Tryz.prog 43 #[qV (B5 n 1),.int .i64 n,.int .i64 1] W fun e w'=>e = .returned (.bool true) ∧ A3 W w':=fun n hn W=>A7r n 1 (by omega) (by omega) (by omega) (by omega) (by omega) (by rcases hn with rfl | rfl | rfl <;> decide) W
 have hkl : kP.length = 3:=rfl
 have hrl : [(B5 (-3) 1,B5 0 1),(B5 0 1,B5 3 1)].length = 2:=rfl
 rw [hkl] at hct hrt
 rw [hrl] at hrt
 have Hin:=Lib.hid hin
 have Hct:=Lib.hid hct
 have Hrt:=Lib.hid hrt
 have His:=Lib.hid his
 obtain ⟨Ls,hLs⟩ : ∃ L,L = [(B5 (-3) 1,B5 0 1),(B5 0 1,B5 3 1)]:=⟨_,rfl⟩
 rw [← hLs] at Hrt
 have h0 : Ls[0]? = some (B5 (-3) 1,B5 0 1):=by rw [hLs];rfl
 have h1 : Ls[1]? = some (B5 0 1,B5 3 1):=by rw [hLs];rfl
 have HLs:=Lib.hid (And.intro h0 h1)
 clear hin hct hrt his hkl hrl hLs h0 h1
 go_enter Tryz.func12,Tryz.ntmps12
 refine en0 ?_
 intro u hG hB hF
 refine wp_seq (rsE A5 [1,1,1,1,1,0] hB hG fun L hL=>?_)
 refine grd (L6 (A8 (-2))) (fun (x6 : Ax × Ax)=>?_) (C:=fun v _=>W8 (-2) (by omega) (by omega) _)
 refine grd (L6 (A8 0)) (fun (x7 : Ax × Ax)=>?_) (C:=by (rintro v ⟨⟨hgu,hB,hG,-⟩,hx6⟩;obtain ⟨hx6a,hx6b⟩ : Rn v x6.1 _ ∧ Rn v x6.2 _:=hx6;exact W8 0 (by omega) (by omega) _))
 refine grd (L6 (A8 1)) (fun (x8 : Ax × Ax)=>?_) (C:=by (rintro v ⟨⟨⟨hgu,hB,hG,-⟩,hx6⟩,hx7⟩;obtain ⟨hx6a,hx6b⟩ : Rn v x6.1 _ ∧ Rn v x6.2 _:=hx6;obtain ⟨hx7a,hx7b⟩ : Rn v x7.1 _ ∧ Rn v x7.2 _:=hx7;exact W8 1 (by omega) (by omega) _))
 refine gx Nat (fun b=>.slice (some ⟨b,0,none⟩) 3 3) (fun b W=>Blk W b 66 (([(x6,A8 (-2)),(x7,A8 0),(x8,A8 1)] : List Zr).flatMap zrL).toArray) (fun b u u' hg h=>h.grow hg) rfl ?_ (fun x9=>?_)
 ·(rintro v ⟨⟨⟨⟨hgu,hB,hG,-⟩,hx6⟩,hx7⟩,hx8⟩ N hN;go_simp;exact hN v.heap.size _ (Blk.new v 66 (([(x6,A8 (-2)),(x7,A8 0),(x8,A8 1)] : List Zr).flatMap zrL).toArray) (A3.alloc _ _))
 refine okf (by simp only [Act.put,List.setIfInBounds_toArray,List.set_cons_succ,List.set_cons_zero];exact rfl) ?_
 refine gxd (X:=Ax) (fun x : Ax=>.slice x.1 3 x.2) (fun x W=>PR kP x W) (fun x u u' hg h=>h.grow hg) (fun x10=>?_) (C:=by (rintro v ⟨⟨⟨⟨⟨hgu,hB,hG,-⟩,hx6⟩,hx7⟩,hx8⟩,hx9⟩;obtain ⟨hx6a,hx6b⟩ : Rn v x6.1 _ ∧ Rn v x6.2 _:=hx6;obtain ⟨hx7a,hx7b⟩ : Rn v x7.1 _ ∧ Rn v x7.2 _:=hx7;obtain ⟨hx8a,hx8b⟩ : Rn v x8.1 _ ∧ Rn v x8.2 _:=hx8;exact Hin.out _ x9 (A4A (ps:=[(x6,A8 (-2)),(x7,A8 0),(x8,A8 1)]) hx9 (A4u hx6a hx6b hx7a hx7b hx8a hx8b) (show (3 : Nat) ≤ 1000 by omega)) (HT.grow hG)))
 refine gs ?_
 refine geT hL ?_
 clear hB hG hL L
 rintro u ⟨⟨⟨⟨⟨⟨hgu,hB,hG,-⟩,hx6⟩,hx7⟩,hx8⟩,hx9⟩,hx10⟩
 obtain ⟨hx6a,hx6b⟩ : Rn u x6.1 _ ∧ Rn u x6.2 _:=hx6
 obtain ⟨hx7a,hx7b⟩ : Rn u x7.1 _ ∧ Rn u x7.2 _:=hx7
 obtain ⟨hx8a,hx8b⟩ : Rn u x8.1 _ ∧ Rn u x8.2 _:=hx8
 have HP:=Lib.hid hx10
 clear hx6a hx6b hx7a hx7b hx8a hx8b hx9 hx10
 clear hgu
 refine wp_seq (rsE A5 [0,1,1,1,0,0,0,0,0] hB hG fun L hL=>?_)
 refine gs ?_
 refine gmw (C:=fun v=>O7 0 (by omega) (by omega) _) ?_
 refine gmw (C:=fun v=>O7 2 (by omega) (by omega) _) ?_
 refine gmd (C:=fun v ⟨hgu,hB,hG,_⟩=>Hct.out _ x10 (HP.out.grow hgu) (HT.grow hG)) ?_
 refine gs ?_
 refine geT hL ?_
 clear hB hG hL L
 rintro u ⟨hgu,hB,hG,-⟩
 have HP2:=Lib.hid (HP.out.grow hgu)
 clear HP
 have HP:=HP2
 clear HP2
 clear hgu
 refine wp_seq (rsE A5 [0,1,0,0,0,0,0] hB hG fun L hL=>?_)
 refine gs ?_
 refine gxd (X:=Ax) (fun x : Ax=>.tuple #[.slice x.1 2 x.2,.int .i64 0]) (fun x W=>SW Ls x W) (fun x u u' hg h=>h.grow hg) (fun x20=>?_) (C:=by (rintro v ⟨hgu,hB,hG,-⟩;exact Hrt.out _ x10 (HP.out.grow hgu) (HT.grow hG)))
 refine gs ?_
 refine geT hL ?_
 clear hB hG hL L
 rintro u ⟨⟨hgu,hB,hG,-⟩,hx20⟩
 obtain ⟨g,e0,hr0⟩:=hx20.read HLs.out.1
 obtain ⟨g',e1,hr1⟩:=hx20.read HLs.out.2
 rw [e0] at e1
 obtain rfl : g = g':=by injection e1 with e1;injection e1
 obtain ⟨xa,xc⟩:=x20
 simp only at e0
 subst e0
 have Hr0:=Lib.hid hr0
 have Hr1:=Lib.hid hr1
 have hg0 : A3 u u:=A3.refl u
 obtain ⟨U,hU⟩ : ∃ x,x = u:=⟨_,rfl⟩
 rw [← hU] at Hr0 Hr1
 have hg0 : A3 U u:=hU ▸ A3.refl u
 clear hx20 hr0 hr1 hU HP
 clear hgu
 refine wp_seq (rsE A5 [0,0,0,0,0,0,0,0,0,0,0,0,0,0,0,0,0,0,0,0,1,0,0,0,0,0,0,1,0,0,0,0,0,0,1,0,0] hB hG fun L hL=>?_)
 repeat first | refine gya ?_ | refine gyr ?_ | refine gna ?_ | refine gyb (by (rintro v ⟨hgu,hB,hG,-⟩ N hN;have r:=hB.r;simp only [BxR] at r;obtain ⟨⟨q1,q2,q3,q4,q5⟩,r1,r2,r3,r4,r5⟩:=Hr0.out v (hg0.trans hgu);obtain ⟨⟨s1,s2,s3,s4,s5⟩,t1,t2,t3,t4,t5⟩:=Hr1.out v (hg0.trans hgu);go_simp;exact hN)) ?_
 first | refine gmw (C:=fun v=>His.out (-3) (.inl rfl) _) ?_ | refine G7 ?_
 repeat first | refine gya ?_ | refine gyr ?_ | refine gna ?_ | refine gyb (by (rintro v ⟨hgu,hB,hG,-⟩ N hN;have r:=hB.r;simp only [BxR] at r;obtain ⟨⟨q1,q2,q3,q4,q5⟩,r1,r2,r3,r4,r5⟩:=Hr0.out v (hg0.trans hgu);obtain ⟨⟨s1,s2,s3,s4,s5⟩,t1,t2,t3,t4,t5⟩:=Hr1.out v (hg0.trans hgu);go_simp;exact hN)) ?_
 first | refine gmw (C:=fun v=>His.out 0 (.inr (.inl rfl)) _) ?_ | refine G7 ?_
 repeat first | refine gya ?_ | refine gyr ?_ | refine gna ?_ | refine gyb (by (rintro v ⟨hgu,hB,hG,-⟩ N hN;have r:=hB.r;simp only [BxR] at r;obtain ⟨⟨q1,q2,q3,q4,q5⟩,r1,r2,r3,r4,r5⟩:=Hr0.out v (hg0.trans hgu);obtain ⟨⟨s1,s2,s3,s4,s5⟩,t1,t2,t3,t4,t5⟩:=Hr1.out v (hg0.trans hgu);go_simp;exact hN)) ?_
 first | refine gmw (C:=fun v=>His.out 3 (.inr (.inr rfl)) _) ?_ | refine G7 ?_
 refine gs ?_
 refine geT hL ?_
 clear hB hG hL L
 rintro u ⟨-,hB,hG,-⟩
 refine rt Tryz.results12 ?_
 exact ⟨rfl,hG⟩
theorem A1Q {p : List Rat} {lo hi : Rat} (h : lo < hi) : J7 (chL shL p) lo hi = (sV p lo : Int) - sV p hi:=by
 unfold J7
 rw [if_neg (by grind)]
 rfl
end Go.Proofs.YtlkniebmjdoopaaGreatDoor
