/- Contracts and laws. -/
import Derived.Test.YtgpglgbcobeogaaGreatDoorT30
set_option linter.unusedSimpArgs false
set_option linter.unusedVariables false
set_option maxHeartbeats 1000000
set_option maxRecDepth 100000
namespace Go.Proofs.YtgpglgbcobeogaaGreatDoor
open Go Go.RowKit
def B7 (rs : List (List Rat)) (i : Nat) : List Rat:=(rs[i]?).getD []
def E4 (a b : List Rat) (n : Nat) : Rat:=S3 (fun i=>C2 (gq a i) (gq b i)) n
theorem A8o (a b : List Rat) (n : Nat) : E4 a b (n + 1) = E6 (E4 a b n) (C2 (gq a n) (gq b n)):=rfl
theorem A6T (a b : List Rat) (n : Nat) : E4 a b n = E4 b a n:=B3F fun i _=>by unfold C2;exact Rat.mul_comm _ _
theorem Y7 {a b : List Rat} {n s t : Nat} (ha : ∀ i,i < n → qs (gq a i) ≤ s) (hb : ∀ i,i < n → qs (gq b i) ≤ t) : ∀ j,j ≤ n → qs (E4 a b j) ≤ j * (s + t + 1) + 1:=fun j hj =>
 A5p _ (s + t) n (fun i hi=>Nat.le_trans (S8 _ _) (Nat.add_le_add (ha i hi) (hb i hi))) j hj
theorem A1w (f : Nat → Rat) {n i : Nat} (h : i < n) : gq ((List.range n).map f) i = f i:=by
 show ((((List.range n).map f)[i]?).getD 0) = _
 simp [h]
def K5 (X : List (List Rat)) (y w : List Rat) (n L : Nat) : List Rat:=(List.range n).map fun i=>G5 (gq y i) (E4 w (B7 X i) L)
def G6 (X : List (List Rat)) (j n : Nat) : List Rat:=(List.range n).map fun i=>gq (B7 X i) j
def J7 (X : List (List Rat)) (y w : List Rat) (n L : Nat) : List Rat:=(List.range L).map fun j=>E4 (G6 X j n) (K5 X y w n L) n
def T9 (w : List Rat) (L : Nat) : Rat:=S3 (fun j=>I7 (gq w j)) L
def A1N (X : List (List Rat)) (y w : List Rat) (n L : Nat) (a : Rat) : Rat:=E6 (K3 (E4 (K5 X y w n L) (K5 X y w n L) n) (B9 2)) (C2 a (T9 w L))
def A0P (a b : Rat) : Rat:=if a < b then b else a
def X5 (p : List Rat) : Nat → Rat
 | 0=>0
 | n + 1=>A0P (X5 p n) (I7 (gq p n))
def I4 (n : Nat) : List Rat:=List.replicate n 0
def V4 (X : List (List Rat)) (y : List Rat) (n L : Nat) : Rat:=X5 (J7 X y (I4 L) n L) L
def V6 (p w a : Rat) : Bool:=if 0 < w then decide (p = a) else if w < 0 then decide (p = K9 a) else decide (I7 p ≤ a)
def W8 (f : Nat → Bool) : Nat → Nat → Nat
 | 0,i=>i
 | k + 1,i=>if f i then W8 f k (i + 1) else i
theorem A3Q (f : Nat → Bool) (k i : Nat) : i ≤ W8 f k i ∧ W8 f k i ≤ i + k ∧ (∀ j,i ≤ j → j < W8 f k i → f j = true) ∧ (W8 f k i < i + k → f (W8 f k i) = false):=by
 induction k generalizing i with
 | zero=>exact ⟨Nat.le_refl _,Nat.le_refl _,fun j h1 h2=>absurd h2 (by simp [W8];omega),fun h=>absurd h (by simp [W8])⟩
 | succ k ih =>
  unfold W8
  cases hf : f i with
  | true =>
   rw [if_pos rfl]
   obtain ⟨h1,h2,h3,h4⟩:=ih (i + 1)
   refine ⟨by omega,by omega,fun j h5 h6=>?_,fun h5=>h4 (by omega)⟩
   rcases Nat.eq_or_lt_of_le h5 with h | h
   ·rw [← h];exact hf
   ·exact h3 j h h6
  | false =>
   rw [if_neg (by simp)]
   exact ⟨Nat.le_refl _,by omega,fun j h5 h6=>absurd h6 (by omega),fun _=>hf⟩
def L6 (X : List (List Rat)) (y w : List Rat) (n L : Nat) (a : Rat) : Nat:=W8 (fun j=>V6 (gq (J7 X y w n L) j) (gq w j) a) L 0
theorem A4Z (X : List (List Rat)) (y w : List Rat) (n L : Nat) (a : Rat) : L6 X y w n L a ≤ L ∧ (∀ j,j < L6 X y w n L a → V6 (gq (J7 X y w n L) j) (gq w j) a = true) ∧ (L6 X y w n L a < L → V6 (gq (J7 X y w n L) (L6 X y w n L a)) (gq w (L6 X y w n L a)) a = false):=by
 obtain ⟨h1,h2,h3,h4⟩:=A3Q (fun j=>V6 (gq (J7 X y w n L) j) (gq w j) a) L 0
 exact ⟨by unfold L6;omega,fun j hj=>h3 j (Nat.zero_le _) hj,fun h=>h4 (by unfold L6 at h;omega)⟩
def A1Y (S a : Rat) (w : List Rat) : Nat → Rat
 | 0=>S
 | n + 1=>E6 (A1Y S a w n) (C2 a (I7 (gq w n)))
theorem A6t (S a : Rat) (w : List Rat) (n : Nat) : A1Y S a w n = E6 S (C2 a (T9 w n)):=by
 induction n with
 | zero=>show S = S + a * 0;grind
 | succ n ih =>
  show E6 (A1Y S a w n) _ = E6 S (C2 a (E6 (T9 w n) (I7 (gq w n))))
  rw [ih]
  unfold E6 C2
  grind
theorem A4n (X : List (List Rat)) (y w : List Rat) (n L : Nat) : (K5 X y w n L).length = n:=by unfold K5;simp
theorem A6Z (X : List (List Rat)) (j n : Nat) : (G6 X j n).length = n:=by unfold G6;simp
theorem A1e (X : List (List Rat)) (y w : List Rat) (n L : Nat) : (J7 X y w n L).length = L:=by unfold J7;simp
theorem A6g (X : List (List Rat)) (y w : List Rat) (n L : Nat) {i : Nat} (h : i < n) : gq (K5 X y w n L) i = G5 (gq y i) (E4 w (B7 X i) L):=A1w _ h
theorem A5l (X : List (List Rat)) (j n : Nat) {i : Nat} (h : i < n) : gq (G6 X j n) i = gq (B7 X i) j:=A1w _ h
theorem B2R (X : List (List Rat)) (y w : List Rat) (n L : Nat) {j : Nat} (h : j < L) : gq (J7 X y w n L) j = E4 (G6 X j n) (K5 X y w n L) n:=A1w _ h
theorem A5c (f : Nat → Rat) (n : Nat) : (List.range (n + 1)).map f = (List.range n).map f ++ [f n]:=by rw [List.range_succ,List.map_append];rfl
theorem A6N (n i : Nat) : gq (I4 n) i = 0:=by
 unfold gq I4
 rw [List.getElem?_replicate]
 split <;> rfl
theorem A0o (a : Rat) : qs (I7 a) = qs a:=by
 unfold I7 Rat.abs
 split
 ·rfl
 ·exact A5B a
theorem A18 {X : List (List Rat)} {y w : List Rat} {n L s : Nat} (hn : n ≤ 20) (hL : L ≤ 20) (hs : s ≤ 1000) (hX : ∀ i,i < n → ∀ j,j < L → qs (gq (B7 X i) j) ≤ s) (hy : ∀ i,i < n → qs (gq y i) ≤ s) (hw : ∀ j,j < L → qs (gq w j) ≤ s) : ∀ i,i < n → qs (gq (K5 X y w n L) i) ≤ 50000:=fun i hi=>by
 rw [A6g X y w n L hi]
 have h1:=Y7 (a:=w) (b:=B7 X i) (n:=L) hw (hX i hi) L (Nat.le_refl _)
 have h2:=A47 (gq y i) (E4 w (B7 X i) L)
 have h3:=hy i hi
 have h4 : L * (s + s + 1) ≤ 20 * (s + s + 1):=Nat.mul_le_mul_right _ hL
 unfold G5
 omega
theorem A1n {X : List (List Rat)} {y w : List Rat} {n L s : Nat} (hn : n ≤ 20) (hL : L ≤ 20) (hs : s ≤ 1000) (hX : ∀ i,i < n → ∀ j,j < L → qs (gq (B7 X i) j) ≤ s) (hy : ∀ i,i < n → qs (gq y i) ≤ s) (hw : ∀ j,j < L → qs (gq w j) ≤ s) : ∀ j,j < L → qs (gq (J7 X y w n L) j) ≤ 1100000:=fun j hj=>by
 rw [B2R X y w n L hj]
 have h0:=A18 hn hL hs hX hy hw
 have h1:=Y7 (a:=G6 X j n) (b:=K5 X y w n L) (n:=n) (s:=s) (t:=50000) (fun i hi=>by rw [A5l X j n hi];exact hX i hi j hj) h0 n (Nat.le_refl _)
 have h4 : n * (s + 50000 + 1) ≤ 20 * (s + 50000 + 1):=Nat.mul_le_mul_right _ hn
 omega
theorem B2Q {a b : Rat} {s : Nat} (h1 : qs a ≤ s) (h2 : qs b ≤ s) : qs (A0P a b) ≤ s:=by unfold A0P;split <;> assumption
theorem A3H {p : List Rat} {n s : Nat} (hs : 1 ≤ s) (h : ∀ j,j < n → qs (gq p j) ≤ s) : ∀ j,j ≤ n → qs (X5 p j) ≤ s
 | 0,_=>by rw [X5,X9];exact hs
 | j + 1,hj=>B2Q (A3H hs h j (by omega)) (by rw [A0o];exact h j (by omega))
theorem A52 {w : List Rat} {n s : Nat} (h : ∀ j,j < n → qs (gq w j) ≤ s) : ∀ j,j ≤ n → qs (T9 w j) ≤ j * (s + 1) + 1:=fun j hj=>A5p _ s n (fun i hi=>by rw [A0o];exact h i hi) j hj
theorem A6b {a b : Rat} : (G9 a b == 0) = decide (a = b):=by
 unfold G9
 by_cases h1 : a < b
 ·rw [if_pos h1]
  have : ¬ a = b:=fun h=>by rw [h] at h1;exact Rat.lt_irrefl h1
  simp [this]
 ·rw [if_neg h1]
  by_cases h2 : b < a
  ·rw [if_pos h2]
   have : ¬ a = b:=fun h=>by rw [h] at h2;exact Rat.lt_irrefl h2
   simp [this]
  ·rw [if_neg h2]
   have : a = b:=by grind
   simp [this]
theorem B0o {a b : Rat} : decide (G9 a b ≤ 0) = decide (a ≤ b):=by
 unfold G9
 by_cases h1 : a < b
 ·rw [if_pos h1]
  have : a ≤ b:=Rat.le_of_lt h1
  simp [this]
 ·rw [if_neg h1]
  by_cases h2 : b < a
  ·rw [if_pos h2]
   have : ¬ a ≤ b:=by grind
   simp [this]
  ·rw [if_neg h2]
   have : a ≤ b:=by grind
   simp [this]
theorem B0p {w : Rat} : w.num.sign = 1 ↔ 0 < w:=by
 rw [Int.sign_eq_one_iff_pos,Rat.lt_iff]
 simp
theorem A3O {w : Rat} : w.num.sign = -1 ↔ w < 0:=by
 rw [Int.sign_eq_neg_one_iff_neg,Rat.lt_iff]
 simp
theorem A7F {p w a : Rat} (h : w.num.sign = 1) : V6 p w a = (G9 p a == 0):=by
 unfold V6
 rw [if_pos (B0p.1 h),A6b]
theorem A8P {p w a : Rat} (h : w.num.sign = -1) : V6 p w a = (G9 p (K9 a) == 0):=by
 have h1:=A3O.1 h
 unfold V6
 rw [if_neg (by grind),if_pos h1,A6b]
theorem A7y {p w a : Rat} (h : w.num.sign = 0) : V6 p w a = decide (G9 (I7 p) a ≤ 0):=by
 have h0 : w = 0:=Rat.num_eq_zero.1 (Int.sign_eq_zero_iff_zero.1 h)
 unfold V6
 rw [if_neg (by rw [h0];exact Rat.lt_irrefl),if_neg (by rw [h0];exact Rat.lt_irrefl),B0o]
theorem B2Z (A : Option Addr) (rs : List Rq) (n L c : Nat) (hn : rs.length = n) (hn1 : 1 ≤ n) (hn2 : n ≤ 1048576) (hL1 : 1 ≤ L) (hrl : ∀ r ∈ rs,r.2.2.length = L) (w : World) (h : Lrz w A rs) :
  Calls Tryz.prog 134 #[.slice A n c] w fun e w'=>e = .returned (.bool true) ∧ A4 w w':=by
 obtain ⟨bb,ob,rfl⟩:=h.addr (by omega)
 have hrow : ∀ i,i < n → ∃ (Ar : Option Addr) (cr : Nat),∀ W,A4 w W → W.cell? ⟨bb,ob + i,none⟩ = some (.slice Ar L cr):=fun i hi=>by
  have hil : i < rs.length:=by omega
  refine ⟨rs[i].1,rs[i].2.1,fun W hg=>?_⟩
  have h3:=((h.grow hg).read (List.getElem?_eq_getElem hil)).1
  rw [hrl _ (List.getElem_mem hil)] at h3
  exact h3
 obtain ⟨A0,c0,hrow0⟩:=hrow 0 (by omega)
 rw [Nat.add_zero] at hrow0
 have hni : (0 : Int) < (n : Int):=by omega
 have fnz : decide (n = 0) = false:=by simp;omega
 have fnp : 0 < n:=by omega
 have fn : decide ((0 : Int) < (n : Int)) = true:=by simp;omega
 have fnn : decide (0 < n) = true:=by simp;omega
 have hne : ((L : Int) != (L : Int)) = false:=by simp
 have fL : ((L : Int) == 0) = false:=by simp;omega
 have fLd : decide (L = 0) = false:=by simp;omega
 have Hrow:=Lib.hid hrow
 have Hrow0:=Lib.hid hrow0
 clear hrow hrow0 h hrl hn
 go_enter Tryz.func134,Tryz.ntmps134
 refine en0 ?_
 intro u hG hB hF
 refine wp_seq ?_
 refine r0T ?_
 refine wp_block ?_
 go_loopw [3] (fun s0 wr=>∃ i : Nat,i ≤ n ∧ s0 = .int .i64 i ∧ A4 w wr) (fun s0 _=>n - (intOf s0).toNat)
 case atStart=>exact ⟨0,Nat.zero_le _,rfl,hG⟩
 case round =>
  clear hB hG
  obtain ⟨i,hi,rfl,hG⟩:=hrel
  obtain ⟨u,rfl⟩ : ∃ x,x = wr:=⟨_,rfl⟩
  have hB:=Bx.nil u
  rcases Nat.lt_or_ge i n with hlt | hge
  ·have hdec : decide ((i : Int) < (n : Int)) = true:=by simp;omega
   obtain ⟨Ar,cr,hrw⟩:=Hrow.out i hlt
   have Hrw:=Lib.hid hrw
   clear hrw
   refine wp_seq ?_
   refine r0T ?_
   refine wp_cond_true (rfl) ?_
   refine wp_skip ?_
   refine A6 ?_
   refine wp_seq ?_
   refine wp_block ?_
   refine wp_seq (rdC A8 [] [(0,0),(0,1),(0,2),(0,3),(0,4),(0,5),(0,6),(0,7),(0,8),(0,9),(0,10),(0,11),(0,12),(0,13),(0,14),(0,15),(0,16)] hB hG fun K L hN hL=>?_)
   repeat first | refine gya ?_ | refine gyr ?_ | refine gna ?_ | refine gyb (by (rintro v ⟨hgu,hB,hG,-⟩ N hN;have r:=hB.r;simp only [BxR] at r;have q0:=Hrow0.out v hG;have q1:=Hrw.out v hG;go_simp;exact hN)) ?_
   refine geC hL ?_
   clear hB hG hL L
   rintro u ⟨-,hB,hG,-⟩
   refine gtT ?_
   clear hN K
   refine wp_cond_false (rfl) ?_
   refine wp_skip ?_
   refine C3 ?_
   refine A6 ?_
   refine r0E ?_
   refine A6 ?_
   go_roundw
   case rel=>exact ⟨i + 1,by omega,by go_num,hG⟩
   case measure=>simp [intOf];omega
  ·obtain rfl : n = i:=by omega
   have hdec : decide ((n : Int) < (n : Int)) = false:=by simp
   refine wp_seq ?_
   refine r0T ?_
   refine wp_cond_false (rfl) ?_
   refine wp_exit ?_
   refine B8 ?_
   refine B8 ?_
   refine D6 ?_
   refine A6 ?_
   refine r0T ?_
   refine rt Tryz.results134 ?_
   exact ⟨rfl,hG⟩
theorem B3k (A : Option Addr) (c : Nat) (w : World) : Calls Tryz.prog 134 #[.slice A 0 c] w fun e w'=>e = .returned (.bool false) ∧ A4 w w':=by
 go_enter Tryz.func134,Tryz.ntmps134
 refine en0 ?_
 intro u hG hB hF
 refine wp_seq ?_
 refine r0T ?_
 refine wp_block ?_
 go_loopw [3] (fun s0 wr=>s0 = .int .i64 0 ∧ A4 w wr) (fun s0 _=>0)
 case atStart=>exact ⟨rfl,hG⟩
 case round =>
  clear hB hG
  obtain ⟨rfl,hG⟩:=hrel
  obtain ⟨u,rfl⟩ : ∃ x,x = wr:=⟨_,rfl⟩
  have hB:=Bx.nil u
  refine wp_seq ?_
  refine r0T ?_
  refine wp_cond_false (rfl) ?_
  refine wp_exit ?_
  refine B8 ?_
  refine B8 ?_
  refine D6 ?_
  refine A6 ?_
  refine r0T ?_
  refine rt Tryz.results134 ?_
  exact ⟨rfl,hG⟩
theorem B3o (A : Option Addr) (rs : List Rq) (n L c : Nat) (hn : rs.length = n) (hn1 : 1 ≤ n) (hn2 : n ≤ 300) (hL1 : 1 ≤ L) (hL2 : L ≤ 20) (hrl : ∀ r ∈ rs,r.2.2.length = L) (w : World) (h : Lrz w A rs) :
  Calls Tryz.prog 68 #[.slice A n c] w fun e w'=>e = .returned (.bool true) ∧ A4 w w':=by
 have hri:=fun W (hg : A4 w W)=>B2Z A rs n L c hn hn1 (by omega) hL1 hrl W (h.grow hg)
 obtain ⟨bb,ob,rfl⟩:=h.addr (by omega)
 have hrow0 : ∃ (Ar : Option Addr) (cr : Nat),∀ W,A4 w W → W.cell? ⟨bb,ob,none⟩ = some (.slice Ar L cr):=by
  have hil : 0 < rs.length:=by omega
  refine ⟨rs[0].1,rs[0].2.1,fun W hg=>?_⟩
  have h3:=((h.grow hg).read (List.getElem?_eq_getElem hil)).1
  rw [hrl _ (List.getElem_mem hil),Nat.add_zero] at h3
  exact h3
 obtain ⟨A0,c0,hrow0⟩:=hrow0
 have hni : (0 : Int) < (n : Int):=by omega
 have fnz : decide (n = 0) = false:=by simp;omega
 have fnp : 0 < n:=by omega
 have f2 : decide ((n : Int) ≤ 300) = true:=by simp;omega
 have f2n : decide (n ≤ 300) = true:=by simp;omega
 have f4 : decide ((L : Int) ≤ 20) = true:=by simp;omega
 have f4n : decide (L ≤ 20) = true:=by simp;omega
 have Hri:=Lib.hid hri
 have Hrow0:=Lib.hid hrow0
 clear hri hrow0 h hrl hn
 go_enter Tryz.func68,Tryz.ntmps68
 refine en0 ?_
 intro u hG hB hF
 refine wp_seq (rsE A8 [0,1,0,0,0,0,0,0,0,0,0,0,0,0,0] hB hG fun L hL=>?_)
 refine gs ?_
 refine gmd (C:=fun v ⟨hgu,hB,hG,_⟩=>Hri.out _ hG) ?_
 repeat first | refine gya ?_ | refine gyr ?_ | refine gna ?_ | refine gyb (by (rintro v ⟨hgu,hB,hG,-⟩ N hN;have r:=hB.r;simp only [BxR] at r;have q0:=Hrow0.out v hG;go_simp;exact hN)) ?_
 refine geT hL ?_
 clear hB hG hL L
 rintro u ⟨-,hB,hG,-⟩
 refine rt Tryz.results68 ?_
 exact ⟨rfl,hG⟩
theorem B4J (A : Option Addr) (c : Nat) (w : World) : Calls Tryz.prog 68 #[.slice A 0 c] w fun e w'=>e = .returned (.bool false) ∧ A4 w w':=by
 have hri:=fun W=>B3k A c W
 go_enter Tryz.func68,Tryz.ntmps68
 refine en0 ?_
 intro u hG hB hF
 refine wp_seq (rsE A8 [0,1,0,0,0,0,0,0,0,0,0,0,0,0,0] hB hG fun L hL=>?_)
 refine gs ?_
 refine gmw (C:=fun v=>hri _) ?_
 refine gs ?_
 refine geT hL ?_
 clear hB hG hL L
 rintro u ⟨-,hB,hG,-⟩
 refine rt Tryz.results68 ?_
 exact ⟨rfl,hG⟩
theorem B0z (A B : Option Addr) (l : List Rat) (n c d : Nat) (hn : l.length = n) (hm : n ≤ 1048576) (hs : ∀ x ∈ l,qs x ≤ LIM) (w : World) (h : Lq w A l) (h' : Lz w B l) :
  Calls Tryz.prog 22 #[.slice A n c,.slice B n d] w fun e w'=>e = .returned (.bool true) ∧ A4 w w':=by
 have H:=Lib.hid h
 have H':=Lib.hid h'
 have Hn:=Lib.hid hn
 have Hs:=Lib.hid hs
 have hne : ((n : Int) != (n : Int)) = false:=by simp
 clear h h' hn hs
 go_enter Tryz.func22,Tryz.ntmps22
 refine en0 ?_
 intro u hG hB hF
 refine wp_seq ?_
 refine r0T ?_
 refine wp_cond_false (rfl) ?_
 refine wp_skip ?_
 refine A6 ?_
 refine wp_seq ?_
 refine r0T ?_
 refine wp_block ?_
 go_loopw [5] (fun s0 wr=>∃ (i : Nat) ,i ≤ n ∧ s0 = .int .i64 i ∧ A4 w wr) (fun s0 _=>n - (intOf s0).toNat)
 case atStart=>exact ⟨0,Nat.zero_le _,rfl,hG⟩
 case round =>
  clear hB hG
  obtain ⟨i,hi,rfl,hG⟩:=hrel
  obtain ⟨u,rfl⟩ : ∃ x,x = wr:=⟨_,rfl⟩
  have hB:=Bx.nil u
  rcases Nat.lt_or_ge i n with hlt0 | hge0
  ·have hdec : decide ((i : Int) < (n : Int)) = true:=by simp;omega
   have hil : i < l.length:=by rw [Hn.out];exact hlt0
   have hini : (i : Int) < (n : Int):=by omega
   obtain ⟨ba,oa,rfl⟩:=H.out.addr (by omega)
   obtain ⟨bb,ob,rfl⟩:=H'.out.addr (by omega)
   have h1:=fun W (hg : A4 w W)=>(H.out.grow hg).read hil
   obtain ⟨p,h2⟩:=H'.out.read hil
   have z:=Hs.out _ (A1S hil)
   obtain ⟨X,hX⟩ : ∃ X,X = gq l i:=⟨_,rfl⟩
   rw [← hX] at z
   simp only [← hX] at h1 h2
   have H1:=Lib.hid h1
   have H2:=Lib.hid h2
   clear h1 h2 hX hil
   refine wp_seq ?_
   refine r0T ?_
   refine wp_cond_true (rfl) ?_
   refine wp_skip ?_
   refine A6 ?_
   refine wp_seq ?_
   refine wp_block ?_
   refine wp_seq (rdC A8 [] [(0,0),(0,1),(0,2),(0,3),(0,4),(0,5),(0,6),(0,7),(1,8)] hB hG fun K L hN hL=>?_)
   repeat first | refine gya ?_ | refine gyr ?_ | refine gna ?_ | refine gyb (by (rintro v ⟨hgu,hB,hG,-⟩ N hN;have r:=hB.r;simp only [BxR] at r;obtain ⟨a1,a2,a3,a4,a5⟩:=H1.out v hG;obtain ⟨-,c1,c2,c3⟩:=H2.out v hG;go_simp;exact hN)) ?_
   refine gmd (C:=fun v ⟨hgu,hB,hG,_⟩=>A3h X p.1 p.2 z _ (H2.out _ hG).1.a (H2.out _ hG).1.b) ?_
   refine geC hL ?_
   clear hB hG hL L
   rintro u ⟨-,hB,hG,-⟩
   refine gtT ?_
   clear hN K
   refine wp_cond_false (rfl) ?_
   refine wp_skip ?_
   refine C3 ?_
   refine A6 ?_
   refine r0E ?_
   refine A6 ?_
   go_roundw
   case rel=>exact ⟨i + 1,by omega,by go_num,hG⟩
   case measure=>simp [intOf];try omega
  ·obtain rfl : n = i:=by omega
   have hdec : decide ((n : Int) < (n : Int)) = false:=by simp
   skip
   refine wp_seq ?_
   refine r0T ?_
   refine wp_cond_false (rfl) ?_
   refine wp_exit ?_
   refine B8 ?_
   refine B8 ?_
   refine D6 ?_
   refine A6 ?_
   refine r0T ?_
   refine rt Tryz.results22 ?_
   exact ⟨rfl,hG⟩
theorem A0U {α : Type} {enc : α → List Value} {B : Nat} {e : TypeId} {g cap n : Nat} (he : ∀ x,(enc x).length = 5) {u : World} {ps : List α} (h : u.ownsRow B e 5 (.slice (some ⟨g,0,none⟩) n cap) n (ps.flatMap enc)) (hn : n = ps.length) (k : Nat) (hk : k < ps.length) :
  ∃ y0 y1 y2 y3 y4,u.cell? ⟨g,k * 5,none⟩ = some y0 ∧ u.cell? ⟨g,k * 5 + 1,none⟩ = some y1 ∧ u.cell? ⟨g,k * 5 + 2,none⟩ = some y2 ∧ u.cell? ⟨g,k * 5 + 3,none⟩ = some y3 ∧ u.cell? ⟨g,k * 5 + 4,none⟩ = some y4 ∧ ∀ j,u.frozen? ⟨g,j,none⟩ = false:=by
 have hl:=he ps[k]
 have h0:=T2 he h hn k 0 hk (by omega)
 have h1:=T2 he h hn k 1 hk (by omega)
 have h2:=T2 he h hn k 2 hk (by omega)
 have h3:=T2 he h hn k 3 hk (by omega)
 have h4:=T2 he h hn k 4 hk (by omega)
 rw [List.getElem?_eq_getElem (by omega)] at h0 h1 h2 h3 h4
 exact ⟨_,_,_,_,_,h0,h1,h2,h3,h4,fun j=>h.frozenAt j⟩
theorem A0p (b : Nat) : ∀ (vs : List Value) (i : Nat) (u : World),u.grownBy (D3 u b i vs) (some b)
 | [],_,_=>⟨rfl,rfl,rfl,Nat.le_refl _,fun _ _ _=>rfl⟩
 | v :: vs,i,u=>A2S (u1:=u.setCell ⟨b,i,none⟩ v) ⟨rfl,rfl,rfl,by simp [World.setCell],fun k _ hk=>Below.heap_setCell _ _ _ _ (fun e=>hk (by simp [e]))⟩ (A0p b vs (i + 1) _)
theorem L7 {u u' : World} {B : Nat} {e : TypeId} {size n b i : Nat} {v : Value} {xs vs : List Value} (h : u.ownsRow B e size v n xs) (hb : v.ownBlock ≠ some b) (hu : D3 u b i vs = u') : u'.ownsRow B e size v n xs:=by
 subst hu
 exact h.kept (A0p b vs i u) (.inr hb)
theorem A7u : (Tryz.prog.info? 48).map (fun i=>(i.zero,i.size,i.bytes)) = some (some (.agg (qL 0).toArray),5,56):=by kernel_rfl
theorem B0J (n : Nat) : madeCells (Value.agg (qL 0).toArray).cells (n * 5) = ((List.replicate n (0 : Rat)).flatMap qL).toArray:=by
 unfold madeCells
 refine Array.ext (by simp [A0f,show (qL 0).length = 5 from rfl]) fun i h1 h2=>?_
 have h1' : i < n * 5:=by simpa using h1
 have hg:=A2K (List.replicate n (0 : Rat)) (i:=i / 5) (q:=0) (by rw [List.getElem?_replicate,if_pos (by omega)]) (j:=i % 5) (by omega)
 rw [show i / 5 * 5 + i % 5 = i by omega] at hg
 have h3 : ((List.replicate n (0 : Rat)).flatMap qL)[i]? = some ((List.replicate n (0 : Rat)).flatMap qL)[i]:=List.getElem?_eq_getElem _
 rw [h3] at hg
 have h4 : (qL 0)[i % 5]? = some ((qL 0)[i % 5]'(by show i % 5 < 5;omega)):=List.getElem?_eq_getElem _
 rw [h4] at hg
 injection hg with hg
 simp only [List.getElem_toArray,Value.cells,Array.getElem_ofFn]
 rw [hg]
 simp [show (qL 0).length = 5 from rfl]
 rw [h4]
 rfl
theorem A01 (n : Nat) (hn : n ≤ 1048576) (x : Int) (hx : x = n) (W : World) : (Instr.makeSlice 35 (.int .i64 x) (.int .i64 x)).run Tryz.prog W =
  .ok (.slice (some ⟨W.heap.size,0,none⟩) n n) (W.alloc (.cells ((List.replicate n (0 : Rat)).flatMap qL).toArray 48)):=by
 obtain ⟨i0,hi0,hz0,hz1,hz2⟩:=info_parts A7u
 have hr:=run_make (P:=Tryz.prog) W 35 48 i0 (.agg (qL 0).toArray) Tryz.underlying35 hi0 hz0 .i64 .i64 n n (by omega) (by omega) (by rw [hz2];omega) (by omega)
 rw [hx]
 rw [hr,hz1]
 simp only [Int.toNat_natCast]
 rw [B0J]
theorem A0S {u v : World} {B n : Nat} (hB : B ≤ u.heap.size) (hn : n ≤ 1048576) (hv : u.alloc (.cells ((List.replicate n (0 : Rat)).flatMap qL).toArray 48) = v) : v.ownsRow B 48 5 (.slice (some ⟨u.heap.size,0,none⟩) n n) n ((List.replicate n (0 : Rat)).flatMap qL):=by
 subst hv
 have h:=World.ownsRow_lit (base:=B) (e:=48) (size:=5) u ((List.replicate n (0 : Rat)).flatMap qL).toArray n hB (by unfold maxLen;omega) (by simp [A0f,show (qL 0).length = 5 from rfl])
 simpa using h
theorem A32 (w : World) (l : List Rat) : Lq (w.alloc (.cells (l.flatMap qL).toArray 48)) (some ⟨w.heap.size,0,none⟩) l:=fun _ =>
 ⟨w.heap.size,0,rfl,by rw [H9];omega,fun i q hi j v hj=>by
  have hj5 : j < 5:=(List.getElem?_eq_some_iff.1 hj).1
  rw [Nat.zero_add,Blk.cell (Blk.new w 48 _),List.getElem?_toArray,A2K l hi hj5,hj]⟩
def J3 (f : Nat → Rat) (n i : Nat) : List Rat:=(List.range n).map fun t=>if t < i then f t else 0
theorem N1 (f : Nat → Rat) (n i : Nat) : (J3 f n i).length = n:=by unfold J3;simp
theorem A1g (f : Nat → Rat) (n : Nat) : J3 f n 0 = List.replicate n 0:=by
 unfold J3
 apply List.ext_getElem
 ·simp
 ·intro i h1 h2;simp
theorem A1i (f : Nat → Rat) (n : Nat) : J3 f n n = (List.range n).map f:=by
 unfold J3
 refine List.map_congr_left fun j hj=>?_
 rw [if_pos (List.mem_range.1 hj)]
theorem A13 {f : Nat → Rat} {n i : Nat} (h : i < n) : (J3 f n i).set i (f i) = J3 f n (i + 1):=by
 unfold J3
 apply List.ext_getElem
 ·simp
 ·intro j h1 h2
  rw [List.getElem_set]
  simp only [List.getElem_map,List.getElem_range]
  by_cases e : i = j
  ·subst e;simp
  ·rw [if_neg e]
   by_cases hj : j < i
   ·rw [if_pos hj,if_pos (by omega)]
   ·rw [if_neg hj,if_neg (by omega)]
end Go.Proofs.YtgpglgbcobeogaaGreatDoor
