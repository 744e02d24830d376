/- Contracts and laws. -/
import Derived.Test.YtlkniebmjdoopaaGreatDoorR48
set_option linter.unusedSimpArgs false
set_option linter.unusedVariables false
set_option maxHeartbeats 8000000
set_option maxRecDepth 100000
namespace Go.Proofs.YtlkniebmjdoopaaGreatDoor
open Go Go.RowKit
def kP : List Rat:=[B1 (-2),B1 0,B1 1]
theorem A6b : Czl kP 2:=⟨1,by omega,by decide,fun i=>by
 match i with
 | 0=>exact ⟨-2,by kernel_rfl,by decide⟩
 | 1=>exact ⟨0,by kernel_rfl,by decide⟩
 | 2=>exact ⟨1,by kernel_rfl,by decide⟩
 | i + 3=>exact ⟨0,by rw [P6 (by unfold kP;simp),Rat.intCast_zero];grind,by decide⟩⟩
theorem A4y : trN kP = 3:=by kernel_rfl
theorem A8e : Pok kP:=by
 have hn : Nz kP:=Q9.2 (by rw [A4y];omega)
 have hs:=A8Z A6b hn (by rw [A4y];omega) (by omega)
 exact A8r (S:=2) (by omega) A6b ⟨hn,fun f hf hd=>(hs.2 f hf hd).mono (by omega)⟩ (by unfold kP;simp) (by rw [A4y];omega)
theorem B6z : U7 (chL shL kP) (B1 0) (B1 2) = 1:=by kernel_rfl
theorem B7a : E0 kP = D8 3 1:=by kernel_rfl
theorem B5j : sV kP (D8 (-3) 1) = 2 ∧ sV kP (D8 0 1) = 1 ∧ sV kP (D8 3 1) = 0:=by
 unfold sV
 exact ⟨by kernel_rfl,by kernel_rfl,by kernel_rfl⟩
theorem B7P : rootsP kP = [(D8 (-3) 1,D8 0 1),(D8 0 1,D8 3 1)]:=by
 obtain ⟨v1,v2,v3⟩:=B5j
 unfold rootsP isoP
 rw [B7a,show -(D8 3 1) = D8 (-3) 1 by kernel_rfl]
 obtain ⟨d,hd⟩ : ∃ d,DD = d + 1:=⟨DEP + RH + 2,by rw [A5N]⟩
 have hm : E9 (D8 (-3) 1) (D8 3 1) = D8 0 1:=by kernel_rfl
 have one : ∀ d a b,sV kP a = sV kP b + 1 → L7 (sV kP) d a b = [(a,b)]:=fun d a b h=>by
  cases d with
  | zero=>rw [L7,if_neg (by omega)]
  | succ d=>rw [L7,if_neg (by omega),if_pos h]
 rw [hd,L7,if_neg (by omega),if_neg (by omega),hm,one _ _ _ (by omega),one _ _ _ (by omega)]
 rfl
theorem B1P {u : World} {B : Nat} {v : Value} {l : List Rat} (h : u.ownsRow B 39 5 v l.length (l.flatMap qL)) : ∃ x : Ax,v = .slice x.1 l.length x.2 ∧ PR l x u:=by
 obtain ⟨A,c,e,h1,h2,h3,-⟩:=A0F h
 refine ⟨(A,c),e,h3,h1,fun a ha=>?_⟩
 have ha : A = some a:=ha
 subst e
 exact A2Z h (by rw [ha];rfl)
theorem A9v (A : Option Addr) (l : List Rat) (c n : Nat) (hn : n = l.length) (hm : n ≤ 1048576) (hs : ∀ x ∈ l,qs x ≤ BIG) (w : World) (h : Lz w A l) (HT : Tab w) : Calls Tryz.prog 8 #[.slice A n c] w (I1 (fun x : Ax=>.slice x.1 n x.2) (fun x W=>PR l x W) w) :=
 (B1N A l c n hn hm hs w h HT).mono fun e w' ⟨v,g1,g2,g3⟩=>by
  subst hn
  obtain ⟨x,rfl,hx⟩:=B1P g2
  exact ⟨x,g1,hx,g3⟩
theorem B2J {u : World} {b : Nat} {ps : List Zr} (h : Blk u b 66 (ps.flatMap zrL).toArray) (hA : F0 u ps) (hm : ps.length ≤ 1000) : Lz u (some ⟨b,0,none⟩) (ps.map (·.2)):=by
 obtain ⟨A9,c9,e9,-,-,h9,-⟩:=A0e (A6f (m:=ps.length) (size:=3) h (Nat.zero_le _) (by rw [A8i];omega) (by omega)) hA
 cases e9
 exact h9
theorem B62 {u : World} {p q r : Az} {a b c : Rat} (h1 : Rn u p.1 a.num.natAbs) (h2 : Rn u p.2 a.den) (h3 : Rn u q.1 b.num.natAbs) (h4 : Rn u q.2 b.den) (h5 : Rn u r.1 c.num.natAbs) (h6 : Rn u r.2 c.den) : F0 u [(p,a),(q,b),(r,c)]:=fun x hx=>by
 simp only [List.mem_cons,List.not_mem_nil,or_false] at hx
 rcases hx with rfl | rfl | rfl
 ·exact ⟨h1,h2⟩
 ·exact ⟨h3,h4⟩
 ·exact ⟨h5,h6⟩
def SW (L : List (Rat × Rat)) (x : Ax) (W : World) : Prop:=∃ B,W.ownsRow B 48 10 (.slice x.1 L.length x.2) L.length (L.flatMap spL)
theorem SW.grow {L : List (Rat × Rat)} {x : Ax} {u v : World} (h : SW L x u) (hg : A3 u v) : SW L x v:=by
 obtain ⟨B,h⟩:=h
 exact ⟨B,F4 h hg⟩
theorem SW.read {L : List (Rat × Rat)} {x : Ax} {u : World} (h : SW L x u) {i : Nat} {s : Rat × Rat} (hi : L[i]? = some s) : ∃ g,x.1 = some ⟨g,0,none⟩ ∧ ∀ W,A3 u W → Cq W g (i * 10) s.1 ∧ Cq W g (i * 10 + 5) s.2:=by
 obtain ⟨B,h⟩:=h
 have hlt : i < L.length:=(List.getElem?_eq_some_iff.1 hi).1
 obtain ⟨g,cap,e,-,-⟩:=A18 h (by omega)
 injection e with e1 e2 e3
 refine ⟨g,e1,fun W hg=>?_⟩
 have h2:=F4 h hg
 rw [e1,e3] at h2
 have hc : ∀ t,t < 10 → W.cell? ⟨g,i * 10 + t,none⟩ = (spL s)[t]?:=fun t ht=>by
  rw [h2.cellAt (i * 10 + t) (by omega)]
  have h3:=A4Y (enc:=spL) (size:=10) (fun _=>rfl) L i t hlt ht
  have h4:=(List.getElem?_eq_some_iff.1 hi).2
  rw [h4] at h3
  exact h3
 exact ⟨⟨hc 0 (by omega),hc 1 (by omega),hc 2 (by omega),hc 3 (by omega),hc 4 (by omega)⟩,hc 5 (by omega),hc 6 (by omega),hc 7 (by omega),hc 8 (by omega),hc 9 (by omega)⟩
theorem A9N {F : FuncId} {args : Array Value} {L : List (Rat × Rat)} {w : World} (h : Calls Tryz.prog F args w (A6k L w)) : Calls Tryz.prog F args w (I1 (fun x : Ax=>.tuple #[.slice x.1 L.length x.2,.int .i64 0]) (fun x W=>SW L x W) w) :=
 h.mono fun e w' ⟨v,g1,g2,g3⟩=>by
  obtain ⟨A,c,rfl⟩:=A5j g2
  exact ⟨(A,c),g1,⟨_,g2⟩,g3⟩
theorem B1D (w : World) (HT : Tab w) : Calls Tryz.prog 12 #[] w fun e w'=>e = .returned (.bool true) ∧ A3 w w':=by
 have hin:=fun W (x : Nat) (hz : Lz W (some ⟨x,0,none⟩) kP) (hT : Tab W)=>A9v (some ⟨x,0,none⟩) kP 3 3 rfl (by omega) (fun x hx=>Nat.le_trans (I9 A6b x hx) (by have := O7;omega)) W hz hT
 have hct:=fun W (x : Ax) (hp : PR kP x W) (hT : Tab W)=>A8e.count (lo:=B1 0) (hi:=B1 2) (A3y (by have h9 : qs (B1 0) ≤ 2:=(by decide);have := A0O;omega)) (A3y (by have h9 : qs (B1 2) ≤ 2:=(by decide);have := A0O;omega)) (by decide) x.1 x.2 W hp hT
 rw [B6z] at hct
 have hrt:=fun W (x : Ax) (hp : PR kP x W) (hT : Tab W)=>A9N (A8e.roots x.1 x.2 W hp hT)
 rw [B7P] at hrt
 have his : ∀ (n : Int),n = -3 ∨ n = 0 ∨ n = 3 → ∀ W,Calls Tryz.prog 43 #[qV (D8 n 1),.int .i64 n,.int .i64 1] W fun e w'=>e = .returned (.bool true) ∧ A3 W w':=fun n hn W=>B4K n 1 (by omega) (by omega) (by omega) (by omega) (by omega) (by rcases hn with rfl | rfl | rfl <;> decide) W
 have hkl : kP.length = 3:=rfl
 have hrl : [(D8 (-3) 1,D8 0 1),(D8 0 1,D8 3 1)].length = 2:=rfl
 rw [hkl] at hct hrt
 rw [hrl] at hrt
 have Hin:=Lib.hid hin
 have Hct:=Lib.hid hct
 have Hrt:=Lib.hid hrt
 have His:=Lib.hid his
 obtain ⟨Ls,hLs⟩ : ∃ L,L = [(D8 (-3) 1,D8 0 1),(D8 0 1,D8 3 1)]:=⟨_,rfl⟩
 rw [← hLs] at Hrt
 have h0 : Ls[0]? = some (D8 (-3) 1,D8 0 1):=by rw [hLs];rfl
 have h1 : Ls[1]? = some (D8 0 1,D8 3 1):=by rw [hLs];rfl
 have HLs:=Lib.hid (And.intro h0 h1)
 clear hin hct hrt his hkl hrl hLs h0 h1
 go_enter Tryz.func12,Tryz.ntmps12
 refine en0 ?_
 intro u hG hB hF
 refine wp_seq (rsE A5 [1,1,1,1,1,0] hB hG fun L hL=>?_)
 refine grd (G9 (B1 (-2))) (fun (x6 : Ax × Ax)=>?_) (C:=fun v _=>A0N (-2) (by omega) (by omega) _)
 refine grd (G9 (B1 0)) (fun (x7 : Ax × Ax)=>?_) (C:=by (rintro v ⟨⟨hgu,hB,hG,-⟩,hx6⟩;obtain ⟨hx6a,hx6b⟩ : Rn v x6.1 _ ∧ Rn v x6.2 _:=hx6;exact A0N 0 (by omega) (by omega) _))
 refine grd (G9 (B1 1)) (fun (x8 : Ax × Ax)=>?_) (C:=by (rintro v ⟨⟨⟨hgu,hB,hG,-⟩,hx6⟩,hx7⟩;obtain ⟨hx6a,hx6b⟩ : Rn v x6.1 _ ∧ Rn v x6.2 _:=hx6;obtain ⟨hx7a,hx7b⟩ : Rn v x7.1 _ ∧ Rn v x7.2 _:=hx7;exact A0N 1 (by omega) (by omega) _))
 refine gx Nat (fun b=>.slice (some ⟨b,0,none⟩) 3 3) (fun b W=>Blk W b 66 (([(x6,B1 (-2)),(x7,B1 0),(x8,B1 1)] : List Zr).flatMap zrL).toArray) (fun b u u' hg h=>h.grow hg) rfl ?_ (fun x9=>?_)
 ·(rintro v ⟨⟨⟨⟨hgu,hB,hG,-⟩,hx6⟩,hx7⟩,hx8⟩ N hN;go_simp;exact hN v.heap.size _ (Blk.new v 66 (([(x6,B1 (-2)),(x7,B1 0),(x8,B1 1)] : List Zr).flatMap zrL).toArray) (A3.alloc _ _))
 refine okf (by simp only [Act.put,List.setIfInBounds_toArray,List.set_cons_succ,List.set_cons_zero];exact rfl) ?_
 refine gxd (X:=Ax) (fun x : Ax=>.slice x.1 3 x.2) (fun x W=>PR kP x W) (fun x u u' hg h=>h.grow hg) (fun x10=>?_) (C:=by (rintro v ⟨⟨⟨⟨⟨hgu,hB,hG,-⟩,hx6⟩,hx7⟩,hx8⟩,hx9⟩;obtain ⟨hx6a,hx6b⟩ : Rn v x6.1 _ ∧ Rn v x6.2 _:=hx6;obtain ⟨hx7a,hx7b⟩ : Rn v x7.1 _ ∧ Rn v x7.2 _:=hx7;obtain ⟨hx8a,hx8b⟩ : Rn v x8.1 _ ∧ Rn v x8.2 _:=hx8;exact Hin.out _ x9 (B2J (ps:=[(x6,B1 (-2)),(x7,B1 0),(x8,B1 1)]) hx9 (B62 hx6a hx6b hx7a hx7b hx8a hx8b) (show (3 : Nat) ≤ 1000 by omega)) (HT.grow hG)))
 refine gs ?_
 refine geT hL ?_
 clear hB hG hL L
 rintro u ⟨⟨⟨⟨⟨⟨hgu,hB,hG,-⟩,hx6⟩,hx7⟩,hx8⟩,hx9⟩,hx10⟩
 obtain ⟨hx6a,hx6b⟩ : Rn u x6.1 _ ∧ Rn u x6.2 _:=hx6
 obtain ⟨hx7a,hx7b⟩ : Rn u x7.1 _ ∧ Rn u x7.2 _:=hx7
 obtain ⟨hx8a,hx8b⟩ : Rn u x8.1 _ ∧ Rn u x8.2 _:=hx8
 have HP:=Lib.hid hx10
 clear hx6a hx6b hx7a hx7b hx8a hx8b hx9 hx10
 clear hgu
 refine wp_seq (rsE A5 [0,1,1,1,0,0,0,0,0] hB hG fun L hL=>?_)
 refine gs ?_
 refine gmw (C:=fun v=>Y8 0 (by omega) (by omega) _) ?_
 refine gmw (C:=fun v=>Y8 2 (by omega) (by omega) _) ?_
 refine gmd (C:=fun v ⟨hgu,hB,hG,_⟩=>Hct.out _ x10 (HP.out.grow hgu) (HT.grow hG)) ?_
 refine gs ?_
 refine geT hL ?_
 clear hB hG hL L
 rintro u ⟨hgu,hB,hG,-⟩
 have HP2:=Lib.hid (HP.out.grow hgu)
 clear HP
 have HP:=HP2
 clear HP2
 clear hgu
 refine wp_seq (rsE A5 [0,1,0,0,0,0,0] hB hG fun L hL=>?_)
 refine gs ?_
 refine gxd (X:=Ax) (fun x : Ax=>.tuple #[.slice x.1 2 x.2,.int .i64 0]) (fun x W=>SW Ls x W) (fun x u u' hg h=>h.grow hg) (fun x20=>?_) (C:=by (rintro v ⟨hgu,hB,hG,-⟩;exact Hrt.out _ x10 (HP.out.grow hgu) (HT.grow hG)))
 refine gs ?_
 refine geT hL ?_
 clear hB hG hL L
 rintro u ⟨⟨hgu,hB,hG,-⟩,hx20⟩
 obtain ⟨g,e0,hr0⟩:=hx20.read HLs.out.1
 obtain ⟨g',e1,hr1⟩:=hx20.read HLs.out.2
 rw [e0] at e1
 obtain rfl : g = g':=by injection e1 with e1;injection e1
 obtain ⟨xa,xc⟩:=x20
 simp only at e0
 subst e0
 have Hr0:=Lib.hid hr0
 have Hr1:=Lib.hid hr1
 have hg0 : A3 u u:=A3.refl u
 obtain ⟨U,hU⟩ : ∃ x,x = u:=⟨_,rfl⟩
 rw [← hU] at Hr0 Hr1
 have hg0 : A3 U u:=hU ▸ A3.refl u
 clear hx20 hr0 hr1 hU HP
 clear hgu
 refine wp_seq (rsE A5 [0,0,0,0,0,0,0,0,0,0,0,0,0,0,0,0,0,0,0,0,1,0,0,0,0,0,0,1,0,0,0,0,0,0,1,0,0] hB hG fun L hL=>?_)
 repeat first | refine gya ?_ | refine gyr ?_ | refine gna ?_ | refine gyb (by (rintro v ⟨hgu,hB,hG,-⟩ N hN;have r:=hB.r;simp only [BxR] at r;obtain ⟨⟨q1,q2,q3,q4,q5⟩,r1,r2,r3,r4,r5⟩:=Hr0.out v (hg0.trans hgu);obtain ⟨⟨s1,s2,s3,s4,s5⟩,t1,t2,t3,t4,t5⟩:=Hr1.out v (hg0.trans hgu);go_simp;exact hN)) ?_
 first | refine gmw (C:=fun v=>His.out (-3) (.inl rfl) _) ?_ | refine H6 ?_
 repeat first | refine gya ?_ | refine gyr ?_ | refine gna ?_ | refine gyb (by (rintro v ⟨hgu,hB,hG,-⟩ N hN;have r:=hB.r;simp only [BxR] at r;obtain ⟨⟨q1,q2,q3,q4,q5⟩,r1,r2,r3,r4,r5⟩:=Hr0.out v (hg0.trans hgu);obtain ⟨⟨s1,s2,s3,s4,s5⟩,t1,t2,t3,t4,t5⟩:=Hr1.out v (hg0.trans hgu);go_simp;exact hN)) ?_
 first | refine gmw (C:=fun v=>His.out 0 (.inr (.inl rfl)) _) ?_ | refine H6 ?_
 repeat first | refine gya ?_ | refine gyr ?_ | refine gna ?_ | refine gyb (by (rintro v ⟨hgu,hB,hG,-⟩ N hN;have r:=hB.r;simp only [BxR] at r;obtain ⟨⟨q1,q2,q3,q4,q5⟩,r1,r2,r3,r4,r5⟩:=Hr0.out v (hg0.trans hgu);obtain ⟨⟨s1,s2,s3,s4,s5⟩,t1,t2,t3,t4,t5⟩:=Hr1.out v (hg0.trans hgu);go_simp;exact hN)) ?_
 first | refine gmw (C:=fun v=>His.out 3 (.inr (.inr rfl)) _) ?_ | refine H6 ?_
 refine gs ?_
 refine geT hL ?_
 clear hB hG hL L
 rintro u ⟨-,hB,hG,-⟩
 refine rt Tryz.results12 ?_
 exact ⟨rfl,hG⟩
theorem A8I {M : Rat} (hM : 0 ≤ M) : ∀ (l : List Rat),l ≠ [] → (∀ i,i + 1 < l.length → mg (gq l i) ≤ M * mg (gq l (l.length - 1))) → ∀ x,1 + M ≤ mg x → mg (gq l (l.length - 1)) ≤ mg (pv l x)
 | [],h,_,_,_=>absurd rfl h
 | [a],_,_,x,_=>by rw [N8];exact Rat.le_refl
 | a :: b :: l,_,h,x,hx=>by
  have e : ∀ i,gq (a :: b :: l) (i + 1) = gq (b :: l) i:=fun i=>rfl
  have el : (a :: b :: l).length - 1 = ((b :: l).length - 1) + 1:=by simp
  rw [el,e] at h ⊢
  have ih:=A8I hM (b :: l) (by simp) (fun i hi=>by
   have := h (i + 1) (by simp at hi ⊢;omega)
   rw [e] at this
   exact this) x hx
  have h1:=h 0 (by simp)
  rw [A0t] at h1
  generalize gq (b :: l) ((b :: l).length - 1) = t at *
  have h2 : (1 + M) * mg t ≤ mg x * mg (pv (b :: l) x):=by
   have g1:=Rat.mul_le_mul_of_nonneg_right hx (G8 t)
   have g2:=Rat.mul_le_mul_of_nonneg_left ih (G8 x)
   grind
  rw [← V9] at h2
  have h3:=A1e (pv (a :: b :: l) x) (-a)
  rw [A5t] at h3
  have h4 : pv (a :: b :: l) x + -a = x * pv (b :: l) x:=by rw [pv];grind
  rw [h4] at h3
  grind
theorem A7a (f : Nat → Rat) : ∀ n i,i < n → mg (f i) ≤ J7 f n
 | n + 1,i,h=>by
  unfold J7 Z5
  rw [A0D]
  by_cases hi : i = n
  ·subst hi
   split
   ·exact Rat.le_refl
   ·rename_i h1;exact Rat.not_lt.1 h1
  ·have h1:=A7a f n i (by omega)
   split
   ·rename_i h2;exact Rat.le_trans h1 (Rat.le_of_lt h2)
   ·exact h1
theorem A79 {p : List Rat} (h0 : trN p ≠ 0) {x : Rat} (hx : E0 p ≤ mg x) : mg (B6 p) ≤ mg (pv p x):=by
 have ht:=S2 h0
 have hM : 0 ≤ J7 (I5 p) (trN p - 1):=by
  have := A0k p
  have key : ∀ (f : Nat → Rat) n,0 ≤ J7 f n:=fun f n=>by
   induction n with
   | zero=>exact Rat.le_refl
   | succ n ih =>
    unfold J7 Z5
    split
    ·rw [A0D];exact G8 _
    ·exact ih
  exact key _ _
 have hne : trL p ≠ []:=fun e=>h0 (by rw [← E6,e];rfl)
 have h1:=A8I hM (trL p) hne (fun i hi=>by
  rw [E6] at hi ⊢
  rw [Q8,Q8]
  have h2:=A7a (I5 p) (trN p - 1) i (by omega)
  have h3 : I5 p i * B6 p = gq p i:=Rat.div_mul_cancel ht
  have h4:=Rat.mul_le_mul_of_nonneg_right h2 (G8 (B6 p))
  rw [← V9,h3] at h4
  exact h4) x (by
  have : E0 p = J7 (I5 p) (trN p - 1) + 1:=rfl
  rw [this] at hx
  grind)
 rw [E6,Q8,P5] at h1
 exact h1
theorem A9i {p : List Rat} (h : Pok p) {a c : Rat} (hac : a < c) (hout : ∀ y,a ≤ y → y ≤ c → E0 p ≤ mg y) : sV p a = sV p c:=by
 obtain ⟨d,e,hp⟩:=h.part
 have ht : 0 < mg (B6 p):=by
  have := S2 h.nz
  unfold mg;grind
 have hRa : mg a ≤ mg a + mg c:=by have := G8 c;grind
 have hRc : mg c ≤ mg a + mg c:=by have := G8 a;grind
 have hR : 0 ≤ mg a + mg c:=by have := G8 c;have := G8 a;grind
 generalize mg a + mg c = R at *
 have b1:=A1y hR (C5 p)
 have b2:=A48 hR d
 have hM : 0 < bq (C5 p) R * bp d R + 1:=by have := Rat.mul_nonneg b1 b2;grind
 have e1 : mg (B6 p) / (bq (C5 p) R * bp d R + 1) * (bq (C5 p) R * bp d R + 1) = mg (B6 p):=Rat.div_mul_cancel (by grind)
 have hδ : 0 < mg (B6 p) / (bq (C5 p) R * bp d R + 1):=by
  by_cases h9 : 0 < mg (B6 p) / (bq (C5 p) R * bp d R + 1)
  ·exact h9
  ·have := Rat.mul_nonneg (show 0 ≤ -(mg (B6 p) / (bq (C5 p) R * bp d R + 1)) by grind) (Rat.le_of_lt hM)
   grind
 generalize mg (B6 p) / (bq (C5 p) R * bp d R + 1) = δ at *
 refine A6K (Q:=fun x y=>sV p x = sV p y) hδ (fun x y h1 h2 h3 h4=>?_) (fun x m y _ _ i1 i2=>i1.trans i2) hac
 have hx:=P9 hRa hRc h1 (show x ≤ c by grind)
 have hy:=P9 hRa hRc (show a ≤ y by grind) h3
 rcases A32 (f:=C5 p) (Rat.le_of_lt h2) hx hy with ⟨t,hc⟩ | hc
 ·have hc : Cn (cC shL (C5 p) 0) x y t:=by rw [A04];exact hc
  rw [A0i,A0i]
  exact B08 h.st h2 hc
 ·exfalso
  have h5:=hc x Rat.le_refl (Rat.le_of_lt h2)
  have h6:=A79 h.nz (hout x h1 (by grind))
  rw [hp.eq,V9] at h6
  have h7:=A1a hx d
  have h8 : mg (pv (C5 p) x) * mg (pv d x) ≤ ((y - x) * bq (C5 p) R) * bp d R:=by
   have g1:=Rat.mul_le_mul_of_nonneg_right h5 (G8 (pv d x))
   have g2:=Rat.mul_le_mul_of_nonneg_left h7 (Rat.mul_nonneg (show 0 ≤ y - x by grind) b1)
   grind
  have h9 : (y - x) * (bq (C5 p) R * bp d R) ≤ δ * (bq (C5 p) R * bp d R):=Rat.mul_le_mul_of_nonneg_right (Rat.le_of_lt h4) (Rat.mul_nonneg b1 b2)
  grind
theorem B7O {p : List Rat} (h : Pok p) {x : Rat} (hx : pv p x = 0) : pv (C5 p) x = 0:=by
 obtain ⟨d,e,hp⟩:=h.part
 by_cases h0 : pv (C5 p) x = 0
 ·exact h0
 ·exfalso
  have hdiv : ∀ l : List Rat,∃ q,∀ y,pv l y = pv [-x,1] y * pv q y + pv l x:=fun l=>by
   obtain ⟨q,r,h1,h2⟩:=A6L (b:=[-x,1]) (by simp) (A6j x).tr l
   have h3:=h2 x
   rw [Y1] at h3
   have hr : ∀ y,pv r y = pv r x:=fun y=>by
    match r,h1 with
    | [],_=>rfl
    | [a],_=>rw [N8,N8]
    | a :: b :: r,h1=>simp at h1;omega
   refine ⟨q,fun y=>?_⟩
   rw [h2,hr y]
   grind
  obtain ⟨q,hq⟩:=hdiv (C5 p)
  have hc : Cop [-x,1] (C5 p):=⟨psc (-(1 / pv (C5 p) x)) q,[1 / pv (C5 p) x],fun y=>by
   have e1 : 1 / pv (C5 p) x * pv (C5 p) x = 1:=Rat.div_mul_cancel h0
   rw [F2,N8]
   have := hq y
   generalize pv (C5 p) x = k at *
   have h9 : 1 / k * pv (C5 p) y = 1 / k * (pv [-x,1] y * pv q y) + 1 / k * k:=by rw [this];grind
   rw [h9,e1];grind⟩
  have hs : Sqf [-x,1]:=⟨[],[1],fun y=>by rw [X1,N3];simp only [pv,pd];grind⟩
  obtain ⟨q2,hq2⟩:=hdiv p
  have hd : Dv [-x,1] p:=⟨q2,fun y=>by rw [hq2,hx];grind⟩
  obtain ⟨c,hc0,hcc⟩:=hp.const hs hc hd
  have h1:=hcc x
  rw [Y1] at h1
  grind
theorem B3K {p : List Rat} (h : Pok p) {x : Rat} (hx : pv p x = 0) : mg x < E0 p ∧ inN x (rootsP p) = 1:=by
 have h1 : mg x < E0 p:=by
  by_cases h9 : mg x < E0 p
  ·exact h9
  ·have h2:=A79 h.nz (Rat.not_lt.1 h9)
   rw [hx] at h2
   have h3 : mg 0 = 0:=rfl
   rw [h3] at h2
   exact absurd (A3V h2) (S2 h.nz)
 refine ⟨h1,?_⟩
 have hlt : -E0 p < E0 p:=by have := A0k p;grind
 have h2:=B7e (V:=sV p) (A:=-E0 p) (B:=E0 p) (x:=x) (fun a b _ hab _=>A7A h (Rat.le_of_lt hab)) (fun a b _ _ h3 h4=>by
  rw [A0i,A0i]
  exact B27 h.st h3 h4 (by rw [A04];exact B7O h hx)) DD _ _ Rat.le_refl hlt Rat.le_refl h.iok
 unfold rootsP isoP
 rw [h2,if_pos]
 rw [A9l] at h1
 exact ⟨by grind,by grind⟩
theorem A6y {V : Rat → Nat} : ∀ (d : Nat) (lo hi : Rat) (D : Nat),Spn lo hi D → ∀ s ∈ L7 V d lo hi,Spn s.1 s.2 (D + d)
 | 0,lo,hi,D,h,s,hs=>by
  unfold L7 at hs
  split at hs
  ·cases hs
  ·obtain rfl:=List.mem_singleton.1 hs
   exact h
 | d + 1,lo,hi,D,h,s,hs=>by
  unfold L7 at hs
  split at hs
  ·cases hs
  ·split at hs
   ·obtain rfl:=List.mem_singleton.1 hs
    exact h.mono (by omega)
   ·rcases List.mem_append.1 hs with hs | hs
    ·exact (A6y d _ _ _ h.mid.1 s hs).mono (by omega)
    ·exact (A6y d _ _ _ h.mid.2 s hs).mono (by omega)
theorem A4v {p : List Rat} (h : Pok p) {s : Rat × Rat} (hs : s ∈ rootsP p) : Spn s.1 s.2 DM:=by
 have := A6y DD _ _ _ (A72 h.bxz) s hs
 exact this.mono (by have := A3o;omega)
theorem A5s {p : List Rat} {lo hi : Rat} (h : lo < hi) : U7 (chL shL p) lo hi = (sV p lo : Int) - sV p hi:=by
 unfold U7
 rw [if_neg (by grind)]
 rfl
theorem A9I {p : List Rat} (h : Pok p) {s : Rat × Rat} (hs : s ∈ rootsP p) : s.1 < s.2 ∧ U7 (chL shL p) s.1 s.2 = 1:=by
 obtain ⟨h1,h2,h3,h4⟩:=h.rootsL.2.1 s hs
 exact ⟨h3,by rw [A5s h3];omega⟩
theorem B4d {p : List Rat} (h : Pok p) : U7 (chL shL p) (-E0 p) (E0 p) = ((rootsP p).length : Nat):=by
 have := h.rootsL.1
 rw [A5s (by have := A0k p;grind)];omega
theorem B6h {p : List Rat} (h : Pok p) : U7 (chL shL p) (E0 p * -1000) (E0 p * 1000) = ((rootsP p).length : Nat):=by
 have h0:=h.rootsL.1
 have hb:=A0k p
 have h1 : sV p (E0 p * -1000) = sV p (-E0 p):=A9i h (by grind) fun y h1 h2=>by unfold mg;grind
 have h2 : sV p (E0 p) = sV p (E0 p * 1000):=A9i h (by grind) fun y h1 h2=>by unfold mg;grind
 rw [A5s (by grind)];omega
theorem A8d : ∀ {a : Rat} {L : List (Rat × Rat)},A0R a L → ∀ i s t,L[i]? = some s → L[i + 1]? = some t → s.2 ≤ t.1
 | a,[],_,i,s,t,h,_=>by simp at h
 | a,x :: L,hr,0,s,t,h,h2=>by
  cases L with
  | nil=>simp at h2
  | cons y L =>
   simp at h h2
   subst h;subst h2
   exact hr.2.2.1
 | a,x :: L,hr,i + 1,s,t,h,h2=>A8d hr.2.2 i s t (by simpa using h) (by simpa using h2)
theorem B2U (x : Rat) (L : List (Rat × Rat)) {i : Nat} {s : Rat × Rat} (h : L[i]? = some s) : inN x (L.take (i + 1)) = inN x (L.take i) + if s.1 < x ∧ x ≤ s.2 then 1 else 0:=by
 rw [List.take_add_one,h,A6V]
 rfl
theorem A8Y (rs : List Int) {i : Nat} : ∀ n,i < n → pv (oTo rs n) (J4 (gi rs i)) = 0
 | n + 1,h=>by
  have hl : ∀ r,pv (H5 r) (J4 r) = 0:=fun r=>by rw [B6J];grind
  rw [oTo]
  by_cases hi : i = n
  ·subst hi
   split <;> simp only [A0B,hl] <;> grind
  ·have ih:=A8Y rs (i:=i) n (by omega)
   split <;> simp only [A0B,ih] <;> grind
theorem B7f (rs more : List Int) {i : Nat} (h : i < min rs.length 4) : pv (I3 rs more) (J4 (gi rs i)) = 0:=by
 have h1:=A8Y rs _ h
 unfold I3
 split
 ·exact h1
 ·rw [A0B,h1];grind
theorem B2e (A0 : Option Addr) (l0 : List Int) (c0 : Nat) (A1 : Option Addr) (l1 : List Int) (c1 : Nat) (hn0 : l0.length ≤ 9223372036854775807) (hb0 : ∀ x ∈ l0,-9223372036854775808 ≤ x ∧ x ≤ 9223372036854775807) (hn1 : l1.length ≤ 9223372036854775807) (hb1 : ∀ x ∈ l1,-9223372036854775808 ≤ x ∧ x ≤ 9223372036854775807) (w : World) (h0 : Li w A0 l0) (h1 : Li w A1 l1) : (∀ W,A3 w W → Calls Tryz.prog 9 #[.slice A0 l0.length c0,.slice A1 l1.length c1,.int .i64 0] W (R7 (I3 l0 l1) W)) ∧ ∀ (W : World) (x : Ax),Lz W x.1 (I3 l0 l1) → Tab W → Calls Tryz.prog 8 #[.slice x.1 (I3 l0 l1).length x.2] W (F8 (I3 l0 l1) W):=by
 refine ⟨fun W hg=>?_,fun W x hx hT=>?_⟩
 ·have h:=B4w A0 A1 l0 l1 l0.length l1.length c0 c1 0 rfl rfl hn0 hn1 hb0 hb1 W (h0.grow hg) (h1.grow hg)
  have e : A3m l0 l1 0 = I3 l0 l1:=by unfold A3m;rw [if_neg (by decide)]
  rw [e] at h
  exact h
 ·exact A9v x.1 (I3 l0 l1) x.2 _ rfl (by have := A4D l0 l1;omega) (fun y hy=>Nat.le_trans (I9 (A68 l0 l1) y hy) (by have := O7;omega)) W hx hT
theorem B6v (A0 : Option Addr) (n0 c0 : Nat) (A1 : Option Addr) (n1 c1 : Nat) (P : List Rat) (nP : Nat) (hnP : nP = P.length) (h0 : trN P = 0) (hlen : P.length ≤ 1000) (hz : ∀ x ∈ P,qs x ≤ BIG) (w : World) (HT : Tab w) (hone : ∀ W,A3 w W → Calls Tryz.prog 9 #[.slice A0 n0 c0,.slice A1 n1 c1,.int .i64 0] W (R7 P W)) (hin : ∀ (W : World) (x : Ax),Lz W x.1 P → Tab W → Calls Tryz.prog 8 #[.slice x.1 P.length x.2] W (F8 P W)) : Calls Tryz.prog 3 #[.slice A0 n0 c0,.slice A1 n1 c1] w fun e w'=>e = .returned (.bool true) ∧ A3 w w':=by
 have hrq : Y9 P = 6:=by unfold Y9;rw [if_pos h0]
 have hrt : ∀ (W : World) (x : Ax),PR P x W → Calls Tryz.prog 10 #[.slice x.1 P.length x.2] W fun e w'=>e = .returned (.tuple #[.slice none 0 0,.int .i64 6]) ∧ A3 W w':=fun W x hx =>
  B19 x.1 x.2 P.length 6 rfl 0 W fun V hg=>B6N x.1 x.2 P.length 6 rfl V fun U hg2=>by
   have := A3v x.1 P P.length x.2 rfl hx.2.1 (by omega) hz U ((hx.grow (hg.trans hg2)).1)
   rw [hrq] at this
   exact this
 have hdg : ∀ (W : World) (x : Ax),PR P x W → Z4 11 #[.slice x.1 P.length x.2] W (-1):=fun W x hx=>by
  have := A2K x.1 P P.length x.2 rfl hx.2.1 (by omega) hz W hx.1
  rw [h0] at this
  exact this
 unfold R7 F8 at *
 simp only [← hnP] at hone hin hrt hdg
 have Hone:=Lib.hid hone
 have Hin:=Lib.hid hin
 have Hrt:=Lib.hid hrt
 have Hdg:=Lib.hid hdg
 clear hone hin hrt hdg hz hlen hnP h0 hrq
 go_enter Tryz.func3,Tryz.ntmps3
 refine en0 ?_
 intro u hG hB hF
 refine wp_seq (rsE A5 [0,0,1,1,0] hB hG fun L hL=>?_)
 refine gs ?_
 refine gxd (X:=Ax) (fun x : Ax=>.slice x.1 nP x.2) (fun x W=>Lz W x.1 P) (fun x u u' hg h=>h.grow hg) (fun x23=>?_) (C:=by (rintro v ⟨hgu,hB,hG,-⟩;exact (Hone.out _ hG).mono fun e W ⟨x,g1,g2,g3⟩=>⟨x,g1,g2.lz,g3⟩))
 refine gxd (X:=Ax) (fun x : Ax=>.slice x.1 nP x.2) (fun x W=>PR P x W) (fun x u u' hg h=>h.grow hg) (fun x24=>?_) (C:=by (rintro v ⟨⟨hgu,hB,hG,-⟩,hx23⟩;exact Hin.out _ x23 hx23 (HT.grow hG)))
 refine gs ?_
 refine geT hL ?_
 clear hB hG hL L
 rintro u ⟨⟨⟨hgu,hB,hG,-⟩,hx23⟩,hx24⟩
 have HP:=Lib.hid hx24
 clear hx23 hx24
 clear hgu
 refine wp_seq (rsE A5 [0,1,0,0,0,0,0] hB hG fun L hL=>?_)
 refine gs ?_
 refine gmd (C:=fun v ⟨hgu,hB,hG,_⟩=>Hrt.out _ x24 (HP.out.grow hgu)) ?_
 refine gs ?_
 refine geT hL ?_
 clear hB hG hL L
 rintro u ⟨hgu,hB,hG,-⟩
 have HP2:=Lib.hid (HP.out.grow hgu)
 clear HP
 have HP:=HP2
 clear HP2
 clear hgu
 refine wp_seq ?_
 refine wp_seq (rsE A5 [0,1,0] hB hG fun L hL=>?_)
 refine gs ?_
 refine gmd (C:=fun v ⟨hgu,hB,hG,_⟩=>Hdg.out _ x24 (HP.out.grow hgu)) ?_
 refine gs ?_
 refine geT hL ?_
 clear hB hG hL L
 rintro u ⟨-,hB,hG,-⟩
 refine wp_cond_true (rfl) ?_
 refine wp_seq (rsE A5 [1,0,0,0,0,0] hB hG fun L hL=>?_)
 refine gmd (C:=fun v ⟨hgu,hB,hG,_⟩=>B1D _ (HT.grow hG)) ?_
 refine gs ?_
 refine geT hL ?_
 clear hB hG hL L
 rintro u ⟨-,hB,hG,-⟩
 refine rt Tryz.results3 ?_
 exact ⟨rfl,hG⟩
theorem A7V {a b : Rat} (h : a < b) : H4 a b = -1:=by unfold H4;rw [if_pos h]
theorem B0u {a b : Rat} (h : a ≤ b) : H4 a b ≤ 0:=by
 unfold H4
 by_cases h1 : a < b
 ·rw [if_pos h1];omega
 ·rw [if_neg h1,if_neg (by grind)];omega
theorem B2T {a b : Rat} (h : ¬ a < b) : 0 ≤ H4 a b:=by
 unfold H4
 rw [if_neg h]
 split <;> omega
theorem B59 {a b : Rat} (h : ¬ a ≤ b) : 0 < H4 a b:=by
 unfold H4
 rw [if_neg (by grind),if_pos (by grind)]
 omega
end Go.Proofs.YtlkniebmjdoopaaGreatDoor
