/- Contracts and laws. -/
import Derived.Test.YtlkniebmjdoopaaGreatDoorK47
import Derived.Test.YtlkniebmjdoopaaGreatDoorK48
set_option linter.unusedSimpArgs false
set_option linter.unusedVariables false
set_option maxHeartbeats 400000
namespace Go.Proofs.YtlkniebmjdoopaaGreatDoor
open Go Go.RowKit
theorem B3k {a b : List Rat} {S n : Nat} (ha : Czl a S) (hb : Czl b S) (h0 : trN a ≠ 0) (hge : trN a ≤ trN b) (hn : trN b ≤ n) (hla : a.length ≤ 1000) (hlb : b.length ≤ 1000) (hB : 16 * ((2 * S + 2) * C9 n) + 1000 ≤ BIG) : A0N 104 a b (C8 a b):=by
 have hp:=Nat.mul_le_mul_left (2 * S + 2) (A3X n)
 have t0:=U7 a
 have t1:=U7 b
 obtain ⟨hN,hNz⟩:=A1S t0 t1
 obtain ⟨N,hNe⟩ : ∃ N,N = gN (E1 a) (E1 b):=⟨_,rfl⟩
 obtain ⟨G,hG⟩ : ∃ G,G = gG (E1 a) (E1 b):=⟨_,rfl⟩
 have hG2 : ∀ i,G (i + 2) = E1 (B7 (G i) (G (i + 1))).2:=by rw [hG];exact A01 _ _
 have hGt : ∀ i,Trm (G i):=by rw [hG];exact A23 t0 t1
 have hGd : ∀ i,(G (i + 1)).length ≠ 0 → (G (i + 2)).length < (G (i + 1)).length:=by rw [hG];exact A5r t0 t1
 have e0 : G 0 = E1 a:=by rw [hG];rfl
 have e1 : G 1 = E1 b:=by rw [hG];rfl
 have el : C8 a b = G N:=by unfold C8;rw [hG,hNe]
 rw [← hNe,← hG] at hN hNz
 obtain ⟨nn,hnn⟩ : ∃ nn : Nat → Nat,nn = fun i=>(G (i + 1)).length:=⟨_,rfl⟩
 have hnl : ∀ i,(G (i + 1)).length = nn i:=fun i=>by rw [hnn]
 have hn0 : nn 0 = trN b:=by rw [← hnl,e1,R7]
 have hl0 : (G 0).length = trN a:=by rw [e0,R7]
 have hN1 : 1 ≤ N:=by
  rcases Nat.eq_zero_or_pos N with h | h
  ·rw [h] at hN
   rw [hnl,hn0] at hN
   omega
  ·exact h
 have c0 : Czl (G 0) S:=by rw [e0];exact A0I ha
 have c1 : Czl (G 1) S:=by rw [e1];exact A0I hb
 have z1 : trN (G 1) ≠ 0:=by rw [E5 (hGt _)];exact hNz 0 (by omega)
 have hd0:=V4 c0 c1 z1
 have hS2 : S + (trN (G 0) + 1 - trN (G 1)) * (S + 1) ≤ 2 * S + 1:=by
  rw [E5 (hGt _),E5 (hGt _),hl0,hnl 0,hn0]
  have h1 : trN a + 1 - trN b ≤ 1:=by omega
  have := Nat.mul_le_mul_right (S + 1) h1
  omega
 have hcz : ∀ i,i + 1 ≤ N → Czl (G (i + 1)) (zR nn (2 * S + 1) i).1 ∧ Czl (G (i + 2)) (zR nn (2 * S + 1) i).2:=by
  intro i
  induction i with
  | zero=>exact fun _=>⟨c1.mono (by show S ≤ 2 * S + 1;omega),by rw [hG2];exact A0I (hd0.2.1.mono hS2)⟩
  | succ i ih =>
   intro hi
   obtain ⟨c1,c2⟩:=ih (by omega)
   refine ⟨c2,?_⟩
   have hz : trN (G (i + 2)) ≠ 0:=by rw [E5 (hGt _)];exact hNz (i + 1) (by omega)
   have h:=(V4 c1 c2 hz).2.1
   rw [E5 (hGt _),E5 (hGt _),hnl,hnl] at h
   rw [show i + 1 + 2 = (i + 1) + 2 from rfl,hG2]
   exact A0I h
 obtain ⟨M,hM⟩ : ∃ M,N = M + 1:=⟨N - 1,by omega⟩
 have hd : ∀ i,i ≤ M → nn (i + 1) < nn i:=fun i hi=>by
  rw [← hnl,← hnl]
  exact hGd i (hNz i (by omega))
 have hpos : ∀ i,i ≤ M → 1 ≤ nn i:=fun i hi=>by
  have := hd i hi;omega
 have hbd : ∀ i,i ≤ M → (zR nn (2 * S + 1) i).1 + 1 ≤ (2 * S + 2) * C9 n ∧ (zR nn (2 * S + 1) i).2 + 1 ≤ (2 * S + 2) * C9 n:=fun i hi=>by
  have b12 : (zR nn (2 * S + 1) i).1 + 1 ≤ (2 * S + 2) * C9 (nn 0) ∧ (zR nn (2 * S + 1) i).2 + 1 ≤ (2 * S + 2) * C9 (nn 0):=A6e (S:=2 * S + 1) hd hpos hi
  obtain ⟨b1,b2⟩:=b12
  have := Nat.mul_le_mul_left (2 * S + 2) (A0p (show nn 0 ≤ n by omega))
  omega
 have hl1000 : ∀ i,i ≤ M + 1 → (G (i + 1)).length ≤ 1000:=fun i hi=>by
  have h1 : (G 1).length ≤ 1000:=by rw [e1,R7];have := G4 b;omega
  cases i with
  | zero=>exact h1
  | succ i =>
   have h2:=hd i (by omega)
   have h3:=(A4w (S:=2 * S + 1) hd (show i ≤ M by omega)).2
   rw [hnl] at h1 ⊢
   omega
 have hl0' : (G 0).length ≤ 1000:=by rw [hl0];have := G4 a;omega
 rw [el]
 refine A8Z G (fun i=>(B7 (G i) (G (i + 1))).1) (fun i=>(B7 (G i) (G (i + 1))).2) N ?_ ?_ ?_ ?_ (fun i hi=>hGd i (hNz i hi)) hN
 ·rw [e0];exact A0i hla (S + 50) (by omega) (fun x hx=>Nat.le_trans (G9 ha x hx) (by omega)) (by omega)
 ·rw [e1];exact A0i hlb (S + 50) (by omega) (fun x hx=>Nat.le_trans (G9 hb x hx) (by omega)) (by omega)
 ·intro i hi
  cases i with
  | zero =>
   have hdz : DvZ (trL (G 0)) (trL (G 1)) (2 * ((2 * S + 2) * C9 n)):=A12 hd0.2.2 (by omega)
   have hz1 : (G 1).length ≤ 1000:=hl1000 0 (by omega)
   show A1D (G 0) (G 1) (B7 (G 0) (G 1)).1 (B7 (G 0) (G 1)).2
   exact A2G hl0' hz1 ((2 * S + 2) * C9 n) (fun x hx=>Nat.le_trans (G9 c0 x hx) (by omega)) (fun x hx=>Nat.le_trans (G9 c1 x hx) (by omega)) (2 * ((2 * S + 2) * C9 n)) (by omega) hdz (by omega) (by omega)
  | succ i =>
   obtain ⟨c1,c2⟩:=hcz i (by omega)
   have hz : trN (G (i + 2)) ≠ 0:=by rw [E5 (hGt _)];exact hNz (i + 1) hi
   obtain ⟨-,-,h3⟩:=V4 c1 c2 hz
   obtain ⟨b1,b2⟩:=hbd i (by omega)
   obtain ⟨b3,b4⟩:=hbd (i + 1) (by omega)
   have b5 : (zR nn (2 * S + 1) i).1 + (trN (G (i + 1)) + 1 - trN (G (i + 2))) * ((zR nn (2 * S + 1) i).2 + 1) = (zR nn (2 * S + 1) (i + 1)).2:=by
    rw [E5 (hGt _),E5 (hGt _),hnl,hnl];rfl
   have hdz : DvZ (trL (G (i + 1))) (trL (G (i + 2))) (2 * ((2 * S + 2) * C9 n)):=A12 h3 (by omega)
   show A1D (G (i + 1)) (G (i + 2)) (B7 (G (i + 1)) (G (i + 2))).1 (B7 (G (i + 1)) (G (i + 2))).2
   exact A2G (hl1000 i (by omega)) (hl1000 (i + 1) (by omega)) ((2 * S + 2) * C9 n) (fun x hx=>Nat.le_trans (G9 c1 x hx) (by omega)) (fun x hx=>Nat.le_trans (G9 c2 x hx) (by omega)) (2 * ((2 * S + 2) * C9 n)) (by omega) hdz (by omega) (by omega)
 ·intro i hi
  cases i with
  | zero =>
   show I3 148 (B7 (G 0) (G 1)).2 (G (0 + 2))
   rw [hG2]
   have hl:=A0m (G 0) (G 1) z1
   show I3 148 (B7 (G 0) (G 1)).2 (E1 (B7 (G 0) (G 1)).2)
   have hl3:=G4 (G 1)
   have hl2 : (G 1).length ≤ 1000:=hl1000 0 (by omega)
   exact A0i (by omega) ((2 * S + 2) * C9 n + 50) (by omega) (fun x hx=>Nat.le_trans (G9 (hd0.2.1.mono hS2) x hx) (by omega)) (by omega)
  | succ i =>
   obtain ⟨c1,c2⟩:=hcz i (by omega)
   have hz : trN (G (i + 2)) ≠ 0:=by rw [E5 (hGt _)];exact hNz (i + 1) hi
   have h:=(V4 c1 c2 hz).2.1
   obtain ⟨b3,b4⟩:=hbd (i + 1) (by omega)
   rw [E5 (hGt _),E5 (hGt _),hnl,hnl] at h
   have h4 : (zR nn (2 * S + 1) i).1 + (nn i + 1 - nn (i + 1)) * ((zR nn (2 * S + 1) i).2 + 1) = (zR nn (2 * S + 1) (i + 1)).2:=rfl
   rw [h4] at h
   clear h4 c1 c2
   have hq : ∀ x ∈ (B7 (G (i + 1)) (G (i + 2))).2,qs x ≤ (2 * S + 2) * C9 n + 50:=fun x hx=>by
    have h5:=G9 h x hx
    generalize (zR nn (2 * S + 1) (i + 1)).2 = zb at *
    omega
   clear b3 b4 h hcz hbd
   rw [hG2 (i + 1)]
   have hl:=A0m (G (i + 1)) (G (i + 2)) hz
   have hl2 : (G (i + 2)).length ≤ 1000:=hl1000 (i + 1) (by omega)
   have hl3:=G4 (G (i + 2))
   have hl4 : (B7 (G (i + 1)) (G (i + 2))).2.length ≤ 1000:=by omega
   have hfin:=A0i hl4 ((2 * S + 2) * C9 n + 50) (by
    clear hq hl4 hl3 hl2 hl hz hd hpos hl1000 hl0'
    omega) hq (by
    clear hq hl4 hl3 hl2 hl hz hd hpos hl1000 hl0'
    omega)
   exact hfin
theorem B4Q {a b : List Rat} {S n : Nat} (ha : Czl a S) (hb : Czl b S) (h0 : trN a ≠ 0) (hna : trN a ≤ n) (hnb : trN b ≤ n) (hla : a.length ≤ 1000) (hlb : b.length ≤ 1000) (hB : 16 * ((2 * S + 2) * C9 n) + 1000 ≤ BIG) : A0N 104 a b (C8 a b):=by
 rcases Nat.lt_or_ge (trN b) (trN a) with h | h
 ·exact A9V ha hb h0 h hna hla hlb (by
   have := Nat.mul_le_mul_right (C9 n) (show S + 1 ≤ 2 * S + 2 by omega)
   omega)
 ·exact B3k ha hb h0 h hnb hla hlb hB
theorem B6o (f : List Rat) (x : Rat) : R1 f x = spl f x:=by
 unfold R1 spl
 simp only [A4O,A18]
theorem B5c {f : List Rat} (hm : Trm f) (hs : Sqf f) {lo hi : Rat} {k : Nat} {s : Rat × Rat} (h : HOk f lo hi k s) : A2Q f (R1 f lo) s = hlf (vF f) s:=by
 obtain ⟨m1,m2,-,-⟩:=A32 h.lt
 have g1:=(A9D hm hs m1 m2 h.one).1
 unfold A2Q hlf
 rw [A4O,B6o,← h.sd]
 by_cases hc : sgr (pv f (D6 s.1 s.2)) = spl f s.1
 ·rw [if_pos hc,if_pos (g1.1 hc)]
 ·rw [if_neg hc,if_neg fun e=>hc (g1.2 e)]
theorem A2C (p : List Rat) : sV p = vF (B4 p):=funext fun x=>A15 x
structure SpL (s : Rat × Rat) : Prop where
 lt : s.1 < s.2
 lo : mg s.1 ≤ p2 RH
 hi : mg s.2 ≤ p2 RH
 ex : ∃ e,e ≤ DD ∧ Spn s.1 s.2 (RH + e) ∧ (s.2 - s.1) * p2 e ≤ p2 (RH + 1)
section
variable {p : List Rat}
theorem B2D {x : Rat} {D : Nat} (h : Xz x D) (h0 : 0 < x) : 1 ≤ x * p2 D:=by
 obtain ⟨u,v,v0,h1,h2,h3⟩:=h
 have hu : u ≠ 0:=fun e=>by
  rw [e] at h3
  rcases Rat.mul_eq_zero.1 (h3.trans Rat.intCast_zero) with h | h
  ·grind
  ·exact X5 v0 h
 have h4:=A1Y hu
 rw [← h3,A0E] at h4
 have h5 : mg x = x:=by unfold mg;grind
 rw [h5] at h4
 have h6:=Rat.mul_le_mul_of_nonneg_left (A1L h2) (Rat.le_of_lt h0)
 grind
theorem Pok.atf (h : Pok p) {x : Rat} (hx : Xz x DM) : T3 (B4 p) x:=A4M h.f hx h.fl (by omega) (by rw [Q6,K5];omega)
theorem Pok.qsf (h : Pok p) : ∀ x ∈ B4 p,qs x ≤ 201:=fun x hx=>Nat.le_trans (G9 h.f x hx) (by omega)
theorem Pok.above (h : Pok p) {x : Rat} (hx : Xz x DM) (W : World) (y : Ax) (hp : PR (B4 p) y W) (hT : Tab W) : F9 96 #[.slice y.1 (B4 p).length y.2,qV x] W (R1 (B4 p) x) :=
 have hl:=h.fl
 B4c y.1 y.2 _ (B4 p) rfl x (h.atf hx) (A5b (by omega) 201 h.qsf (by rw [K5];omega)) (A4M (A30 (Y:=5) h.f (by omega)) hx (n:=15) (by have := A3U (B4 p);have := G4 (B4 p);omega) (by omega) (by rw [Q6,K5];omega)) W hp hT
theorem Pok.half (h : Pok p) {lo hi : Rat} {k : Nat} {s t : Rat × Rat} {D : Nat} (ht : t = hlf (sV p) s) (hs : HOk (B4 p) lo hi k s) (hz : Spn s.1 s.2 D) (hD : D + 1 ≤ DM) (W : World) (y : Ax) (hp : PR (B4 p) y W) (hT : Tab W) : F5 98 #[.slice y.1 (B4 p).length y.2,.int .i64 (R1 (B4 p) lo),spV s.1 s.2] W (spV t.1 t.2):=by
 have h1:=B5T y.1 y.2 _ (B4 p) rfl (R1 (B4 p) lo) s.1 s.2 DM (Nat.le_trans hz.lo.qs (by omega)) (Nat.le_trans hz.hi.qs (by omega)) (by rw [Q6,K5];omega) (h.atf (hz.mid.1.hi.mono hD)) W hp hT
 have e : ((s.1,s.2) : Rat × Rat) = s:=rfl
 rw [e,B5c h.mon.tr h.sqf hs,← A2C,← ht] at h1
 exact h1
theorem B3c : 2 * RH + 2 ≤ DD:=by rw [A20,A0d,A5Y];omega
theorem A8c {d : Rat} (h : 0 < d) : 0 < d.num.sign:=by
 have h1:=A5N h
 rw [Int.sign_eq_one_of_pos h1];omega
theorem B1z (a b : Rat) : 0 < K6 a b ↔ b < a:=by
 have := A68 (a:=a) (b:=b)
 by_cases h : b < a
 ·rw [decide_eq_true h] at this
  exact ⟨fun _=>h,fun _=>of_decide_eq_true this⟩
 ·rw [decide_eq_false h] at this
  exact ⟨fun h2=>absurd h2 (of_decide_eq_false this),fun h2=>absurd h2 h⟩
theorem Pok.ins (h : Pok p) {lo hi : Rat} (h1 : Xz lo DM) (h2 : Xz hi DM) (W : World) (y : Ax) (hr : RW (chL shL p) y.1 W) (hT : Tab W) : F9 55 #[.slice y.1 (cK shL (B4 p) + 1) y.2,spV lo hi] W (J7 (chL shL p) lo hi):=h.inside h1 h2 y.1 y.2 W hr hT
theorem Pok.narrow (h : Pok p) {s : Rat × Rat} (hs : SpL s) (h1 : sV p s.1 = sV p s.2 + 1) {d : Rat} (hd : Xz d RH) (hd0 : 0 < d) : ∃ K,(∀ k,k ≤ K → Spn (hSq (sV p) s k).1 (hSq (sV p) s k).2 (DM - 1)) ∧ (∀ k,k ≤ K → (d < (hSq (sV p) s k).2 - (hSq (sV p) s k).1 ↔ k < K)) ∧ ∀ (A : Option Addr) (c : Nat) (w : World),PR p (A,c) w → Tab w → F5 36 #[.slice A p.length c,spV s.1 s.2,qV d] w (.tuple #[spV (hSq (sV p) s K).1 (hSq (sV p) s K).2,.int .i64 0]):=by
 obtain ⟨e,e1,e2,e3⟩:=hs.ex
 have h1':=h1
 rw [A2C] at h1'
 have ok:=A5c h.mon.tr h.sqf hs.lt h1'
 have ep : ((s.1,s.2) : Rat × Rat) = s:=rfl
 rw [ep,← A2C] at ok
 obtain ⟨K,k1,k2⟩:=B2u (V:=sV p) (lo:=s.1) (hi:=s.2) hs.lt e3 (B2D hd hd0) (fun k=>(ok k).len)
 rw [ep] at k2
 have hdd:=B3c
 have hdm:=A3u
 have hz : ∀ k,k ≤ K → Spn (hSq (sV p) s k).1 (hSq (sV p) s k).2 (DM - 1):=fun k hk=>(A5U e2 k).mono (by omega)
 refine ⟨K,hz,k2,fun A c w hp HT=>?_⟩
 have hI : J7 (chL shL p) s.1 s.2 = 1:=by rw [A1Q hs.lt];omega
 have hx1 : Xz s.1 DM:=(hz 0 (by omega)).lo.mono (by omega)
 have hx2 : Xz s.2 DM:=(hz 0 (by omega)).hi.mono (by omega)
 have s0 : hSq (sV p) s 0 = s:=rfl
 have s1 : ∀ k,hSq (sV p) s (k + 1) = hlf (sV p) (hSq (sV p) s k):=fun _=>rfl
 obtain ⟨SS,hSS⟩ : ∃ F,F = hSq (sV p) s:=⟨_,rfl⟩
 rw [← hSS] at ok k2 hz s0 ⊢
 simp only [← hSS] at s1
 have eB:=K5
 have eD:=Q6
 have eR:=A0d
 have hz1 : ∀ k,k ≤ K → qs (SS k).1 ≤ DM ∧ qs (SS k).2 ≤ DM:=fun k hk=>⟨Nat.le_trans (hz k hk).lo.qs (by omega),Nat.le_trans (hz k hk).hi.qs (by omega)⟩
 have hqd:=hd.qs
 have hin : ∀ W (y : Ax),RW (chL shL p) y.1 W → Tab W → F9 55 #[.slice y.1 (cK shL (B4 p) + 1) y.2,spV s.1 s.2] W 1:=fun W y hr hT=>by
  have := h.ins hx1 hx2 W y hr hT
  rw [hI] at this
  exact this
 have hab : ∀ W (x : Ax),PR (B4 p) x W → Tab W → F9 96 #[.slice x.1 (B4 p).length x.2,qV s.1] W (R1 (B4 p) s.1):=fun W x hx hT=>h.above hx1 W x hx hT
 have hhf : ∀ k,k < K → ∀ W (x : Ax),PR (B4 p) x W → Tab W → F5 98 #[.slice x.1 (B4 p).length x.2,.int .i64 (R1 (B4 p) s.1),spV (SS k).1 (SS k).2] W (spV (SS (k + 1)).1 (SS (k + 1)).2):=fun k hk W x hx hT=>h.half (s1 k) (ok k) (hz k (by omega)) (by omega) W x hx hT
 clear hs h1 ok s1 hx1 hx2 hI e2 e3 k1 hSS
 subst s0
 exact B3O A c p.length _ (B4 p) (chL shL p) SS (fun k=>A0e (SS k).2 (SS k).1) K d d.num.sign (R1 (B4 p) (SS 0).1) (A8c hd0) w HT (fun W hg=>h.refuse A c W (hp.grow hg)) (fun W=>Q7 d (by have := F8 d;omega) W) (fun W hg=>h.signs W A c (hp.grow hg) (HT.grow hg)) hin (fun W hg=>h.free W (A,c) (hp.grow hg) (HT.grow hg)) hab (fun k hk W hT=>A8h _ _ W (by have := hz1 k hk;omega) hT) (fun k hk=>⟨K6 (A0e (SS k).2 (SS k).1) d,by rw [B1z];exact k2 k hk,fun W=>A2S _ _ W (by
  have h9 : qs (A0e (SS k).2 (SS k).1) ≤ qs (SS k).2 + qs (SS k).1 + 1:=B6x _ _
  have := hz1 k hk
  omega)⟩) hhf
theorem Pok.deg (l : List Rat) (hl : l.length ≤ 1000) (hs : ∀ x ∈ l,qs x ≤ BIG) (W : World) (y : Ax) (hp : PR l y W) : F9 11 #[.slice y.1 l.length y.2] W ((trN l : Int) - 1):=A2c y.1 l l.length y.2 rfl hp.2.1 (by omega) hs W hp.1
theorem Pok.narrow_arg (h : Pok p) {lo hi d : Rat} (h1 : Xz lo DM) (h2 : Xz hi DM) (hI : J7 (chL shL p) lo hi ≠ 1) (hd : qs d ≤ 1000) (hd0 : 0 < d) (A : Option Addr) (c : Nat) (w : World) (hp : PR p (A,c) w) (HT : Tab w) : F5 36 #[.slice A p.length c,spV lo hi,qV d] w (.tuple #[spV 0 0,.int .i64 1]) :=
 B2R A c p.length _ (chL shL p) lo hi d d.num.sign (J7 (chL shL p) lo hi) (A8c hd0) (by simp [hI]) w HT (fun W hg=>h.refuse A c W (hp.grow hg)) (fun W=>Q7 d (by have := F8 d;omega) W) (fun W hg=>h.signs W A c (hp.grow hg) (HT.grow hg)) (fun W y hr hT=>h.ins h1 h2 W y hr hT)
theorem B5n {g : List Rat} (hm : Mon g) (hs : Sqf g) : B4 g = g:=by
 obtain ⟨d,e,h1,h2⟩:=A4e (P0.1 hm.nz)
 exact A3t h2 hm ⟨d,h1.eq⟩ (h1.dvd hs (Dv.refl g))
theorem B22 {g : List Rat} (hs : Sm p 200) (hn : trN p ≤ 15) (hg : Mon g) (hd : Dv g p) : Pok g:=by
 have h1:=hd.len hg hs.1
 have h2:=G4 g
 exact A55 (S:=200) (by omega) (hs.2 g hg hd) ⟨hg.nz,fun f hf hfd=>hs.2 f hf (hfd.trans hd)⟩ (by omega) (by omega)
structure CmOk (p q : List Rat) : Prop where
 mon : Mon (C8 (B4 p) q)
 dvf : Dv (C8 (B4 p) q) (B4 p)
 dvq : Dv (C8 (B4 p) q) q
 st : ∃ s t : List Rat,∀ x,pv (C8 (B4 p) q) x = pv s x * pv (B4 p) x + pv t x * pv q x
 pok : Pok (C8 (B4 p) q)
 self : B4 (C8 (B4 p) q) = C8 (B4 p) q
 call : A0N 104 (B4 p) q (C8 (B4 p) q)
theorem A9y (h : Pok p) (hs : Sm p 200) (hn : trN p ≤ 15) {q : List Rat} {S : Nat} (hS : S ≤ 200) (hq : Czl q S) (hql : q.length ≤ 32) (hqn : trN q ≤ 16) : CmOk p q:=by
 have hf0:=P0.1 h.mon.nz
 obtain ⟨d,e,hp⟩:=h.part
 have hm:=A4F q hf0
 obtain ⟨g1,g2,g3⟩:=A4E (B4 p) q
 have hl:=h.fl
 have hle:=G4 (B4 p)
 refine ⟨hm,g1,g2,g3,B22 hs hn hm (g1.trans ⟨d,hp.eq⟩),B5n hm (B5N h.mon h.sqf g1 hm),B4Q (S:=200) (n:=16) h.f (hq.mono hS) hf0 (by omega) hqn (by omega) (by omega) ?_⟩
 have h2 : C9 16 = 665857:=by decide
 rw [h2,K5];omega
theorem Pok.sign_com (h : Pok p) {q : List Rat} (hc : CmOk p q) {s : Rat × Rat} (hs : SpL s) (h1 : sV p s.1 = sV p s.2 + 1) (h2 : sV (C8 (B4 p) q) s.2 < sV (C8 (B4 p) q) s.1) (hq : trN q ≤ 25) (hq0 : trN q ≠ 0) (hql : q.length ≤ 1000) (hqs : ∀ x ∈ q,qs x ≤ BIG) (A B : Option Addr) (c d : Nat) (w : World) (hp : PR p (A,c) w) (hpq : PR q (B,d) w) (HT : Tab w) : F5 40 #[.slice A p.length c,spV s.1 s.2,.slice B q.length d] w (.tuple #[.int .i64 0,.int .i64 0]):=by
 obtain ⟨e,e1,e2,e3⟩:=hs.ex
 have hdm:=A3u
 have hx1 : Xz s.1 DM:=e2.lo.mono (by omega)
 have hx2 : Xz s.2 DM:=e2.hi.mono (by omega)
 have hI : J7 (chL shL p) s.1 s.2 = 1:=by rw [A1Q hs.lt];omega
 refine B37 A B c p.length _ d q.length _ (B4 p) (C8 (B4 p) q) (chL shL p) (chL shL (C8 (B4 p) q)) s.1 s.2 ((trN q : Int) - 1) (J7 (chL shL (C8 (B4 p) q)) s.1 s.2) (by omega) (by rw [A1Q hs.lt];omega) w HT (fun W hg=>h.refuse A c W (hp.grow hg)) (fun W hg=>Pok.deg q hql hqs W (B,d) (hpq.grow hg)) (fun W hg=>h.signs W A c (hp.grow hg) (HT.grow hg)) (fun W y hr hT=>?_) (fun W hg=>h.free W (A,c) (hp.grow hg) (HT.grow hg)) (fun W x hg hx=>hc.call W x (B,d) hx (hpq.grow hg) (HT.grow hg)) (fun W x hx hT=>hc.pok.signs W x.1 x.2 hx hT) (fun W y hr hT=>hc.pok.ins hx1 hx2 W y hr hT)
 have := h.ins hx1 hx2 W y hr hT
 rw [hI] at this
 exact this
theorem Pok.sign_loop (h : Pok p) {q : List Rat} (hq : Pok q) (hc : CmOk p q) {s : Rat × Rat} (hs : SpL s) (h1 : sV p s.1 = sV p s.2 + 1) (h2 : sV (C8 (B4 p) q) s.1 = sV (C8 (B4 p) q) s.2) {K : Nat} (hz : ∀ k,k ≤ K → Spn (hSq (sV p) s k).1 (hSq (sV p) s k).2 (DM - 1)) (hK : ∀ k,k ≤ K → (sV q (hSq (sV p) s k).2 < sV q (hSq (sV p) s k).1 ↔ k < K)) (A B : Option Addr) (c d : Nat) (w : World) (hp : PR p (A,c) w) (hpq : PR q (B,d) w) (HT : Tab w) : F5 40 #[.slice A p.length c,spV s.1 s.2,.slice B q.length d] w (.tuple #[.int .i64 (sgr (pv q (hSq (sV p) s K).2)),.int .i64 0]):=by
 have hdm:=A3u
 have hx1 : Xz s.1 DM:=(hz 0 (by omega)).lo.mono (by omega)
 have hx2 : Xz s.2 DM:=(hz 0 (by omega)).hi.mono (by omega)
 have hI : J7 (chL shL p) s.1 s.2 = 1:=by rw [A1Q hs.lt];omega
 have h1':=h1
 rw [A2C] at h1'
 have ok:=A5c h.mon.tr h.sqf hs.lt h1'
 have ep : ((s.1,s.2) : Rat × Rat) = s:=rfl
 rw [ep,← A2C] at ok
 obtain ⟨Sq,q1,q2,q3⟩:=hq.sz
 have hql:=hq.len
 have hqn:=hq.le
 have hq0:=hq.nz
 have eB:=K5
 have eD:=Q6
 have s0 : hSq (sV p) s 0 = s:=rfl
 have s1 : ∀ k,hSq (sV p) s (k + 1) = hlf (sV p) (hSq (sV p) s k):=fun _=>rfl
 obtain ⟨SS,hSS⟩ : ∃ F,F = hSq (sV p) s:=⟨_,rfl⟩
 rw [← hSS] at ok hz hK s0 ⊢
 simp only [← hSS] at s1
 have hat : T3 q (SS K).2:=A4M q2 ((hz K (Nat.le_refl _)).hi) (n:=32) hql (by omega) (by omega)
 rw [← A4O q (SS K).2]
 have hin : ∀ W (y : Ax),RW (chL shL p) y.1 W → Tab W → F9 55 #[.slice y.1 (cK shL (B4 p) + 1) y.2,spV s.1 s.2] W 1:=fun W y hr hT=>by
  have := h.ins hx1 hx2 W y hr hT
  rw [hI] at this
  exact this
 have hi2 : ∀ W (y : Ax),RW (chL shL (C8 (B4 p) q)) y.1 W → Tab W → F9 55 #[.slice y.1 (cK shL (B4 (C8 (B4 p) q)) + 1) y.2,spV s.1 s.2] W (J7 (chL shL (C8 (B4 p) q)) s.1 s.2):=fun W y hr hT=>hc.pok.ins hx1 hx2 W y hr hT
 have hg0 : ¬ 0 < J7 (chL shL (C8 (B4 p) q)) s.1 s.2:=by rw [A1Q hs.lt];omega
 have hab : ∀ W (x : Ax),PR (B4 p) x W → Tab W → F9 96 #[.slice x.1 (B4 p).length x.2,qV s.1] W (R1 (B4 p) s.1):=fun W x hx hT=>h.above hx1 W x hx hT
 have hhf : ∀ k,k < K → ∀ W (x : Ax),PR (B4 p) x W → Tab W → F5 98 #[.slice x.1 (B4 p).length x.2,.int .i64 (R1 (B4 p) s.1),spV (SS k).1 (SS k).2] W (spV (SS (k + 1)).1 (SS (k + 1)).2):=fun k hk W x hx hT=>h.half (s1 k) (ok k) (hz k (by omega)) (by omega) W x hx hT
 have hiq : ∀ k,k ≤ K → ∀ W (y : Ax),RW (chL shL q) y.1 W → Tab W → F9 55 #[.slice y.1 (cK shL (B4 q) + 1) y.2,spV (SS k).1 (SS k).2] W (J7 (chL shL q) (SS k).1 (SS k).2):=fun k hk W y hr hT=>hq.ins ((hz k hk).lo.mono (by omega)) ((hz k hk).hi.mono (by omega)) W y hr hT
 have hJ : ∀ k,k ≤ K → (0 < J7 (chL shL q) (SS k).1 (SS k).2 ↔ k < K):=fun k hk=>by
  rw [A1Q (ok k).lt,← hK k hk];omega
 clear hs h1 h1' h2 ok s1 hx1 hx2 hI hSS hK
 subst s0
 exact B0q A B c p.length _ d q.length _ _ (B4 p) (C8 (B4 p) q) q (chL shL p) (chL shL (C8 (B4 p) q)) (chL shL q) SS (fun k=>J7 (chL shL q) (SS k).1 (SS k).2) K ((trN q : Int) - 1) (J7 (chL shL (C8 (B4 p) q)) (SS 0).1 (SS 0).2) (R1 (B4 p) (SS 0).1) (sgQ q (SS K).2) (atQ q (SS K).2) (by omega) hg0 w HT (fun W hg=>h.refuse A c W (hp.grow hg)) (fun W hg=>Pok.deg q (by omega) hq.qsB W (B,d) (hpq.grow hg)) (fun W hg=>h.signs W A c (hp.grow hg) (HT.grow hg)) hin (fun W hg=>h.free W (A,c) (hp.grow hg) (HT.grow hg)) (fun W x hg hx=>hc.call W x (B,d) hx (hpq.grow hg) (HT.grow hg)) (fun W x hx hT=>hc.pok.signs W x.1 x.2 hx hT) hi2 hab (fun W hg=>hq.signs W B d (hpq.grow hg) (HT.grow hg)) hiq hJ hhf (fun W hg=>A2w hat W (B,d) (hpq.grow hg).1 (HT.grow hg)) (fun W=>A2A hat W)
end
theorem A9u {lo hi : Rat} {D : Nat} (h : lo < hi) (h1 : Xz lo D) (h2 : Xz hi D) (hD : D + D ≤ RH) : SpL (lo,hi):=by
 have m1:=(h1.mono (show D ≤ RH by omega)).mg
 have m2:=(h2.mono (show D ≤ RH by omega)).mg
 refine ⟨h,m1,m2,0,Nat.zero_le _,(Spn.of h1 h2).mono (by omega),?_⟩
 rw [A4R,M0,A0F]
 rw [A0n] at m1 m2
 simp only
 grind
theorem Z1 {x : Rat} {D : Nat} (h : qs x ≤ D) : Xz x D:=A5E h
def kQ : List Rat:=[A8 (-1),A8 1]
def kR : List Rat:=[A8 (-4),A8 0,A8 2]
def kS : List Rat:=[A8 7]
theorem A5j {l : List Rat} {Z : Nat} (hZ : 1 ≤ Z) (h : ∀ i,i < l.length → ∃ m : Int,gq l i = (m : Rat) ∧ m.natAbs < 2 ^ Z) : Czl l Z:=⟨1,by omega,by
 have := Nat.pow_le_pow_right (n:=2) (by omega) hZ
 show 1 < 2 ^ Z
 omega,fun i=>by
 by_cases hi : i < l.length
 ·obtain ⟨m,h1,h2⟩:=h i hi
  exact ⟨m,by rw [h1,Rat.intCast_one];grind,h2⟩
 ·exact ⟨0,by rw [O9 (by omega),Rat.intCast_zero];grind,Nat.two_pow_pos _⟩⟩
theorem A62 : Czl kQ 3:=A5j (by omega) fun i hi=>by
 match i,hi with
 | 0,_=>exact ⟨-1,rfl,by decide⟩
 | 1,_=>exact ⟨1,rfl,by decide⟩
 | i + 2,h=>simp [kQ] at h;omega
theorem A9K : Czl kR 3:=A5j (by omega) fun i hi=>by
 match i,hi with
 | 0,_=>exact ⟨-4,rfl,by decide⟩
 | 1,_=>exact ⟨0,rfl,by decide⟩
 | 2,_=>exact ⟨2,rfl,by decide⟩
 | i + 3,h=>simp [kR] at h;omega
theorem B0r : Czl kS 3:=A5j (by omega) fun i hi=>by
 match i,hi with
 | 0,_=>exact ⟨7,rfl,by decide⟩
 | i + 1,h=>simp [kS] at h
theorem A9k : trN kQ = 2:=by kernel_rfl
theorem A4a : trN kR = 3:=by kernel_rfl
theorem B23 : trN kS = 1:=by kernel_rfl
theorem A3g {l : List Rat} {t : Nat} (hz : Czl l 3) (ht : trN l = t) (h0 : t ≠ 0) (h4 : t ≤ 4) (hl : l.length ≤ 4) : Sm l 200 ∧ Pok l:=by
 have hn : Nz l:=P0.2 (by omega)
 have hs:=A9n hz hn (by omega) (by omega)
 have h2 : Sm l 200:=⟨hn,fun f hf hd=>(hs.2 f hf hd).mono (by omega)⟩
 exact ⟨h2,A55 (S:=3) (by omega) hz h2 (by omega) (by omega)⟩
theorem A8y : Pok kQ:=(A3g A62 A9k (by omega) (by omega) (by simp [kQ])).2
theorem A9P : Pok kR:=(A3g A9K A4a (by omega) (by omega) (by simp [kR])).2
theorem A51 : Pok kS:=(A3g B0r B23 (by omega) (by omega) (by simp [kS])).2
theorem A90 : Sm kP 200:=(A3g (A3b.mono (by omega)) A1p (by omega) (by omega) (by simp [kP])).1
theorem B1B : CmOk kP kQ:=A9y V3 A90 (by rw [A1p];omega) (S:=3) (by omega) A62 (by simp [kQ]) (by rw [A9k];omega)
theorem B4b : CmOk kP kR:=A9y V3 A90 (by rw [A1p];omega) (S:=3) (by omega) A9K (by simp [kR]) (by rw [A4a];omega)
theorem A1j : sV kP (B5 3 2) = 0 ∧ sV kP (B5 3 4) = 1 ∧ sV kP (B5 9 8) = 1 ∧ sV kP 0 = 1 ∧ sV kP (A8 3) = 0:=by
 unfold sV
 exact ⟨by kernel_rfl,by kernel_rfl,by kernel_rfl,by kernel_rfl,by kernel_rfl⟩
theorem B6w : sV kQ (B5 3 4) = 1 ∧ sV kQ (B5 9 8) = 0 ∧ sV kQ (B5 3 2) = 0:=by
 unfold sV
 exact ⟨by kernel_rfl,by kernel_rfl,by kernel_rfl⟩
theorem B3M : sV (C8 (B4 kP) kQ) (B5 3 4) = 0 ∧ sV (C8 (B4 kP) kQ) (B5 3 2) = 0:=by
 unfold sV
 exact ⟨by kernel_rfl,by kernel_rfl⟩
theorem B07 : sV (C8 (B4 kP) kR) (B5 3 4) = 1 ∧ sV (C8 (B4 kP) kR) (B5 3 2) = 0:=by
 unfold sV
 exact ⟨by kernel_rfl,by kernel_rfl⟩
theorem A8i : hSq (sV kP) (0,A8 3) 1 = (0,B5 3 2):=by
 obtain ⟨v1,v2,v3,v4,v5⟩:=A1j
 show hlf (sV kP) (0,A8 3) = _
 unfold hlf
 simp only
 rw [show D6 0 (A8 3) = B5 3 2 by kernel_rfl,v1,v4,if_neg (by omega)]
theorem A9t : hSq (sV kP) (0,A8 3) 2 = (B5 3 4,B5 3 2):=by
 obtain ⟨v1,v2,v3,v4,v5⟩:=A1j
 show hlf (sV kP) (hSq (sV kP) (0,A8 3) 1) = _
 rw [A8i]
 unfold hlf
 simp only
 rw [show D6 0 (B5 3 2) = B5 3 4 by kernel_rfl,v2,v4,if_pos rfl]
theorem A7h : hSq (sV kP) (B5 3 4,B5 3 2) 1 = (B5 9 8,B5 3 2):=by
 obtain ⟨v1,v2,v3,v4,v5⟩:=A1j
 show hlf (sV kP) (B5 3 4,B5 3 2) = _
 unfold hlf
 simp only
 rw [show D6 (B5 3 4) (B5 3 2) = B5 9 8 by kernel_rfl,v2,v3,if_pos rfl]
theorem B4h (A : Option Addr) (c : Nat) (w : World) (hp : PR kP (A,c) w) (HT : Tab w) : F5 36 #[.slice A 3 c,spV 0 (A8 3),qV (A8 1)] w (.tuple #[spV (B5 3 4) (B5 3 2),.int .i64 0]):=by
 obtain ⟨v1,v2,v3,v4,v5⟩:=A1j
 have hR : 4 ≤ RH:=by rw [A0d];omega
 obtain ⟨K,-,hK,h⟩:=V3.narrow (s:=(0,A8 3)) (A9u (D:=2) (by decide) (Z1 (by decide)) (Z1 (by decide)) hR) (by simp only;omega) (d:=A8 1) ((Z1 (D:=2) (by decide)).mono (by omega)) (by decide)
 have hK2 : K = 2:=by
  have h0 : 0 < K:=(hK 0 (by omega)).1 (of_decide_eq_true (show decide (A8 1 < A8 3 - 0) = true by kernel_rfl))
  have h1 : 1 < K:=(hK 1 (by omega)).1 (by rw [A8i];exact of_decide_eq_true (show decide (A8 1 < B5 3 2 - 0) = true by kernel_rfl))
  by_cases h9 : K = 2
  ·exact h9
  ·have h2:=(hK 2 (by omega)).2 (by omega)
   rw [A9t] at h2
   exact absurd h2 (of_decide_eq_false (show decide (A8 1 < B5 3 2 - B5 3 4) = false by kernel_rfl))
 have h:=h A c w hp HT
 rw [hK2,A9t] at h
 exact h
theorem B4J (A : Option Addr) (c : Nat) (w : World) (hp : PR kP (A,c) w) (HT : Tab w) : F5 36 #[.slice A 3 c,spV (A8 (-3)) (A8 3),qV (A8 1)] w (.tuple #[spV 0 0,.int .i64 1]):=by
 have e1 : J7 (chL shL kP) (A8 (-3)) (A8 3) = 2:=by kernel_rfl
 have eD:=Q6
 exact V3.narrow_arg ((Z1 (D:=2) (by decide)).mono (by omega)) ((Z1 (D:=2) (by decide)).mono (by omega)) (by rw [e1];omega) (by decide) (by decide) A c w hp HT
theorem A9i : SpL (B5 3 4,B5 3 2):=A9u (D:=3) (by decide) (Z1 (by decide)) (Z1 (by decide)) (by rw [A0d];omega)
theorem B1g (A B : Option Addr) (c d : Nat) (w : World) (hp : PR kP (A,c) w) (hq : PR kQ (B,d) w) (HT : Tab w) : F5 40 #[.slice A 3 c,spV (B5 3 4) (B5 3 2),.slice B 2 d] w (.tuple #[.int .i64 1,.int .i64 0]):=by
 obtain ⟨v1,v2,v3,v4,v5⟩:=A1j
 obtain ⟨u1,u2,u3⟩:=B6w
 obtain ⟨g1,g2⟩:=B3M
 have eD:=Q6
 have h:=V3.sign_loop A8y B1B A9i (by simp only;omega) (by simp only;omega) (K:=1) (fun k hk=>(A5U (D:=6) (Spn.of (Z1 (D:=3) (by decide)) (Z1 (D:=3) (by decide))) k).mono (by omega)) (fun k hk=>by
  match k,hk with
  | 0,_ =>
   show sV kQ (B5 3 2) < sV kQ (B5 3 4) ↔ _
   omega
  | 1,_ =>
   rw [A7h]
   show sV kQ (B5 3 2) < sV kQ (B5 9 8) ↔ _
   omega) A B c d w hp hq HT
 rw [A7h,show sgr (pv kQ (B5 9 8,B5 3 2).2) = 1 by kernel_rfl] at h
 exact h
theorem B3G (A B : Option Addr) (c d : Nat) (w : World) (hp : PR kP (A,c) w) (hq : PR kR (B,d) w) (HT : Tab w) : F5 40 #[.slice A 3 c,spV (B5 3 4) (B5 3 2),.slice B 3 d] w (.tuple #[.int .i64 0,.int .i64 0]):=by
 obtain ⟨v1,v2,v3,v4,v5⟩:=A1j
 obtain ⟨g1,g2⟩:=B07
 exact V3.sign_com B4b A9i (by simp only;omega) (by simp only;omega) (by rw [A4a];omega) (by rw [A4a];omega) (by simp [kR]) A9P.qsB A B c d w hp hq HT
theorem A9C : H7 kS = B5 1 1:=by kernel_rfl
theorem B0k : rootsP kS = []:=by
 unfold rootsP isoP
 rw [A9C,show -(B5 1 1) = B5 (-1) 1 by kernel_rfl]
 obtain ⟨d,hd⟩ : ∃ d,DD = d + 1:=⟨DEP + RH + 2,by rw [A20]⟩
 have h1 : sV kS (B5 (-1) 1) = 0:=by unfold sV;kernel_rfl
 have h2 : sV kS (B5 1 1) = 0:=by unfold sV;kernel_rfl
 rw [hd,O4,if_pos (by omega)]
theorem B5G : cK (fun r=>r) (B4 kP) + 1 = 3:=by kernel_rfl
theorem B0p : cK (fun r=>r) (B4 kS) + 1 = 1:=by kernel_rfl
end Go.Proofs.YtlkniebmjdoopaaGreatDoor
