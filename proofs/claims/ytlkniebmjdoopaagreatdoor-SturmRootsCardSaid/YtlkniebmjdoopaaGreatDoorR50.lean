/-
  The claim's theorem: StU StV SturmRootsZ.
-/
import Derived.Test.YtlkniebmjdoopaaGreatDoorR49
set_option linter.unusedSimpArgs false
set_option linter.unusedVariables false
set_option maxHeartbeats 16000000
set_option maxRecDepth 100000
namespace Go.Proofs.YtlkniebmjdoopaaGreatDoor
open Go Go.RowKit
theorem A74 (x : Rat) : ∀ l,inN x l ≤ l.length
 | []=>Nat.le_refl _
 | s :: l=>by
  have := A74 x l
  rw [inN,List.length_cons]
  split <;> omega
theorem B16 {p : List Rat} (hp : Pok p) {s : Rat × Rat} (hs : s ∈ rootsP p) (W : World) (x : Ax) (hx : PR p x W) (hT : Tab W) : R4 14 #[.slice x.1 p.length x.2,qV s.1,qV s.2] W (.tuple #[.int .i64 1,.int .i64 0]):=by
 obtain ⟨h1,h2⟩:=A9I hp hs
 have h3:=A4v hp hs
 have h:=hp.count h3.lo h3.hi (Rat.le_of_lt h1) x.1 x.2 W hx hT
 rw [h2] at h
 exact h
theorem B6F {p : List Rat} (hp : Pok p) {s : Rat × Rat} (hs : s ∈ rootsP p) (W : World) : Z4 18 #[qV s.1,qV s.2] W (-1):=by
 have h1:=(A9I hp hs).1
 have h3:=A4v hp hs
 have z1:=h3.lo.qs
 have z2:=h3.hi.qs
 have h:=A01 s.1 s.2 W (by have := O7;have := A0O;omega)
 rw [A7V h1] at h
 exact h
theorem B6w (A0 : Option Addr) (l0 : List Int) (c0 : Nat) (A1 : Option Addr) (n0 n1 c1 : Nat) (P : List Rat) (nP : Nat) (hn0 : n0 = l0.length) (hb0 : ∀ x ∈ l0,-9223372036854775808 ≤ x ∧ x ≤ 9223372036854775807) (hnP : nP = P.length) (hp : Pok P) (hlen : P.length ≤ 12) (hcz : Czl P 85) (hroot : ∀ i,i < min l0.length 4 → pv P (J4 (gi l0 i)) = 0) (hn9 : n0 ≤ 9223372036854775807) (w : World) (HT : Tab w) (hl0 : Li w A0 l0) (hone : ∀ W,A3 w W → Calls Tryz.prog 9 #[.slice A0 n0 c0,.slice A1 n1 c1,.int .i64 0] W (R7 P W)) (hin : ∀ (W : World) (x : Ax),Lz W x.1 P → Tab W → Calls Tryz.prog 8 #[.slice x.1 P.length x.2] W (F8 P W)) : Calls Tryz.prog 3 #[.slice A0 n0 c0,.slice A1 n1 c1] w fun e w'=>e = .returned (.bool true) ∧ A3 w w':=by
 have eB:=O7
 have eD:=A0O
 have eR:=A2n
 obtain ⟨SL,hL⟩ : ∃ SL,SL = rootsP P:=⟨_,rfl⟩
 obtain ⟨b,hb⟩ : ∃ b,b = E0 P:=⟨_,rfl⟩
 have hbx : Xz b RH:=hb ▸ hp.bxz
 have hb0' : 0 < b:=hb ▸ A0k P
 have hrt : ∀ (W : World) (x : Ax),PR P x W → Tab W → Calls Tryz.prog 10 #[.slice x.1 P.length x.2] W (I1 (fun y : Ax=>.tuple #[.slice y.1 SL.length y.2,.int .i64 0]) (fun y V=>SW SL y V) W):=fun W x hx hT=>hL ▸ A9N (hp.roots x.1 x.2 W hx hT)
 have hdg : ∀ (W : World) (x : Ax),PR P x W → Z4 11 #[.slice x.1 P.length x.2] W ((trN P : Int) - 1):=fun W x hx=>A2K x.1 P P.length x.2 rfl hx.2.1 (by omega) hp.qsB W hx.1
 have hbd : ∀ (W : World) (x : Ax),PR P x W → Tab W → R4 13 #[.slice x.1 P.length x.2] W (.tuple #[qV b,.int .i64 0]):=fun W x hx hT=>hb ▸ hp.bound x.1 x.2 W hx hT
 have hct : ∀ (lo hi : Rat),Xz lo DM → Xz hi DM → lo ≤ hi → ∀ (W : World) (x : Ax),PR P x W → Tab W → R4 14 #[.slice x.1 P.length x.2,qV lo,qV hi] W (.tuple #[.int .i64 (U7 (chL shL P) lo hi),.int .i64 0]):=fun lo hi h1 h2 h3 W x hx hT=>hp.count h1 h2 h3 x.1 x.2 W hx hT
 have hc1 : ∀ (W : World) (x : Ax),PR P x W → Tab W → R4 14 #[.slice x.1 P.length x.2,qV (G7 b),qV b] W (.tuple #[.int .i64 (SL.length : Nat),.int .i64 0]):=fun W x hx hT=>by
  have h:=hct (-b) b ((hbx.neg).mono (by have := A3o;omega)) (hbx.mono (by have := A3o;omega)) (by grind) W x hx hT
  have e:=B4d hp
  rw [← hb,← hL] at e
  rw [e] at h
  exact h
 have hmz : ∀ k : Int,k = 1000 ∨ k = -1000 → Xz (E2 b (B1 k)) DM:=fun k hk=>by
  have h1:=A1M b (B1 k)
  have h2:=hbx.qs
  have h3 : qs (B1 k) ≤ 11:=by rcases hk with rfl | rfl <;> decide
  exact A3y (by unfold E2;omega)
 have hc2 : ∀ (W : World) (x : Ax),PR P x W → Tab W → R4 14 #[.slice x.1 P.length x.2,qV (E2 b (B1 (-1000))),qV (E2 b (B1 1000))] W (.tuple #[.int .i64 (SL.length : Nat),.int .i64 0]):=fun W x hx hT=>by
  have h:=hct (E2 b (B1 (-1000))) (E2 b (B1 1000)) (hmz _ (.inr rfl)) (hmz _ (.inl rfl)) (by show b * -1000 ≤ b * 1000;grind) W x hx hT
  have e:=B6h hp
  rw [← hb,← hL] at e
  rw [show U7 (chL shL P) (E2 b (B1 (-1000))) (E2 b (B1 1000)) = (SL.length : Nat) from e] at h
  exact h
 have hng : ∀ W,R4 15 #[qV b] W (qV (G7 b)):=fun W=>A6n b (by
  have := hbx.qs
  have h9 : bl b.num.natAbs ≤ qs b:=by unfold qs;omega
  omega) W
 have hmu : ∀ k : Int,k = 1000 ∨ k = -1000 → ∀ W,Tab W → R4 16 #[qV b,qV (B1 k)] W (qV (E2 b (B1 k))):=fun k hk W hT=>A2N b (B1 k) W (by
  have h2:=hbx.qs
  have h3 : qs (B1 k) ≤ 11:=by rcases hk with rfl | rfl <;> decide
  omega) hT
 have hsp : ∀ (i : Nat) (s : Rat × Rat),SL[i]? = some s → (∀ (W : World) (x : Ax),PR P x W → Tab W → R4 14 #[.slice x.1 P.length x.2,qV s.1,qV s.2] W (.tuple #[.int .i64 1,.int .i64 0])) ∧ (∀ W,Z4 18 #[qV s.1,qV s.2] W (-1)) ∧ qs s.1 ≤ DM ∧ qs s.2 ≤ DM:=fun i s hi=>by
  have hm : s ∈ rootsP P:=hL ▸ List.mem_of_getElem? hi
  have h3:=A4v hp hm
  exact ⟨fun W x hx hT=>@B16 P hp s hm W x hx hT,fun W=>@B6F P hp s hm W,@Xz.qs s.1 DM h3.lo,@Xz.qs s.2 DM h3.hi⟩
 have hnx : ∀ (i : Nat) (s t : Rat × Rat),SL[i]? = some s → SL[i + 1]? = some t → ∃ C,C ≤ 0 ∧ ∀ W,Z4 18 #[qV s.2,qV t.1] W C:=fun i s t h1 h2 =>
  ⟨H4 s.2 t.1,B0u (A8d (hL ▸ hp.rootsL.2.2) i s t h1 h2),fun W=>A01 s.2 t.1 W (by
   have := (hsp i s h1).2.2.2
   have := (hsp (i + 1) t h2).2.2.1
   omega)⟩
 have hgi : ∀ i,i < n0 → -9223372036854775808 ≤ gi l0 i ∧ gi l0 i ≤ 9223372036854775807:=fun i hi=>by
  have h9 : l0[i]? = some (gi l0 i):=by unfold gi;rw [List.getElem?_eq_getElem (by omega)];rfl
  exact hb0 _ (List.mem_of_getElem? h9)
 have hrd : ∀ i,i < n0 → ∃ b o,A0 = some ⟨b,o,none⟩ ∧ ∀ W,A3 w W → W.cell? ⟨b,o + i,none⟩ = some (.int .i64 (gi l0 i)):=fun i hi=>hl0.at (by omega)
 obtain ⟨K,hK⟩ : ∃ K,K = min l0.length 4:=⟨_,rfl⟩
 have hkn : inN (0 : Rat) [] = 0:=rfl
 have hrx : ∀ i,i < K → ∀ x,x = J4 (gi l0 i) → qs x ≤ 5 ∧ inN x SL = 1 ∧ (∀ (W : World) (y : Ax),PR P y W → Tab W → R4 20 #[.slice y.1 P.length y.2,qV x] W (qV (atQ P x))) ∧ ∀ W,Z4 21 #[qV (atQ P x)] W 0:=fun i hi x hx=>by
  have h0 : pv P x = 0:=hx ▸ hroot i (by omega)
  have hat : A0u P x:=A8M (n:=12) (D:=5) hcz (hx ▸ A47 _) hlen (by omega) (by omega)
  refine ⟨hx ▸ A6J _,hL ▸ (B3K hp h0).2,fun W y hy hT=>B0t hat W y hy.1 hT,fun W=>?_⟩
  have h:=A91 hat W
  rw [A9q,h0] at h
  exact h
 have hK4 : K ≤ 4 ∧ K ≤ n0 ∧ (n0 = K ∨ K = 4):=by omega
 have f32 : decide ((trN P : Int) - 1 < 0) = false:=decide_eq_false (by have := hp.nz;omega)
 obtain ⟨DG,hDG⟩ : ∃ D,D = (trN P : Int) - 1:=⟨_,rfl⟩
 rw [← hDG] at f32
 simp only [← hDG] at hdg
 obtain ⟨LL,hLL⟩ : ∃ n,n = SL.length:=⟨_,rfl⟩
 have hL9 : LL ≤ 1000:=by
  have h1:=hp.rootsL.1
  have h2:=A6l hp (-E0 P)
  rw [← hL] at h1
  omega
 have hget : ∀ i,i < LL → ∃ s,SL[i]? = some s:=fun i hi=>⟨_,List.getElem?_eq_getElem (by omega)⟩
 have hallL : SL.take LL = SL:=by rw [hLL];exact List.take_length
 unfold R7 at hone
 unfold F8 at hin
 simp only [← hnP] at hone hin hrt hdg hbd hc1 hc2 hsp hrx
 simp only [← hLL] at hrt hc1 hc2
 obtain ⟨nb,hnb⟩ : ∃ x,x = G7 b:=⟨_,rfl⟩
 obtain ⟨m1,hm1⟩ : ∃ x,x = E2 b (B1 (-1000)):=⟨_,rfl⟩
 obtain ⟨m2,hm2⟩ : ∃ x,x = E2 b (B1 1000):=⟨_,rfl⟩
 have hmu1:=hmu (-1000) (.inr rfl)
 have hmu2:=hmu 1000 (.inl rfl)
 rw [← hnb] at hng
 simp only [← hnb] at hc1
 rw [← hm1] at hmu1
 rw [← hm2] at hmu2
 simp only [← hm1,← hm2] at hc2
 have Hone:=Lib.hid hone
 have Hin:=Lib.hid hin
 have Hrt:=Lib.hid hrt
 have Hdg:=Lib.hid hdg
 have Hbd:=Lib.hid hbd
 have Hc1:=Lib.hid hc1
 have Hc2:=Lib.hid hc2
 have Hng:=Lib.hid hng
 have Hmu1:=Lib.hid hmu1
 have Hmu2:=Lib.hid hmu2
 have Hsp:=Lib.hid hsp
 have Hnx:=Lib.hid hnx
 have Hgi:=Lib.hid hgi
 have Hrd:=Lib.hid hrd
 have Hrx:=Lib.hid hrx
 have Hget:=Lib.hid hget
 have Hall:=Lib.hid hallL
 have HE:=Lib.hid (And.intro eB eD)
 obtain ⟨hk4,hkn,hkz⟩:=hK4
 clear hone hin hrt hdg hbd hc1 hc2 hng hmu hmu1 hmu2 hsp hnx hgi hrd hrx hget hallL hct hmz hbx hb0' hroot hcz hlen hp hnP hn0 hb0 hl0 hK hDG hnb hm1 hm2 hL hb hLL eB eD eR
 go_enter Tryz.func3,Tryz.ntmps3
 refine en0 ?_
 intro u hG hB hF
 refine wp_seq (rsE A5 [0,0,1,1,0] hB hG fun L hL=>?_)
 refine gs ?_
 refine gxd (X:=Ax) (fun x : Ax=>.slice x.1 nP x.2) (fun x W=>Lz W x.1 P) (fun x u u' hg h=>h.grow hg) (fun x23=>?_) (C:=by (rintro v ⟨hgu,hB,hG,-⟩;exact (Hone.out _ hG).mono fun e W ⟨x,g1,g2,g3⟩=>⟨x,g1,g2.lz,g3⟩))
 refine gxd (X:=Ax) (fun x : Ax=>.slice x.1 nP x.2) (fun x W=>PR P x W) (fun x u u' hg h=>h.grow hg) (fun x24=>?_) (C:=by (rintro v ⟨⟨hgu,hB,hG,-⟩,hx23⟩;exact Hin.out _ x23 hx23 (HT.grow hG)))
 refine gs ?_
 refine geT hL ?_
 clear hB hG hL L
 rintro u ⟨⟨⟨hgu,hB,hG,-⟩,hx23⟩,hx24⟩
 have HP:=Lib.hid hx24
 clear hx23 hx24
 clear hgu
 refine wp_seq (rsE A5 [0,1,0,0,0,0,0] hB hG fun L hL=>?_)
 refine gs ?_
 refine gxd (X:=Ax) (fun y : Ax=>.tuple #[.slice y.1 LL y.2,.int .i64 0]) (fun y V=>SW SL y V) (fun x u u' hg h=>h.grow hg) (fun x27=>?_) (C:=by (rintro v ⟨hgu,hB,hG,-⟩;exact Hrt.out _ x24 (HP.out.grow hgu) (HT.grow hG)))
 refine gs ?_
 refine geT hL ?_
 clear hB hG hL L
 rintro u ⟨⟨hgu,hB,hG,-⟩,hx27⟩
 have HP2:=Lib.hid (And.intro (HP.out.grow hgu) hx27)
 clear HP hx27
 have HP:=HP2
 clear HP2
 clear hgu
 refine wp_seq ?_
 refine wp_seq (rsE A5 [0,1,0] hB hG fun L hL=>?_)
 refine gs ?_
 refine gmd (C:=fun v ⟨hgu,hB,hG,_⟩=>Hdg.out _ x24 (HP.out.1.grow hgu)) ?_
 refine gs ?_
 refine geT hL ?_
 clear hB hG hL L
 rintro u ⟨hgu,hB,hG,-⟩
 have HP2:=Lib.hid (And.intro (HP.out.1.grow hgu) (HP.out.2.grow hgu))
 clear HP
 have HP:=HP2
 clear HP2
 clear hgu
 refine wp_cond_false (rfl) ?_
 refine wp_skip ?_
 refine A4 ?_
 refine wp_seq (rsC A5 [0,1,0,0,0,2] hB hG fun K L hN hL=>?_)
 refine gs ?_
 refine gmd (C:=fun v ⟨hgu,hB,hG,_⟩=>Hbd.out _ x24 (HP.out.1.grow hgu) (HT.grow hG)) ?_
 refine gs ?_
 refine gaa (O4 _ _ _ _ _) fun b8 hb8 hn8=>?_
 replace hF:=hF.n1 [] hB hG hb8 hn8
 refine geC hL ?_
 clear hB hG hL L
 rintro u ⟨⟨hgu,hB,hG,-⟩,h8⟩
 replace hB:=hB.cons' h8
 clear h8
 have hb8w:=hb8
 have hg8:=hgu
 clear hb8 hn8
 clear hgu
 refine gtT ?_
 clear hN K
 refine sv hB hF hG 0 0 [_,_,_,_,_] ?_
 intro u hu hBG
 have hg9:=A2S hg8 hb8w hu
 have HP2:=Lib.hid (And.intro (HP.out.1.grow hg9) (HP.out.2.grow hg9))
 clear HP hg8 hb8w hg9 hB hG hu
 have HP:=HP2
 clear HP2
 obtain ⟨hB,hG⟩:=hBG
 refine wp_seq (rdC A5 [] [(0,0),(0,1),(0,3),(1,2),(1,4),(0,5),(0,6),(0,7),(0,8)] hB hG (hs:=A0Z [0,0,2,0,15,31,63,63,127,511] (by kernel_rfl)) fun K L hN hL=>?_)
 refine gs ?_
 refine gmw (C:=fun v=>Hng.out _) ?_
 refine gmd (C:=fun v ⟨hgu,hB,hG,_⟩=>Hc1.out _ x24 (HP.out.1.grow hgu) (HT.grow hG)) ?_
 refine gs ?_
 refine geC hL ?_
 clear hB hG hL L
 rintro u ⟨hgu,hB,hG,-⟩
 have HP2:=Lib.hid (And.intro (HP.out.1.grow hgu) (HP.out.2.grow hgu))
 clear HP
 have HP:=HP2
 clear HP2
 clear hgu
 refine gtT ?_
 clear hN K
 refine wp_seq (rdC A5 [] [(0,0),(0,1),(0,4),(1,2),(1,3),(1,5),(1,6),(1,7),(0,8),(0,9),(0,10),(0,11)] hB hG (hs:=A0Z [0,0,0,6,0,14,62,127,255,511,511,1023,4095] (by kernel_rfl)) fun K L hN hL=>?_)
 refine gs ?_
 refine gmw (C:=fun v=>Y8 (-1000) (by omega) (by omega) _) ?_
 refine gmd (C:=fun v ⟨hgu,hB,hG,_⟩=>Hmu1.out _ (HT.grow hG)) ?_
 refine gmw (C:=fun v=>Y8 1000 (by omega) (by omega) _) ?_
 refine gmd (C:=fun v ⟨hgu,hB,hG,_⟩=>Hmu2.out _ (HT.grow hG)) ?_
 refine gmd (C:=fun v ⟨hgu,hB,hG,_⟩=>Hc2.out _ x24 (HP.out.1.grow hgu) (HT.grow hG)) ?_
 refine gs ?_
 refine geC hL ?_
 clear hB hG hL L
 rintro u ⟨hgu,hB,hG,-⟩
 have HP2:=Lib.hid (And.intro (HP.out.1.grow hgu) (HP.out.2.grow hgu))
 clear HP
 have HP:=HP2
 clear HP2
 clear hgu
 refine gtT ?_
 clear hN K
 have HG0:=Lib.hid hG
 clear hB hF hG
 obtain ⟨w0,rfl⟩ : ∃ x,x = w:=⟨_,rfl⟩
 obtain ⟨w,hwu⟩ : ∃ x,x = u:=⟨_,rfl⟩
 rw [← hwu] at HG0 HP
 have hB:=Bx.nil u
 have hF:=Fr.nil w
 have hG : A3 w u:=hwu ▸ A3.refl u
 clear hwu
 refine wp_seq ?_
 refine wp_seq (rsE A5 [1,0,0,0,0,0,0,0,0,0,0,0,0,0,0,0,0,0,0,0,0] hB hG fun L hL=>?_)
 refine gmd (C:=fun v ⟨hgu,hB,hG,_⟩=>B1D _ (HT.grow (HG0.out.trans hG))) ?_
 refine gs ?_
 refine geT hL ?_
 clear hB hG hL L
 rintro u ⟨-,hB,hG,-⟩
 refine wp_cond_false (rfl) ?_
 refine wp_skip ?_
 refine A4 ?_
 refine wp_seq ?_
 refine r0T ?_
 refine wp_block ?_
 clear hB hF
 go_loopw [14] (fun s0 wr=>∃ i : Nat,i ≤ LL ∧ s0 = .int .i64 i ∧ A3 w wr) (fun s0 _=>LL - (intOf s0).toNat)
 case atStart=>exact ⟨0,Nat.zero_le _,rfl,hG⟩
 case round =>
  clear hG
  obtain ⟨i,hi,rfl,hG⟩:=hrel
  obtain ⟨u,rfl⟩ : ∃ x,x = wr:=⟨_,rfl⟩
  have hB:=Bx.nil u
  have hF:=Fr.nil w
  rcases Nat.lt_or_ge i LL with hlt | hge
  ·have f86 : decide ((i : Int) < (LL : Int)) = true:=decide_eq_true (by omega)
   have hii : (i : Int) < (LL : Int):=by omega
   obtain ⟨s,hs⟩:=Hget.out i hlt
   obtain ⟨h1,h2,-,-⟩:=Hsp.out i s hs
   obtain ⟨g,e0,hr⟩:=HP.out.2.read hs
   have Hr:=Lib.hid hr
   have H1:=Lib.hid h1
   have H2:=Lib.hid h2
   rcases Nat.eq_zero_or_pos i with h0 | h0
   ·have f126 : decide (0 < i) = false:=decide_eq_false (by omega)
    have HZ:=Lib.hid h0
    clear hr h1 h2 hs h0
    refine wp_seq ?_
    refine r0T ?_
    refine wp_cond_true (rfl) ?_
    refine wp_skip ?_
    refine A4 ?_
    refine wp_seq ?_
    refine wp_block ?_
    refine wp_seq (rdC A5 [] [(0,0),(0,1),(0,2),(0,3),(0,4),(0,5),(0,6),(0,7),(0,8),(0,9),(0,10),(1,11),(0,12),(0,13),(0,14),(0,15)] hB hG (hs:=A0Z [0,0,0,6,14,30,0,0,192,448,960,2047,4095,8191,8191,16383,65535] (by kernel_rfl)) fun K L hN hL=>?_)
    repeat first | refine gya ?_ | refine gyr ?_ | refine gna ?_ | refine gyb (by (rintro v ⟨hgu,hB,hG,-⟩ N hN;have r:=hB.r;simp only [BxR] at r;obtain ⟨⟨q1,q2,q3,q4,q5⟩,r1,r2,r3,r4,r5⟩:=Hr.out v hG;go_simp;exact hN)) ?_
    refine gmd (C:=fun v ⟨hgu,hB,hG,_⟩=>H1.out _ x24 (HP.out.1.grow hG) (HT.grow (HG0.out.trans hG))) ?_
    refine gs ?_
    refine geC hL ?_
    clear hB hG hL L
    rintro u ⟨-,hB,hG,-⟩
    refine gtT ?_
    clear hN K
    refine wp_seq (rdC A5 [] [(0,0),(0,1),(0,2),(0,3),(0,4),(0,5),(0,6),(0,7),(0,8),(0,9),(0,10),(0,11),(0,12),(0,13),(0,14),(0,15),(0,16),(1,17),(0,18),(0,19),(0,20),(0,21),(0,22),(0,23),(0,24),(0,25),(0,26),(0,27),(0,28),(0,29),(0,30),(0,31),(0,32),(0,33),(0,34),(1,35),(0,36),(0,37)] hB hG (hs:=A0Z [0,1,3,7,15,31,63,127,127,511,1023,2047,127,127,12415,28799,61567,131071,262143,524287,1048575,2097151,4194303,8388607,16777215,16777215,50331647,134217727,268435455,536870911,16777215,16777215,3238002687,7532969983,16122904575,34359738367,68719476735,137438953471,274877906943] (by kernel_rfl)) fun K L hN hL=>?_)
    repeat first | refine gya ?_ | refine gyr ?_ | refine gna ?_ | refine gyb (by (rintro v ⟨hgu,hB,hG,-⟩ N hN;have r:=hB.r;simp only [BxR] at r;obtain ⟨⟨q1,q2,q3,q4,q5⟩,r1,r2,r3,r4,r5⟩:=Hr.out v hG;go_simp;exact hN)) ?_
    first | refine gmw (C:=fun v=>H2.out _) ?_ | refine H6 ?_
    repeat first | refine gya ?_ | refine gyr ?_ | refine gna ?_ | refine gyb (by (rintro v ⟨hgu,hB,hG,-⟩ N hN;have r:=hB.r;simp only [BxR] at r;obtain ⟨⟨q1,q2,q3,q4,q5⟩,r1,r2,r3,r4,r5⟩:=Hr.out v hG;go_simp;exact hN)) ?_
    first | refine gmw (C:=fun v=>H3.out _) ?_ | refine H6 ?_
    refine gs ?_
    refine geC hL ?_
    clear hB hG hL L
    rintro u ⟨-,hB,hG,-⟩
    refine gtT ?_
    clear hN K
    refine wp_cond_false (rfl) ?_
    refine wp_skip ?_
    refine D5 ?_
    refine A4 ?_
    refine r0E ?_
    refine A4 ?_
    go_roundw
    case rel=>exact ⟨i + 1,by omega,by go_num,hG⟩
    case measure=>simp [intOf];omega
   ·have f126 : decide (0 < i) = true:=decide_eq_true h0
    obtain ⟨j,hj⟩ : ∃ j,i = j + 1:=⟨i - 1,by omega⟩
    obtain ⟨t,ht⟩:=Hget.out j (by omega)
    obtain ⟨C,hC,hc⟩:=Hnx.out j t s ht (by rw [← hj];exact hs)
    obtain ⟨g',e1,hr'⟩:=HP.out.2.read ht
    rw [e0] at e1
    obtain rfl : g = g':=by injection e1 with e1;injection e1
    have f140 : decide (0 < C) = false:=decide_eq_false (by omega)
    have hsub : (i : Int) - 1 = (j : Int):=by omega
    have hjj : (j : Int) < (LL : Int):=by omega
    have hwj : IntKind.i64.wrap (j : Int) = (j : Int):=IntWalk.i64_in _ (by omega)
    have Hr2:=Lib.hid hr'
    have H3:=Lib.hid hc
    clear hr h1 h2 hs h0 hr' hc hC ht e1 hj
    refine wp_seq ?_
    refine r0T ?_
    refine wp_cond_true (rfl) ?_
    refine wp_skip ?_
    refine A4 ?_
    refine wp_seq ?_
    refine wp_block ?_
    refine wp_seq (rdC A5 [] [(0,0),(0,1),(0,2),(0,3),(0,4),(0,5),(0,6),(0,7),(0,8),(0,9),(0,10),(1,11),(0,12),(0,13),(0,14),(0,15)] hB hG (hs:=A0Z [0,0,0,6,14,30,0,0,192,448,960,2047,4095,8191,8191,16383,65535] (by kernel_rfl)) fun K L hN hL=>?_)
    repeat first | refine gya ?_ | refine gyr ?_ | refine gna ?_ | refine gyb (by (rintro v ⟨hgu,hB,hG,-⟩ N hN;have r:=hB.r;simp only [BxR] at r;obtain ⟨⟨q1,q2,q3,q4,q5⟩,r1,r2,r3,r4,r5⟩:=Hr.out v hG;obtain ⟨⟨s1,s2,s3,s4,s5⟩,t1,t2,t3,t4,t5⟩:=Hr2.out v hG;go_simp;exact hN)) ?_
    refine gmd (C:=fun v ⟨hgu,hB,hG,_⟩=>H1.out _ x24 (HP.out.1.grow hG) (HT.grow (HG0.out.trans hG))) ?_
    refine gs ?_
    refine geC hL ?_
    clear hB hG hL L
    rintro u ⟨-,hB,hG,-⟩
    refine gtT ?_
    clear hN K
    refine wp_seq (rdC A5 [] [(0,0),(0,1),(0,2),(0,3),(0,4),(0,5),(0,6),(0,7),(0,8),(0,9),(0,10),(0,11),(0,12),(0,13),(0,14),(0,15),(0,16),(1,17),(0,18),(0,19),(0,20),(0,21),(0,22),(0,23),(0,24),(0,25),(0,26),(0,27),(0,28),(0,29),(0,30),(0,31),(0,32),(0,33),(0,34),(1,35),(0,36),(0,37)] hB hG (hs:=A0Z [0,1,3,7,15,31,63,127,127,511,1023,2047,127,127,12415,28799,61567,131071,262143,524287,1048575,2097151,4194303,8388607,16777215,16777215,50331647,134217727,268435455,536870911,16777215,16777215,3238002687,7532969983,16122904575,34359738367,68719476735,137438953471,274877906943] (by kernel_rfl)) fun K L hN hL=>?_)
    repeat first | refine gya ?_ | refine gyr ?_ | refine gna ?_ | refine gyb (by (rintro v ⟨hgu,hB,hG,-⟩ N hN;have r:=hB.r;simp only [BxR] at r;obtain ⟨⟨q1,q2,q3,q4,q5⟩,r1,r2,r3,r4,r5⟩:=Hr.out v hG;obtain ⟨⟨s1,s2,s3,s4,s5⟩,t1,t2,t3,t4,t5⟩:=Hr2.out v hG;go_simp;exact hN)) ?_
    first | refine gmw (C:=fun v=>H2.out _) ?_ | refine H6 ?_
    repeat first | refine gya ?_ | refine gyr ?_ | refine gna ?_ | refine gyb (by (rintro v ⟨hgu,hB,hG,-⟩ N hN;have r:=hB.r;simp only [BxR] at r;obtain ⟨⟨q1,q2,q3,q4,q5⟩,r1,r2,r3,r4,r5⟩:=Hr.out v hG;obtain ⟨⟨s1,s2,s3,s4,s5⟩,t1,t2,t3,t4,t5⟩:=Hr2.out v hG;go_simp;exact hN)) ?_
    first | refine gmw (C:=fun v=>H3.out _) ?_ | refine H6 ?_
    refine gs ?_
    refine geC hL ?_
    clear hB hG hL L
    rintro u ⟨-,hB,hG,-⟩
    refine gtT ?_
    clear hN K
    refine wp_cond_false (rfl) ?_
    refine wp_skip ?_
    refine D5 ?_
    refine A4 ?_
    refine r0E ?_
    refine A4 ?_
    go_roundw
    case rel=>exact ⟨i + 1,by omega,by go_num,hG⟩
    case measure=>simp [intOf];omega
  ·obtain rfl : LL = i:=by omega
   have f86 : decide ((LL : Int) < (LL : Int)) = false:=by simp
   clear hi hge
   refine wp_seq ?_
   refine r0T ?_
   refine wp_cond_false (rfl) ?_
   refine wp_exit ?_
   refine B4 ?_
   refine B4 ?_
   refine E1 ?_
   refine A4 ?_
   refine wp_seq ?_
   refine r0T ?_
   refine wp_block ?_
   clear hB hF
   go_loopw [17] (fun s0 wr=>∃ i : Nat,i ≤ K ∧ s0 = .int .i64 i ∧ A3 w wr) (fun s0 _=>K - (intOf s0).toNat)
   case atStart=>exact ⟨0,Nat.zero_le _,rfl,hG⟩
   case round =>
    clear hG
    obtain ⟨i,hi,rfl,hG⟩:=hrel
    obtain ⟨u,rfl⟩ : ∃ x,x = wr:=⟨_,rfl⟩
    have hB:=Bx.nil u
    have hF:=Fr.nil w
    rcases Nat.lt_or_ge i K with hlt | hge
    ·have hin : i < n0:=by omega
     have f146 : decide ((i : Int) < (n0 : Int)) = true:=decide_eq_true (by omega)
     have f149 : decide ((i : Int) < 4) = true:=decide_eq_true (by omega)
     have hii : (i : Int) < (n0 : Int):=by omega
     obtain ⟨bb,o,hA,hrd⟩:=Hrd.out i hin
     obtain ⟨hg1,hg2⟩:=Hgi.out i hin
     obtain ⟨X,hX⟩ : ∃ X,X = J4 (gi l0 i):=⟨_,rfl⟩
     obtain ⟨hx1,hx2,hx3,hx4⟩:=Hrx.out i hlt X hX
     have hq:=fun W hT=>B4p (gi l0 i) W hg1 hg2 hT
     obtain ⟨G,hGe⟩ : ∃ G,G = gi l0 i:=⟨_,rfl⟩
     rw [← hX] at hq
     simp only [← hGe] at hrd hq
     have Hrd1:=Lib.hid hrd
     have Hq:=Lib.hid hq
     have HX1:=Lib.hid hx1
     have HX2:=Lib.hid hx2
     have Hat:=Lib.hid hx3
     have Hsg:=Lib.hid hx4
     clear hrd hq hg1 hg2 hX hx1 hx2 hx3 hx4 hGe
     refine wp_seq ?_
     refine r0T ?_
     refine wp_cond_true (rfl) ?_
     refine wp_skip ?_
     refine A4 ?_
     refine wp_seq ?_
     refine wp_block ?_
     refine wp_seq (rsC A5 [0,0,0,0,1,2] hB hG fun K L hN hL=>?_)
     repeat first | refine gya ?_ | refine gyr ?_ | refine gna ?_ | refine gyb (by (rintro v ⟨hgu,hB,hG,-⟩ N hN;have r:=hB.r;simp only [BxR] at r;have q0:=Hrd1.out v (HG0.out.trans hG);go_simp;exact hN)) ?_
     refine gmd (C:=fun v ⟨hgu,hB,hG,_⟩=>Hq.out _ (HT.grow (HG0.out.trans hG))) ?_
     refine gaa (O4 _ _ _ _ _) fun b18 hb18 hn18=>?_
     replace hF:=hF.n1 [] hB hG hb18 hn18
     refine geC hL ?_
     clear hB hG hL L
     rintro u ⟨⟨-,hB,hG,-⟩,h18⟩
     replace hB:=hB.cons' h18
     clear h18
     clear hb18 hn18
     refine gtT ?_
     clear hN K
     refine sv hB hF hG 0 0 [_,_,_,_,_] ?_
     intro u hu hBG
     clear hB hG hu
     obtain ⟨hB,hG⟩:=hBG
     refine r0T ?_
     refine wp_seq ?_
     refine r0T ?_
     refine wp_block ?_
     clear hF
     go_loopw [20,19] (fun s0 s1 wr=>∃ (j C : Nat),j ≤ LL ∧ C ≤ 1000 ∧ C = inN X (SL.take j) ∧ s0 = .int .i64 j ∧ s1 = .int .i64 C ∧ Bx wr [(b18,39,H7 X)] ∧ A3 w wr) (fun s0 _ _=>LL - (intOf s0).toNat)
     case atStart=>exact ⟨0,0,Nat.zero_le _,Nat.zero_le _,rfl,rfl,rfl,hB,hG⟩
     case round =>
      clear hB hG
      obtain ⟨j,C,hj,hC9,hC,rfl,rfl,hB,hG⟩:=hrel
      obtain ⟨u,rfl⟩ : ∃ x,x = wr:=⟨_,rfl⟩
      have hF:=Fr.nil w
      rcases Nat.lt_or_ge j LL with hlt | hge
      ·have f161 : decide ((j : Int) < (LL : Int)) = true:=decide_eq_true (by omega)
       have hjj : (j : Int) < (LL : Int):=by omega
       obtain ⟨s,hs⟩:=Hget.out j hlt
       obtain ⟨-,-,z1,z2⟩:=Hsp.out j s hs
       obtain ⟨g,e0,hr⟩:=HP.out.2.read hs
       have ht:=B2U X SL hs
       rw [← hC] at ht
       have hle : C + 1 ≤ 1000:=by
        have h8:=A74 X (SL.take j)
        rw [← hC,List.length_take] at h8
        omega
       have hc1:=fun W=>A01 s.1 X W (by have := HX1.out;have := HE.out.1;have := HE.out.2;omega)
       have hc2:=fun W=>A01 X s.2 W (by have := HX1.out;have := HE.out.1;have := HE.out.2;omega)
       have Hr:=Lib.hid hr
       by_cases a1 : s.1 < X
       ·rw [A7V a1] at hc1
        have H1:=Lib.hid hc1
        by_cases a2 : X ≤ s.2
        ·rw [if_pos ⟨a1,a2⟩] at ht
         have hc:=B0u a2
         obtain ⟨c2,hc2e⟩ : ∃ c,c = H4 X s.2:=⟨_,rfl⟩
         rw [← hc2e] at hc
         simp only [← hc2e] at hc2
         have f180 : decide (c2 ≤ 0) = true:=decide_eq_true hc
         have H2:=Lib.hid hc2
         have Ht:=Lib.hid ht
         clear hr hc1 hc2 hc hc2e a1 a2 ht hs z1 z2 hC
         refine wp_seq ?_
         refine r0T ?_
         refine wp_cond_true (rfl) ?_
         refine wp_skip ?_
         refine A4 ?_
         refine wp_seq ?_
         refine wp_block ?_
         refine wp_seq (rdC A5 [] [(0,0),(0,1),(0,2),(0,3),(0,4),(0,5),(1,6),(0,7),(0,8),(0,9),(0,10),(0,11),(0,12),(0,13),(0,14),(1,15),(0,16)] hB hG (hs:=A0Z [0,0,3,7,15,0,63,127,255,511,511,511,3583,7679,15871,32767,65535,131071] (by kernel_rfl)) fun K L hN hL=>?_)
         repeat first | refine gya ?_ | refine gyr ?_ | refine gna ?_ | refine gyb (by (rintro v ⟨hgu,hB,hG,-⟩ N hN;have r:=hB.r;simp only [BxR] at r;obtain ⟨⟨q1,q2,q3,q4,q5⟩,r1,r2,r3,r4,r5⟩:=Hr.out v hG;go_simp;exact hN)) ?_
         refine gmw (C:=fun v=>H1.out _) ?_
         repeat first | refine gya ?_ | refine gyr ?_ | refine gna ?_ | refine gyb (by (rintro v ⟨hgu,hB,hG,-⟩ N hN;have r:=hB.r;simp only [BxR] at r;obtain ⟨⟨q1,q2,q3,q4,q5⟩,r1,r2,r3,r4,r5⟩:=Hr.out v hG;go_simp;exact hN)) ?_
         first | refine gmw (C:=fun v=>H2.out _) ?_ | refine H6 ?_
         refine gs ?_
         refine geC hL ?_
         clear hB hG hL L
         rintro u ⟨-,hB,hG,-⟩
         refine gtT ?_
         clear hN K
         refine wp_cond_true (rfl) ?_
         refine r0E ?_
         refine D5 ?_
         refine A4 ?_
         refine r0E ?_
         refine A4 ?_
         go_roundw
         case rel=>exact ⟨j + 1,C + 1,by omega,by omega,Ht.out.symm,by go_num,by go_num,hB,hG⟩
         case measure=>simp [intOf];omega
        ·rw [if_neg (fun h=>a2 h.2)] at ht
         have hc:=B59 a2
         obtain ⟨c2,hc2e⟩ : ∃ c,c = H4 X s.2:=⟨_,rfl⟩
         rw [← hc2e] at hc
         simp only [← hc2e] at hc2
         have f180 : decide (c2 ≤ 0) = false:=decide_eq_false (by omega)
         have H2:=Lib.hid hc2
         have Ht:=Lib.hid ht
         clear hr hc1 hc2 hc hc2e a1 a2 ht hs z1 z2 hC
         refine wp_seq ?_
         refine r0T ?_
         refine wp_cond_true (rfl) ?_
         refine wp_skip ?_
         refine A4 ?_
         refine wp_seq ?_
         refine wp_block ?_
         refine wp_seq (rdC A5 [] [(0,0),(0,1),(0,2),(0,3),(0,4),(0,5),(1,6),(0,7),(0,8),(0,9),(0,10),(0,11),(0,12),(0,13),(0,14),(1,15),(0,16)] hB hG (hs:=A0Z [0,0,3,7,15,0,63,127,255,511,511,511,3583,7679,15871,32767,65535,131071] (by kernel_rfl)) fun K L hN hL=>?_)
         repeat first | refine gya ?_ | refine gyr ?_ | refine gna ?_ | refine gyb (by (rintro v ⟨hgu,hB,hG,-⟩ N hN;have r:=hB.r;simp only [BxR] at r;obtain ⟨⟨q1,q2,q3,q4,q5⟩,r1,r2,r3,r4,r5⟩:=Hr.out v hG;go_simp;exact hN)) ?_
         refine gmw (C:=fun v=>H1.out _) ?_
         repeat first | refine gya ?_ | refine gyr ?_ | refine gna ?_ | refine gyb (by (rintro v ⟨hgu,hB,hG,-⟩ N hN;have r:=hB.r;simp only [BxR] at r;obtain ⟨⟨q1,q2,q3,q4,q5⟩,r1,r2,r3,r4,r5⟩:=Hr.out v hG;go_simp;exact hN)) ?_
         first | refine gmw (C:=fun v=>H2.out _) ?_ | refine H6 ?_
         refine gs ?_
         refine geC hL ?_
         clear hB hG hL L
         rintro u ⟨-,hB,hG,-⟩
         refine gtT ?_
         clear hN K
         refine wp_cond_false (rfl) ?_
         refine wp_skip ?_
         refine D5 ?_
         refine A4 ?_
         refine r0E ?_
         refine A4 ?_
         go_roundw
         case rel=>exact ⟨j + 1,C,by omega,by omega,Ht.out.symm,by go_num,rfl,hB,hG⟩
         case measure=>simp [intOf];omega
       ·rw [if_neg (fun h=>a1 h.1)] at ht
        have hc:=B2T a1
        obtain ⟨c1,hc1e⟩ : ∃ c,c = H4 s.1 X:=⟨_,rfl⟩
        rw [← hc1e] at hc
        simp only [← hc1e] at hc1
        have f171 : decide (c1 < 0) = false:=decide_eq_false (by omega)
        have H1:=Lib.hid hc1
        have H2:=Lib.hid hc2
        have Ht:=Lib.hid ht
        clear hr hc1 hc2 hc hc1e a1 ht hs z1 z2 hC
        refine wp_seq ?_
        refine r0T ?_
        refine wp_cond_true (rfl) ?_
        refine wp_skip ?_
        refine A4 ?_
        refine wp_seq ?_
        refine wp_block ?_
        refine wp_seq (rdC A5 [] [(0,0),(0,1),(0,2),(0,3),(0,4),(0,5),(1,6),(0,7),(0,8),(0,9),(0,10),(0,11),(0,12),(0,13),(0,14),(1,15),(0,16)] hB hG (hs:=A0Z [0,0,3,7,15,0,63,127,255,511,511,511,3583,7679,15871,32767,65535,131071] (by kernel_rfl)) fun K L hN hL=>?_)
        repeat first | refine gya ?_ | refine gyr ?_ | refine gna ?_ | refine gyb (by (rintro v ⟨hgu,hB,hG,-⟩ N hN;have r:=hB.r;simp only [BxR] at r;obtain ⟨⟨q1,q2,q3,q4,q5⟩,r1,r2,r3,r4,r5⟩:=Hr.out v hG;go_simp;exact hN)) ?_
        refine gmw (C:=fun v=>H1.out _) ?_
        repeat first | refine gya ?_ | refine gyr ?_ | refine gna ?_ | refine gyb (by (rintro v ⟨hgu,hB,hG,-⟩ N hN;have r:=hB.r;simp only [BxR] at r;obtain ⟨⟨q1,q2,q3,q4,q5⟩,r1,r2,r3,r4,r5⟩:=Hr.out v hG;go_simp;exact hN)) ?_
        first | refine gmw (C:=fun v=>H2.out _) ?_ | refine H6 ?_
        refine gs ?_
        refine geC hL ?_
        clear hB hG hL L
        rintro u ⟨-,hB,hG,-⟩
        refine gtT ?_
        clear hN K
        refine wp_cond_false (rfl) ?_
        refine wp_skip ?_
        refine D5 ?_
        refine A4 ?_
        refine r0E ?_
        refine A4 ?_
        go_roundw
        case rel=>exact ⟨j + 1,C,by omega,by omega,Ht.out.symm,by go_num,rfl,hB,hG⟩
        case measure=>simp [intOf];omega
      ·obtain rfl : LL = j:=by omega
       have f161 : decide ((LL : Int) < (LL : Int)) = false:=by simp
       have hC1 : C = 1:=by rw [hC,Hall.out,HX2.out]
       subst hC1
       have f191 : ((((1 : Nat) : Int)) != 1) = false:=rfl
       clear hj hge hC9 hC
       refine wp_seq ?_
       refine r0T ?_
       refine wp_cond_false (rfl) ?_
       refine wp_exit ?_
       refine B4 ?_
       refine B4 ?_
       refine E1 ?_
       refine A4 ?_
       refine wp_seq (rsE A5 [0,0,1,1,0,0,0,0,0] hB hG fun L hL=>?_)
       repeat first | refine gya ?_ | refine gyr ?_ | refine gna ?_ | refine gyb (by (rintro v ⟨hgu,hB,hG,-⟩ N hN;have r:=hB.r;simp only [BxR] at r;have q0:=Hrd1.out v (HG0.out.trans hG);go_simp;exact hN)) ?_
       refine gmd (C:=fun v ⟨hgu,hB,hG,_⟩=>Hat.out _ x24 (HP.out.1.grow hG) (HT.grow (HG0.out.trans hG))) ?_
       refine gmw (C:=fun v=>Hsg.out _) ?_
       refine gs ?_
       refine geT hL ?_
       clear hB hG hL L
       rintro u ⟨-,hB,hG,-⟩
       refine wp_cond_false (rfl) ?_
       refine wp_skip ?_
       refine D5 ?_
       refine A4 ?_
       refine r0E ?_
       refine A4 ?_
       go_roundw
       case rel=>exact ⟨i + 1,by omega,by go_num,hG⟩
       case measure=>simp [intOf];omega
    ·obtain rfl : K = i:=by omega
     clear hi hge
     rcases hkz with h0 | h0
     ·subst h0
      have f146 : decide ((n0 : Int) < (n0 : Int)) = false:=by simp
      clear hk4 hkn
      refine wp_seq ?_
      refine r0T ?_
      refine wp_cond_false (rfl) ?_
      refine wp_exit ?_
      refine B4 ?_
      refine B4 ?_
      refine E1 ?_
      refine A4 ?_
      refine r0T ?_
      refine rt Tryz.results3 ?_
      exact ⟨rfl,HG0.out.trans hG⟩
     ·subst h0
      by_cases h4 : 4 < n0
      ·have f146 : decide ((4 : Int) < (n0 : Int)) = true:=decide_eq_true (by omega)
       clear hk4 hkn h4
       refine wp_seq ?_
       refine r0T ?_
       refine wp_cond_false (rfl) ?_
       refine wp_exit ?_
       refine B4 ?_
       refine B4 ?_
       refine E1 ?_
       refine A4 ?_
       refine r0T ?_
       refine rt Tryz.results3 ?_
       exact ⟨rfl,HG0.out.trans hG⟩
      ·have f146 : decide ((4 : Int) < (n0 : Int)) = false:=decide_eq_false (by omega)
       clear hk4 hkn h4
       refine wp_seq ?_
       refine r0T ?_
       refine wp_cond_false (rfl) ?_
       refine wp_exit ?_
       refine B4 ?_
       refine B4 ?_
       refine E1 ?_
       refine A4 ?_
       refine r0T ?_
       refine rt Tryz.results3 ?_
       exact ⟨rfl,HG0.out.trans hG⟩
theorem B40 (A0 : Option Addr) (l0 : List Int) (c0 : Nat) (A1 : Option Addr) (l1 : List Int) (c1 : Nat) (hn0 : l0.length ≤ 9223372036854775807) (hb0 : ∀ x ∈ l0,-9223372036854775808 ≤ x ∧ x ≤ 9223372036854775807) (hn1 : l1.length ≤ 9223372036854775807) (hb1 : ∀ x ∈ l1,-9223372036854775808 ≤ x ∧ x ≤ 9223372036854775807) (w : World) (h0 : Li w A0 l0) (h1 : Li w A1 l1) (HT : Tab w) : Calls Tryz.prog 3 #[.slice A0 l0.length c0,.slice A1 l1.length c1] w fun e w'=>e = .returned (.bool true) ∧ A3 w w':=by
 obtain ⟨hone,hin⟩:=B2e A0 l0 c0 A1 l1 c1 hn0 hb0 hn1 hb1 w h0 h1
 have hlen:=A4D l0 l1
 have hcz:=A68 l0 l1
 by_cases hz : trN (I3 l0 l1) = 0
 ·exact B6v A0 l0.length c0 A1 l1.length c1 (I3 l0 l1) _ rfl hz (by omega) (fun x hx=>Nat.le_trans (I9 hcz x hx) (by have := O7;omega)) w HT hone hin
 ·exact B6w A0 l0 c0 A1 l0.length l1.length c1 (I3 l0 l1) _ rfl hb0 rfl (B2B l0 l1 hz) hlen hcz (fun i hi=>B7f l0 l1 hi) hn0 w HT h0 hone hin
end Go.Proofs.YtlkniebmjdoopaaGreatDoor
namespace Go.Proofs.YtlkniebmjdoopaaGreatDoor.sturmRoots
open Go.ChangeShapes Go.WideShapes Go.ChangeAt Go.RowKit
theorem B6l : ∀ t ∈ Tryz.f3.params.toList,Tryz.prog.readableRec t = true ∧ t < Tryz.prog.types.size:=by
 have h : (Tryz.f3.params.toList.all fun t=>Tryz.prog.readableRec t && decide (t < Tryz.prog.types.size)) = true:=by kernel_rfl
 intro t ht
 have := List.all_eq_true.1 h t ht
 simpa using this
theorem B4m (H : Type) (enc : TypeId × Value → H) (W : World) (base : Nat) (args : Array Value) (ds gs : List (DataW H)) (before : List MemPlace)
  (hval : ∀ (j : Nat) t v,Tryz.f3.params[j]? = some t → args[j]? = some v → Value.okWide Tryz.prog W .any base t v)
  (hW : DataW.Whole enc Tryz.prog Tryz.f3.params.toList Rows.sturmRootsSpec.vars false W args.toList ds gs before) (hL : laidMetH Tryz.prog Rows.sturmRootsRow.laid W) :
  Calls Tryz.prog 3 args W fun e W'=>∃ v,e = .returned v ∧ Rows.sturmRootsSpec.post enc Tryz.prog Tryz.f3 false true false false W args v W':=by
 have hW':=hW
 obtain ⟨p,q,hA0,hV,rfl,hfz,hnd⟩:=hW
 have hA : DataW.TrodAll enc Tryz.prog W 0 (fun _=>true) true Tryz.f3.params.toList args.toList ds p:=hA0
 rw [Tryz.params3] at hA hval
 obtain ⟨v0,vs0,d0,ds0,p0,q0,ha0,rfl,rfl,h0,hA1⟩:=trodAll_cons hA
 obtain ⟨v1,vs1,d1,ds1,p1,q1,rfl,rfl,rfl,h1,hA2⟩:=trodAll_cons hA1
 obtain ⟨rfl,rfl,rfl⟩:=trodAll_nil hA2
 obtain rfl : args = #[v0,v1]:=by
  cases args
  simp_all
 obtain ⟨rfl,rfl⟩:=trodVars_none hV
 obtain ⟨A0,l0,c0,rfl,hl0,hn0,hb0⟩:=A70 (hval 0 22 v0 rfl rfl) h0
 obtain ⟨A1,l1,c1,rfl,hl1,hn1,hb1⟩:=A70 (hval 1 22 v1 rfl rfl) h1
 refine (B40 A0 l0 c0 A1 l1 c1 hn0 hb0 hn1 hb1 W hl0 hl1 (B6b (by kernel_rfl) hL)).mono fun e W' ⟨he,hg⟩=>?_
 exact ⟨_,he,B2t hW' rfl rfl rfl rfl (by kernel_rfl) B6l hg⟩
def wit : Array Value:=#[.slice none 0 0,.slice none 0 0]
theorem B2I (os : Os) : laidMet Tryz.prog Rows.sturmRootsRow.laid ((laidWorld os).forCall (fun _ _=>0) ⟨#[],wit,[]⟩).memory :=
 laidMet_of_run' 8 (by kernel_rfl) (by kernel_rfl)
theorem reads (os : Os) {H : Type} (enc : TypeId × Value → H) : ∃ places,DataW.whole enc Tryz.prog ((laidWorld os).forCall (fun _ _=>0) ⟨#[],wit,[]⟩).memory Tryz.f3.params.toList Rows.sturmRootsSpec.vars false wit.toList 8 = some ([.nil,.nil],[],places) :=
 ⟨[],by kernel_rfl⟩
theorem B1t (os : Os) (started : os.Started) (H : Type) (enc : TypeId × Value → H) (F : Stop.Interp) :
  ReturnsInHanded {} Tryz.checked os 3 .any ((OpenSpec.ofChange Rows.sturmRootsSpec).preRow enc Tryz.prog Tryz.f3 Rows.sturmRootsRow.domain false Rows.sturmRootsRow.laid) (((OpenSpec.ofChange Rows.sturmRootsSpec).at F).post enc Tryz.prog Tryz.f3 false true false false):=by
 obtain ⟨places,hx⟩:=reads os enc
 refine returnsInHanded_of_row (C:=Tryz.checked) (s:=OpenSpec.ofChange Rows.sturmRootsSpec) B1s started (by kernel_rfl) Tryz.func3
  (witness_row_at (enc:=enc) (C:=Tryz.checked) false (laidWorld os) wit rfl (by kernel_rfl) (by kernel_rfl) (by kernel_rfl)
   (OpenSpec.preRow_of_cond 8 hx (by kernel_rfl) (fun k hk=>by cases hk) (by kernel_rfl) (B2I os))) ?_
 intro W base args ds gs before hval hW _ _ _ hL _ _
 exact B4m H enc W base args ds gs before hval hW hL
theorem B7d : Rows.SturmRootsSaid :=
 OpenClaim.holds_of_cond 3 Tryz.f3 rfl rfl rfl rfl rfl rfl rfl ⟨rfl,rfl,rfl,rfl,rfl⟩ rfl rfl rfl rfl rfl (by kernel_rfl) Tryz.func3 (by kernel_rfl)
  (of_decide_eq_true (by kernel_rfl)) (by unfold Func.isWrapper;first | (rw [if_pos (by decide +kernel)];kernel_rfl) | (rw [if_neg (by decide +kernel)];exact ⟨rfl,rfl⟩))
  (fun os started H enc _ F=>by rw [OpenClaim.pre_eq_preRow];exact B1t os started H enc F)
theorem plain (f : FuncId) (fn : Func) (hf : Tryz.pinned.checked.prog.funcNamed Rows.sturmRootsRow.func = some f) (hfn : Tryz.pinned.checked.prog.funcs[f]? = some fn) :
  false = Tryz.pinned.checked.prog.looks [] ∧ ∀ (j : Nat) t,fn.params[j]? = some t → Tryz.pinned.checked.prog.wantsStandIn t = false:=by
 obtain rfl : f = 3:=Option.some.inj ((show Tryz.prog.funcNamed Rows.sturmRootsRow.func = some 3 by kernel_rfl).symm.trans hf) |>.symm
 obtain rfl : fn = Tryz.f3:=(Option.some.inj (Tryz.func3.symm.trans hfn)).symm
 refine ⟨by kernel_rfl,fun j t ht=>?_⟩
 have h : (Tryz.f3.params.toList.all fun t=>!Tryz.prog.wantsStandIn t) = true:=by kernel_rfl
 have := List.all_eq_true.1 h t (Array.mem_toList_iff.2 (Array.mem_of_getElem? ht))
 have h2 : Tryz.prog.wantsStandIn t = false:=by simpa using this
 exact h2
theorem card : Rows.SturmRootsCardSaid :=
 Claim7.holds_tied_plain_at .later [] _ _ _ _ B7d (fun _ h=>by cases h) (by kernel_rfl) (fun _ h=>by cases h) sturmRoots_row_tie rfl ⟨rfl,rfl⟩ (by kernel_rfl) rfl plain (by kernel_rfl)
end Go.Proofs.YtlkniebmjdoopaaGreatDoor.sturmRoots
namespace Go.Proofs.YtlkniebmjdoopaaGreatDoor
theorem sturmRoots_holds : Rows.SturmRootsCardSaid:=sturmRoots.card
#print axioms sturmRoots_holds
end Go.Proofs.YtlkniebmjdoopaaGreatDoor
