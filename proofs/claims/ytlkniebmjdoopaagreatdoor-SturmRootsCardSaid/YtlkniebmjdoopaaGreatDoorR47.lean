/- Contracts and laws. -/
import Derived.Test.YtlkniebmjdoopaaGreatDoorR46
set_option linter.unusedSimpArgs false
set_option linter.unusedVariables false
set_option maxHeartbeats 8000000
set_option maxRecDepth 100000
namespace Go.Proofs.YtlkniebmjdoopaaGreatDoor
open Go Go.RowKit
theorem B6U (A1 A2 : Option Addr) (a b : List Rat) (n m c1 c2 : Nat) (hn : a.length = n) (hm : b.length = m) (hn1 : 1 ≤ n) (hm1 : 1 ≤ m) (hn2 : n ≤ 400) (hm2 : m ≤ 400) (Z : Nat) (ha : ∀ x ∈ a,qs x ≤ Z) (hb : ∀ x ∈ b,qs x ≤ Z) (hZ : ∀ i,i < n → ∀ j,j < m → ∀ x ∈ Q4 a b (mcO (n + m - 1) a b i) i j,qs x ≤ Z) (hB : 8 * Z + 10 ≤ BIG) (w : World) (h1 : Lz w A1 a) (h2 : Lz w A2 b) : Calls Tryz.prog 35 #[.slice A1 n c1,.slice A2 m c2] w (R7 (F9 a b) w):=by
 have hr1 : ∀ i,i < n → ∃ (b' o : Nat) (p : Az),A1 = some ⟨b',o,none⟩ ∧ ∀ W,A3 w W → Rz W p (gq a i) ∧ Cz W b' (o + i * 3) p (gq a i):=fun i hi=>by
  obtain ⟨b',o,e⟩:=h1.addr (by omega)
  subst e
  obtain ⟨p,hp⟩:=h1.read (i:=i) (by omega)
  exact ⟨b',o,p,rfl,hp⟩
 have hr2 : ∀ i,i < m → ∃ (b' o : Nat) (p : Az),A2 = some ⟨b',o,none⟩ ∧ ∀ W,A3 w W → Rz W p (gq b i) ∧ Cz W b' (o + i * 3) p (gq b i):=fun i hi=>by
  obtain ⟨b',o,e⟩:=h2.addr (by omega)
  subst e
  obtain ⟨p,hp⟩:=h2.read (i:=i) (by omega)
  exact ⟨b',o,p,rfl,hp⟩
 obtain ⟨N,hN⟩ : ∃ N,N = n + m - 1:=⟨_,rfl⟩
 have hmul : F9 a b = trL (mcO N a b n):=by
  unfold F9
  rw [if_neg (by
   rintro (h | h)
   ·rw [h] at hn;simp at hn;omega
   ·rw [h] at hm;simp at hm;omega),hn,hm,hN]
 rw [hmul]
 obtain ⟨MO,hMO⟩ : ∃ F,F = mcO N a b:=⟨_,rfl⟩
 have hM0 : MO 0 = A1Z N:=by rw [hMO];rfl
 obtain ⟨MI,hMI⟩ : ∃ F : Nat → Nat → List Rat,F = fun i j=>Q4 a b (MO i) i j:=⟨_,rfl⟩
 have hI0 : ∀ i,MI i 0 = MO i:=fun i=>by rw [hMI];rfl
 have hIm : ∀ i,MI i m = MO (i + 1):=fun i=>by rw [hMI,hMO,mcO,hm]
 have hIs : ∀ i j,MI i (j + 1) = (MI i j).set (i + j) (I7 (gq (MI i j) (i + j)) (E2 (gq a i) (gq b j))):=fun i j=>by rw [hMI];rfl
 have hIl : ∀ i j,(MI i j).length = N:=fun i j=>by rw [hMI];simp only;rw [A2b,hMO,A1i]
 have hIz : ∀ i,i < n → ∀ j,j < m → ∀ x ∈ MI i j,qs x ≤ Z:=fun i hi j hj x hx=>by
  rw [hMI,hMO,hN] at hx
  exact hZ i hi j hj x hx
 rw [← hMO]
 have hN2 : N ≤ 1000:=by omega
 have fz : IntKind.i64.wrap ((n : Int) + (m : Int)) = ((n + m : Nat) : Int):=by rw [IntWalk.i64_in _ (by omega)];omega
 have fz2 : IntKind.i64.wrap (((n + m : Nat) : Int) - 1) = (N : Int):=by rw [IntWalk.i64_in _ (by omega)];omega
 obtain ⟨nm,hnm⟩ : ∃ x,x = n + m:=⟨_,rfl⟩
 rw [← hnm] at fz fz2
 have f10 : ((n : Int) == 0) = false:=by rw [beq_eq_false_iff_ne];omega
 have f14 : ((m : Int) == 0) = false:=by rw [beq_eq_false_iff_ne];omega
 have Hr1:=Lib.hid hr1
 have Hr2:=Lib.hid hr2
 have HM0:=Lib.hid hM0
 have HI:=Lib.hid (And.intro hI0 (And.intro hIm (And.intro hIs (And.intro hIl hIz))))
 have Hab:=Lib.hid (And.intro ha hb)
 have Hnm:=Lib.hid (And.intro hN (And.intro hn hm))
 clear hr1 hr2 hM0 hI0 hIm hIs hIl hIz ha hb hMI hMO hZ hmul hN hn hm hnm h1 h2
 go_enter Tryz.func35,Tryz.ntmps35
 refine en0 ?_
 intro u hG hB hF
 refine wp_seq ?_
 refine r0T ?_
 refine wp_cond_false (rfl) ?_
 refine wp_skip ?_
 refine A4 ?_
 refine wp_seq (rsE A5 [0,0,0,0,0,0,1,0] hB hG fun L hL=>?_)
 refine gs ?_
 refine gxd (X:=Nat) (fun x : Nat=>.slice (some ⟨x,0,none⟩) N N) (fun x W=>ZW w.heap.size x N N (A1Z N) W) (fun x u u' hg h=>h.grow hg) (fun x22=>?_) (C:=by (rintro v ⟨hgu,hB,hG,-⟩;exact (B5F N hN2 _).mono fun e W ⟨x,g1,g2,g3⟩=>⟨x,g1,g2.mono hG.size,g3⟩))
 refine gs ?_
 refine geT hL ?_
 clear hB hG hL L
 rintro u ⟨⟨hgu,hB,hG,-⟩,hx22⟩
 have HL:=Lib.hid hx22
 clear hx22
 clear hgu
 refine wp_seq ?_
 refine r0T ?_
 refine wp_block ?_
 clear hB hF
 go_loopw [6] (fun s0 wr=>∃ i : Nat,i ≤ n ∧ s0 = .int .i64 i ∧ ZW w.heap.size x22 N N (MO i) wr ∧ A3 w wr) (fun s0 _=>n - (intOf s0).toNat)
 case atStart=>exact ⟨0,Nat.zero_le _,rfl,by rw [HM0.out];exact HL.out,hG⟩
 case round =>
  clear hG HL
  obtain ⟨i,hi,rfl,hL,hG⟩:=hrel
  obtain ⟨u,rfl⟩ : ∃ x,x = wr:=⟨_,rfl⟩
  have HL:=Lib.hid hL
  have hB:=Bx.nil u
  have hF:=Fr.nil w
  clear hL
  rcases Nat.lt_or_ge i n with hlt | hge
  ·have hdec : decide ((i : Int) < (n : Int)) = true:=by simp;omega
   have hin : (i : Int) < (n : Int):=by omega
   refine wp_seq ?_
   refine r0T ?_
   refine wp_cond_true (rfl) ?_
   refine wp_skip ?_
   refine A4 ?_
   refine wp_seq ?_
   refine wp_block ?_
   refine r0T ?_
   refine wp_block ?_
   clear hB hF
   go_loopw [7] (fun s0 wr=>∃ j : Nat,j ≤ m ∧ s0 = .int .i64 j ∧ ZW w.heap.size x22 N N (MI i j) wr ∧ A3 w wr) (fun s0 _=>m - (intOf s0).toNat)
   case atStart=>exact ⟨0,Nat.zero_le _,rfl,by rw [HI.out.1];exact HL.out,hG⟩
   case round =>
    clear hG HL
    obtain ⟨j,hj,rfl,hL,hG⟩:=hrel
    obtain ⟨u,rfl⟩ : ∃ x,x = wr:=⟨_,rfl⟩
    have HL:=Lib.hid hL
    have hB:=Bx.nil u
    have hF:=Fr.nil w
    clear hL
    rcases Nat.lt_or_ge j m with hltj | hgej
    ·have hdec2 : decide ((j : Int) < (m : Int)) = true:=by simp;omega
     have hjn : (j : Int) < (m : Int):=by omega
     obtain ⟨T,hT⟩ : ∃ T,T = i + j:=⟨_,rfl⟩
     have hTN : T < N:=by have := Hnm.out.1;omega
     have fT : IntKind.i64.wrap ((i : Int) + (j : Int)) = (T : Int):=by rw [IntWalk.i64_in _ (by omega)];omega
     have hTi : (T : Int) < (N : Int):=by omega
     obtain ⟨b1,o1,p1,rfl,hr1⟩:=Hr1.out i hlt
     obtain ⟨b2,o2,p2,rfl,hr2⟩:=Hr2.out j hltj
     obtain ⟨p3,hr3⟩:=HL.out.read (i:=T) hTN
     have zX : qs (gq a i) ≤ Z:=Hab.out.1 _ (A1U (by have := Hnm.out.2.1;omega))
     have zY : qs (gq b j) ≤ Z:=Hab.out.2 _ (A1U (by have := Hnm.out.2.2;omega))
     have zS : qs (gq (MI i j) T) ≤ Z:=HI.out.2.2.2.2 i hlt j hltj _ (A1U (by rw [HI.out.2.2.2.1];exact hTN))
     have hnx:=HI.out.2.2.1 i j
     rw [← hT] at hnx
     obtain ⟨X,hX⟩ : ∃ x,x = gq a i:=⟨_,rfl⟩
     obtain ⟨Y,hY⟩ : ∃ x,x = gq b j:=⟨_,rfl⟩
     obtain ⟨S,hS⟩ : ∃ x,x = gq (MI i j) T:=⟨_,rfl⟩
     rw [← hX] at hr1 zX
     rw [← hY] at hr2 zY
     rw [← hS] at hr3 zS
     rw [← hX,← hY,← hS] at hnx
     have zM:=A1M X Y
     obtain ⟨M,hM⟩ : ∃ x,x = E2 X Y:=⟨_,rfl⟩
     have zM : qs M ≤ 2 * Z:=by rw [hM];unfold E2;omega
     rw [← hM] at hnx
     have Hc1:=Lib.hid hr1
     have Hc2:=Lib.hid hr2
     have Hc3:=Lib.hid hr3
     have HM:=Lib.hid hM
     have Hnx:=Lib.hid hnx
     have HT2:=Lib.hid hT
     clear hr1 hr2 hr3 hM hnx hX hY hS hT
     obtain ⟨U,hU⟩ : ∃ x,x = u:=⟨_,rfl⟩
     have hg0 : A3 U u:=hU ▸ A3.refl u
     rw [← hU] at Hc3
     clear hU
     refine wp_seq ?_
     refine r0T ?_
     refine wp_cond_true (rfl) ?_
     refine wp_skip ?_
     refine A4 ?_
     refine wp_seq ?_
     refine wp_block ?_
     refine rdC A5 [] [(0,0),(0,1),(0,2),(0,3),(0,4),(0,5),(0,6),(0,7),(0,8),(0,9),(0,10),(0,11),(0,12),(0,13),(0,14),(0,15),(0,16),(0,17),(1,18),(1,19),(0,20)] hB hG fun K L hN hL=>?_
     repeat first | refine gya ?_ | refine gyr ?_ | refine gna ?_ | refine gyb (by (rintro v ⟨hgu,hB,hG,-⟩ N hN;have r:=hB.r;simp only [BxR] at r;obtain ⟨q1,q2,q3⟩:=(Hc1.out v hG).2;obtain ⟨r1,r2,r3⟩:=(Hc2.out v hG).2;obtain ⟨s1,s2,s3⟩:=(Hc3.out v (hg0.trans hgu)).2;go_simp;exact hN)) ?_
     refine grd (G9 M) (fun (x53 : Ax × Ax)=>?_) (C:=by (rintro v ⟨hgu,hB,hG,-⟩;exact HM.out ▸ B5p p1.1 p1.2 p2.1 p2.2 X Y _ (Hc1.out _ hG).1.a (Hc1.out _ hG).1.b (Hc2.out _ hG).1.a (Hc2.out _ hG).1.b (by omega)))
     refine grd (G9 (I7 S M)) (fun (x54 : Ax × Ax)=>?_) (C:=by (rintro v ⟨⟨hgu,hB,hG,-⟩,hx53⟩;obtain ⟨hx53a,hx53b⟩ : Rn v x53.1 _ ∧ Rn v x53.2 _:=hx53;exact B3m p3.1 p3.2 x53.1 x53.2 S M _ (Hc3.out _ (hg0.trans hgu)).1.a (Hc3.out _ (hg0.trans hgu)).1.b hx53a hx53b (by omega)))
     refine gs ?_
     refine geC hL ?_
     clear hB hG hL L
     rintro u ⟨⟨⟨hgu,hB,hG,-⟩,hx53⟩,hx54⟩
     obtain ⟨hx53a,hx53b⟩ : Rn u x53.1 _ ∧ Rn u x53.2 _:=hx53
     obtain ⟨hx54a,hx54b⟩ : Rn u x54.1 _ ∧ Rn u x54.2 _:=hx54
     have HL2:=Lib.hid (HL.out.grow hgu)
     clear HL
     have HL:=HL2
     clear HL2
     obtain ⟨z0,z1,z2,o0,oo1,oo2,hfz⟩:=HL.out.spot hTN
     clear hgu
     refine gt ?_
     clear hN K
     clear o0 oo1 oo2 hfz
     generalize hu0 : World.setCell (World.setCell (World.setCell u _ _) _ _) _ _ = u0
     have hu1 : F1 u x22 (T * 3) (zL x54 (I7 S M)) = u0:=hu0
     obtain ⟨hP,hP2⟩:=HL.out.put hTN ⟨hx54a,hx54b⟩ hu1
     rw [← Hnx.out] at hP
     have hG2 : A3 w u0:=hG.grown hP2 fun k hk=>by have := Option.some.inj hk;have := HL.out.lt.1;omega
     clear hG hB HL hP2 hu1 hu0 hx54a hx54b
     have HL:=Lib.hid hP
     have hG:=hG2
     have hB:=Bx.nil u0
     have hF:=Fr.nil w
     clear hG2 hP
     obtain ⟨u,rfl⟩ : ∃ x,x = u0:=⟨_,rfl⟩
     refine D5 ?_
     refine A4 ?_
     refine r0E ?_
     refine A4 ?_
     go_roundw
     case rel=>exact ⟨j + 1,hltj,by go_num,HL.out,hG⟩
     case measure=>simp [intOf];omega
    ·obtain rfl : m = j:=by omega
     have hdec2 : decide ((m : Int) < (m : Int)) = false:=by simp
     refine wp_seq ?_
     refine r0T ?_
     refine wp_cond_false (rfl) ?_
     refine wp_exit ?_
     refine B4 ?_
     refine B4 ?_
     refine E1 ?_
     refine D5 ?_
     refine A4 ?_
     refine r0E ?_
     refine A4 ?_
     go_roundw
     case rel=>exact ⟨i + 1,hlt,by go_num,by rw [← HI.out.2.1];exact HL.out,hG⟩
     case measure=>simp [intOf];omega
  ·obtain rfl : n = i:=by omega
   have hdec : decide ((n : Int) < (n : Int)) = false:=by simp
   refine wp_seq ?_
   refine r0T ?_
   refine wp_cond_false (rfl) ?_
   refine wp_exit ?_
   refine B4 ?_
   refine B4 ?_
   refine E1 ?_
   refine A4 ?_
   refine wp_seq (rsE A5 [0,1,0] hB hG fun L hL=>?_)
   refine gs ?_
   refine gxd (X:=Ax) (fun x : Ax=>.slice x.1 (trL (MO n)).length x.2) (fun x W=>OZ w.heap.size x (trL (MO n)) W) (fun x u u' hg h=>h.grow hg) (fun x57=>?_) (C:=by (rintro v ⟨hgu,hB,hG,-⟩;exact (B44 (some ⟨x22,0,none⟩) (MO n) N N (by rw [← HI.out.1,HI.out.2.2.2.1]) (Nat.le_refl _) hN2 _ ((HL.out.grow hgu).lz)).mono fun e W ⟨x,g1,g2,g3⟩=>⟨x,g1,g2.mono hG.size,g3⟩))
   refine gs ?_
   refine geT hL ?_
   clear hB hG hL L
   rintro u ⟨⟨-,hB,hG,-⟩,hx57⟩
   refine rt Tryz.results35 ?_
   exact ⟨x57,rfl,hx57,hG⟩
def A3X (a b : List Rat) : Prop:=∀ (W : World) (x y : Ax),Lz W x.1 a → Lz W y.1 b → Calls Tryz.prog 35 #[.slice x.1 a.length x.2,.slice y.1 b.length y.2] W (R7 (F9 a b) W)
theorem A6r {a b : List Rat} {A B Y : Nat} (ha : Czl a A) (hb : Czl b B) (hY : a.length ≤ 2 ^ Y) (h1 : a ≠ []) (h2 : b ≠ []) (h3 : a.length ≤ 400) (h4 : b.length ≤ 400) (hB : 8 * (A + B + Y) + 10 ≤ BIG) : A3X a b:=fun W x y hx hy =>
 have l1:=List.length_pos_iff.2 h1
 have l2:=List.length_pos_iff.2 h2
 B6U x.1 y.1 a b a.length b.length x.2 y.2 rfl rfl l1 l2 h3 h4 (A + B + Y) (fun z hz=>Nat.le_trans (I9 ha z hz) (by omega)) (fun z hz=>Nat.le_trans (I9 hb z hz) (by omega)) (fun i hi j hj z hz=>(B3S ha hb hY (n:=a.length + b.length - 1) (by omega) i (Nat.le_of_lt hi)).2 j (Nat.le_of_lt hj) hi z hz) hB W hx hy
def H5 (r : Int) : List Rat:=[G7 (J4 r),B1 1]
def oTo (rs : List Int) : Nat → List Rat
 | 0=>[B1 1]
 | i + 1=>if (gi rs i).tmod 5 = 4 then F9 (F9 (oTo rs i) (H5 (gi rs i))) (H5 (gi rs i)) else F9 (oTo rs i) (H5 (gi rs i))
def I3 (rs more : List Int) : List Rat:=if more = [] then oTo rs (min rs.length 4) else F9 (oTo rs (min rs.length 4)) (K9 more (min more.length 4))
def A3m (rs more : List Int) (how : Int) : List Rat:=if how.tmod 19 = 18 then I3 rs more ++ List.replicate 25 (B1 1) else I3 rs more
theorem A3y {x : Rat} {D : Nat} (h : qs x ≤ D) : Xz x D:=by
 unfold qs at h
 have h0 : ((x.den : Int)) ≠ 0:=by have := x.den_nz;omega
 refine ⟨x.num,x.den,h0,K5.1 (by omega),by rw [Int.natAbs_natCast];exact K5.1 (by omega),?_⟩
 have h1 : x = (x.num : Rat) / ((x.den : Int) : Rat):=by
  have h2:=Rat.mkRat_self x
  rw [Rat.mkRat_eq_div] at h2
  exact h2.symm
 have h3 : (x.num : Rat) / ((x.den : Int) : Rat) * ((x.den : Int) : Rat) = (x.num : Rat):=Rat.div_mul_cancel (Y4 h0)
 rw [← h1] at h3
 exact h3
theorem A47 (n : Int) : Xz (J4 n) 5:=A3y (A6J n)
theorem A3L (r : Int) : Czl (H5 r) 5:=A3h (A47 r)
theorem B6J (r : Int) (x : Rat) : pv (H5 r) x = x - J4 r:=Y1 (J4 r) x
theorem A5T (r : Int) : Mon (H5 r):=A6j (J4 r)
theorem A30 {a b : List Rat} (ha : Mon a) (hb : Mon b) : Mon (F9 a b) ∧ (F9 a b).length + 1 = a.length + b.length:=by
 obtain ⟨t,h1,h2,h3⟩:=B0V ha hb
 have e : F9 a b = t:=A1o (B4E a b) h1.tr fun x=>by rw [A0B,h3]
 rw [e];exact ⟨h1,h2⟩
theorem A0c (rs : List Int) : ∀ i,i ≤ 4 → Mon (oTo rs i) ∧ (oTo rs i).length ≤ 2 * i + 1 ∧ Czl (oTo rs i) (1 + 18 * i)
 | 0,_=>⟨⟨by simp [oTo],rfl⟩,by simp [oTo],A4A (by omega)⟩
 | i + 1,h=>by
  obtain ⟨h1,h2,h3⟩:=A0c rs i (by omega)
  have l:=A5T (gi rs i)
  obtain ⟨a1,a2⟩:=A30 h1 l
  obtain ⟨b1,b2⟩:=A30 a1 l
  have hl : (H5 (gi rs i)).length = 2:=rfl
  have c1:=A3i (Y:=4) h3 (A3L (gi rs i)) (by omega)
  have c2:=A3i (Y:=4) c1 (A3L (gi rs i)) (by omega)
  rw [oTo]
  split
  ·exact ⟨b1,by omega,c2.mono (by omega)⟩
  ·exact ⟨a1,by omega,c1.mono (by omega)⟩
theorem B1o (n : Int) : ∃ m : Int,J4 n * ((12 : Int) : Rat) = (m : Rat) ∧ m.natAbs < 2 ^ 8:=by
 have h1:=A34 n (m:=41) (by omega)
 unfold J4
 generalize N0 n 41 = P at *
 generalize (N0 (n.tdiv 41) 6).toNat = j
 have hd : Q3 j = 1 ∨ Q3 j = 2 ∨ Q3 j = 3 ∨ Q3 j = 4:=by unfold Q3;split <;> omega
 obtain ⟨k,hk⟩ : ∃ k : Int,Q3 j * k = 12 ∧ 0 < k ∧ k ≤ 12:=by
  rcases hd with h | h | h | h <;> rw [h]
  ·exact ⟨12,by omega,by omega,by omega⟩
  ·exact ⟨6,by omega,by omega,by omega⟩
  ·exact ⟨4,by omega,by omega,by omega⟩
  ·exact ⟨3,by omega,by omega,by omega⟩
 obtain ⟨h2,h3,h4⟩:=hk
 have h0 : Q3 j ≠ 0:=by omega
 refine ⟨(P - 20) * k,?_,?_⟩
 ·unfold D8
  rw [← h2,Rat.divInt_eq_div,Rat.intCast_mul,← Rat.mul_assoc,Rat.div_mul_cancel (Y4 h0),Rat.intCast_mul]
 ·rw [Int.natAbs_mul]
  have h5 : (P - 20).natAbs ≤ 20:=by omega
  have h6 : k.natAbs ≤ 12:=by omega
  have := Nat.mul_le_mul h5 h6
  omega
theorem A5J (l : List Int) (n : Nat) : Czl (K9 l n) 8:=by
 refine ⟨12,by omega,by decide,fun i=>?_⟩
 unfold K9
 rw [A0z]
 split
 ·unfold A4k
  split
  ·exact B1o _
  ·exact ⟨0,by show (0 : Rat) * _ = _;rw [Rat.intCast_zero];grind,by decide⟩
 ·exact ⟨0,by rw [Rat.intCast_zero];grind,by decide⟩
theorem A8E (rs : List Int) : ∀ i,i ≤ 4 → Sm (oTo rs i) (1 + 18 * i)
 | 0,_=>by
  have hm:=(A0c rs 0 (by omega)).1
  refine ⟨hm.nz,fun f hf hd=>?_⟩
  have := hd.len hf hm.nz
  rw [F6 hm.tr] at this
  rw [A62 hf this]
  exact A4A (by omega)
 | i + 1,h=>by
  have ih:=A8E rs i (by omega)
  obtain ⟨h1,h2,h3⟩:=A0c rs i (by omega)
  have l:=A5T (gi rs i)
  obtain ⟨a1,a2⟩:=A30 h1 l
  have hl : (H5 (gi rs i)).length = 2:=rfl
  have ls : Sm (H5 (gi rs i)) 5:=B2v (A47 _) (by omega)
  have s1:=A44 (p:=F9 (oTo rs i) (H5 (gi rs i))) (Y:=4) ih ls (by rw [F6 h1.tr];omega) (A0B _ _)
  have s2:=A44 (p:=F9 (F9 (oTo rs i) (H5 (gi rs i))) (H5 (gi rs i))) (Y:=4) s1 ls (by rw [F6 a1.tr];omega) (A0B _ _)
  rw [oTo]
  split
  ·exact ⟨s2.1,fun f hf hd=>(s2.2 f hf hd).mono (by omega)⟩
  ·exact ⟨s1.1,fun f hf hd=>(s1.2 f hf hd).mono (by omega)⟩
theorem A8r {p : List Rat} {S : Nat} (hS : S ≤ 200) (h : Czl p S) (hs : Sm p 200) (hl : p.length ≤ 32) (hn : trN p ≤ 15) : Pok p:=by
 have h0:=Q9.1 hs.1
 obtain ⟨d,e,hp,hm⟩:=A5h h0
 have hd : Dv (C5 p) p:=⟨d,hp.eq⟩
 refine ⟨hl,h0,by omega,⟨S,by omega,h,?_⟩,hs.2 _ (A5X _ h0) (A6G p (D7 p)).1,hs.2 _ hm hd,Nat.le_trans (hd.len hm hs.1) hn⟩
 have h1:=Nat.mul_le_mul (show S + 6 ≤ 206 by omega) (A1v hn)
 have h2 : 206 * E5 15 = 56816242:=by decide
 rw [O7];omega
theorem A4D (rs more : List Int) : (I3 rs more).length ≤ 12:=by
 obtain ⟨h1,h2,h3⟩:=A0c rs (min rs.length 4) (by omega)
 unfold I3
 split
 ·omega
 ·have := B1d (oTo rs (min rs.length 4)) (K9 more (min more.length 4))
  rw [A2H] at this
  omega
theorem A68 (rs more : List Int) : Czl (I3 rs more) 85:=by
 obtain ⟨h1,h2,h3⟩:=A0c rs (min rs.length 4) (by omega)
 unfold I3
 split
 ·exact h3.mono (by omega)
 ·exact (A3i (Y:=4) h3 (A5J more (min more.length 4)) (by omega)).mono (by omega)
theorem B4W (rs more : List Int) (h : trN (I3 rs more) ≠ 0) : Sm (I3 rs more) 139:=by
 obtain ⟨h1,h2,h3⟩:=A0c rs (min rs.length 4) (by omega)
 have hs:=A8E rs (min rs.length 4) (by omega)
 unfold I3 at h ⊢
 split
 ·exact ⟨hs.1,fun f hf hd=>(hs.2 f hf hd).mono (by omega)⟩
 ·rename_i hm
  rw [if_neg hm] at h
  have hrn : Nz (K9 more (min more.length 4)):=(A4d (A0B _ _) (Q9.2 h)).2
  have hrs:=A8Z (A5J more (min more.length 4)) hrn (by have := H8 (K9 more (min more.length 4));rw [A2H] at this;omega) (by omega)
  have := A44 (p:=F9 (oTo rs (min rs.length 4)) (K9 more (min more.length 4))) (Y:=4) hs hrs (by rw [F6 h1.tr];omega) (A0B _ _)
  exact ⟨this.1,fun f hf hd=>(this.2 f hf hd).mono (by omega)⟩
theorem B2B (rs more : List Int) (h : trN (I3 rs more) ≠ 0) : Pok (I3 rs more):=by
 have h1:=A4D rs more
 have h2:=H8 (I3 rs more)
 have h3:=B4W rs more h
 exact A8r (by omega) (A68 rs more) ⟨h3.1,fun f hf hd=>(h3.2 f hf hd).mono (by omega)⟩ (by omega) (by omega)
end Go.Proofs.YtlkniebmjdoopaaGreatDoor
