/- Contracts and laws. -/
import Derived.Test.YtlkniebmjdoopaaGreatDoorR47
set_option linter.unusedSimpArgs false
set_option linter.unusedVariables false
set_option maxHeartbeats 8000000
set_option maxRecDepth 100000
namespace Go.Proofs.YtlkniebmjdoopaaGreatDoor
open Go Go.RowKit
theorem A6f {u : World} {B b m size : Nat} {T : TypeId} {xs : List Value} (h : Blk u b T xs.toArray) (hb : B ≤ b) (hl : xs.length = m * size) (hm : m ≤ 1000000) : u.ownsRow B T size (.slice (some ⟨b,0,none⟩) m m) m xs:=by
 refine ⟨hl,.inr ⟨b,m,_,rfl,hb,h,Nat.le_refl _,by unfold maxLen;omega,by simpa using hl,?_⟩⟩
 rw [← hl];simp
theorem B5M (p : List Rat) (i : Nat) : p ++ List.replicate (i + 1) (B1 1) = (p ++ List.replicate i (B1 1)) ++ [B1 1]:=by
 rw [List.replicate_succ',List.append_assoc]
theorem B4w (A1 A2 : Option Addr) (rs more : List Int) (n m c1 c2 : Nat) (how : Int) (hn : n = rs.length) (hm : m = more.length) (hn9 : n ≤ 9223372036854775807) (hm9 : m ≤ 9223372036854775807) (hb1 : ∀ x ∈ rs,-9223372036854775808 ≤ x ∧ x ≤ 9223372036854775807) (hb2 : ∀ x ∈ more,-9223372036854775808 ≤ x ∧ x ≤ 9223372036854775807) (w : World) (h1 : Li w A1 rs) (h2 : Li w A2 more) : Calls Tryz.prog 9 #[.slice A1 n c1,.slice A2 m c2,.int .i64 how] w (R7 (A3m rs more how) w):=by
 obtain ⟨K,hK⟩ : ∃ K,K = min rs.length 4:=⟨_,rfl⟩
 have hK4 : K ≤ 4 ∧ K ≤ n ∧ (n = K ∨ K = 4):=by omega
 have hrd : ∀ i,i < n → ∃ b o,A1 = some ⟨b,o,none⟩ ∧ ∀ W,A3 w W → W.cell? ⟨b,o + i,none⟩ = some (.int .i64 (gi rs i)):=fun i hi=>h1.at (by omega)
 have hgi : ∀ i,i < n → -9223372036854775808 ≤ gi rs i ∧ gi rs i ≤ 9223372036854775807:=fun i hi=>by
  have h9 : rs[i]? = some (gi rs i):=by unfold gi;rw [List.getElem?_eq_getElem (by omega)];rfl
  exact hb1 _ (List.mem_of_getElem? h9)
 obtain ⟨O,hO⟩ : ∃ O,O = oTo rs:=⟨_,rfl⟩
 have hOl : ∀ i,i ≤ 4 → O i ≠ [] ∧ (O i).length ≤ 9:=fun i hi=>by
  obtain ⟨q1,q2,q3⟩:=A0c rs i hi
  rw [hO]
  exact ⟨q1.1,by omega⟩
 have hO0 : O 0 = [B1 1]:=by rw [hO];rfl
 have hcm : ∀ i,i < 4 → A3X (O i) (H5 (gi rs i)) ∧ A3X (F9 (O i) (H5 (gi rs i))) (H5 (gi rs i)):=fun i hi=>by
  obtain ⟨q1,q2,q3⟩:=A0c rs i (by omega)
  have l:=A5T (gi rs i)
  obtain ⟨a1,a2⟩:=A30 q1 l
  have hl : (H5 (gi rs i)).length = 2:=rfl
  have e:=O7
  rw [hO]
  exact ⟨A6r (Y:=4) q3 (A3L _) (by omega) q1.1 l.1 (by omega) (by omega) (by omega),A6r (Y:=4) (A3i (Y:=4) q3 (A3L (gi rs i)) (by omega)) (A3L _) (by omega) a1.1 l.1 (by omega) (by omega) (by omega)⟩
 have hOs : ∀ i,O (i + 1) = if (gi rs i).tmod 5 = 4 then F9 (F9 (O i) (H5 (gi rs i))) (H5 (gi rs i)) else F9 (O i) (H5 (gi rs i)):=fun i=>by rw [hO];rfl
 have hmo : I3 rs more = if more = [] then O K else F9 (O K) (K9 more (min more.length 4)):=by rw [hO,hK];rfl
 have hcr : 0 < m → A3X (O K) (K9 more (min more.length 4)):=fun h0=>by
  obtain ⟨q1,q2,q3⟩:=A0c rs K (by omega)
  have e:=O7
  rw [hO]
  exact A6r (Y:=4) q3 (A5J _ _) (by omega) q1.1 (fun e=>by have := congrArg List.length e;rw [A2H,List.length_nil] at this;omega) (by omega) (by rw [A2H];omega) (by omega)
 have hrow:=fun W (hg : A3 w W)=>B5E A2 more c2 m (min more.length 4) hm (by omega) hm9 hb2 W (h2.grow hg)
 have hone : A3m rs more how = if how.tmod 19 = 18 then I3 rs more ++ List.replicate 25 (B1 1) else I3 rs more:=rfl
 rw [hone]
 have hol:=A4D rs more
 obtain ⟨PM,hPM⟩ : ∃ P,P = I3 rs more:=⟨_,rfl⟩
 rw [← hPM] at hmo hol ⊢
 have hm1 : ∀ i,i < 4 → ∀ (W : World) (x : Ax) (b : Nat),Lz W x.1 (O i) → Lz W (some ⟨b,0,none⟩) (H5 (gi rs i)) → Calls Tryz.prog 35 #[.slice x.1 (O i).length x.2,.slice (some ⟨b,0,none⟩) 2 2] W (R7 (F9 (O i) (H5 (gi rs i))) W):=fun i hi W x b hx hy=>(hcm i hi).1 W x (some ⟨b,0,none⟩,2) hx hy
 have hm2 : ∀ i,i < 4 → ∀ (W : World) (x : Ax) (b : Nat),Lz W x.1 (F9 (O i) (H5 (gi rs i))) → Lz W (some ⟨b,0,none⟩) (H5 (gi rs i)) → Calls Tryz.prog 35 #[.slice x.1 (F9 (O i) (H5 (gi rs i))).length x.2,.slice (some ⟨b,0,none⟩) 2 2] W (R7 (F9 (F9 (O i) (H5 (gi rs i))) (H5 (gi rs i))) W):=fun i hi W x b hx hy=>(hcm i hi).2 W x (some ⟨b,0,none⟩,2) hx hy
 obtain ⟨k,hk⟩ : ∃ k,k = min more.length 4:=⟨_,rfl⟩
 rw [← hk] at hmo hcr hrow
 have hrow2 : ∀ W,A3 w W → Calls Tryz.prog 34 #[.slice A2 m c2,.int .i64 (k : Nat)] W (I1 (fun x : Ax=>.slice x.1 k x.2) (fun x W'=>OZ W.heap.size x (K9 more k) W') W):=fun W hg=>(hrow W hg).mono fun e w' ⟨v,ps,he,hps,hA,ho,hG⟩=>by
  obtain ⟨A',cc,rfl⟩:=A5j ho
  exact ⟨(A',cc),he,⟨ps,hps,hA,by rw [A2H];exact ho⟩,hG⟩
 have hm3 : 0 < m → ∀ (W : World) (x y : Ax),Lz W x.1 (O K) → Lz W y.1 (K9 more k) → Calls Tryz.prog 35 #[.slice x.1 (O K).length x.2,.slice y.1 k y.2] W (R7 (F9 (O K) (K9 more k)) W):=fun h0 W x y hx hy=>by
  have := hcr h0 W x y hx hy
  rw [A2H] at this
  exact this
 unfold R7 at hm1 hm2 hm3 ⊢
 have Hrd:=Lib.hid hrd
 have Hgi:=Lib.hid hgi
 have HO:=Lib.hid (And.intro hOl (And.intro hO0 hOs))
 have Hm1:=Lib.hid hm1
 have Hm2:=Lib.hid hm2
 have Hm3:=Lib.hid hm3
 have Hrow:=Lib.hid hrow2
 have Hmo:=Lib.hid hmo
 have Hkk:=Lib.hid (And.intro hk (And.intro hm hol))
 obtain ⟨hk4,hkn,hkz⟩:=hK4
 clear hrd hgi hOl hO0 hOs hm1 hm2 hm3 hcm hcr hrow hrow2 hmo hone hO hK hn hPM hb1 hb2 h1 h2 hk hm hol
 go_enter Tryz.func9,Tryz.ntmps9
 refine en0 ?_
 intro u hG hB hF
 refine wp_seq (rsE A5 [1,1,0] hB hG fun L hL=>?_)
 refine grd (G9 (B1 1)) (fun (x11 : Ax × Ax)=>?_) (C:=fun v _=>A0N 1 (by omega) (by omega) _)
 refine gx Nat (fun b=>.slice (some ⟨b,0,none⟩) 1 1) (fun b W=>Blk W b 66 (zL x11 (B1 1)).toArray ∧ w.heap.size ≤ b) (fun b u u' hg h=>⟨h.1.grow hg,h.2⟩) rfl ?_ (fun x12=>?_)
 ·(rintro v ⟨⟨hgu,hB,hG,-⟩,hx11⟩ N hN;go_simp;exact hN v.heap.size _ (⟨Blk.new v 66 (zL x11 (B1 1)).toArray,hG.size⟩) (A3.alloc _ _))
 refine okf (by simp only [Act.put,List.setIfInBounds_toArray,List.set_cons_succ,List.set_cons_zero];exact rfl) ?_
 refine gs ?_
 refine geT hL ?_
 clear hB hG hL L
 rintro u ⟨⟨⟨hgu,hB,hG,-⟩,hx11⟩,hx12⟩
 obtain ⟨hx11a,hx11b⟩ : Rn u x11.1 _ ∧ Rn u x11.2 _:=hx11
 have HP:=Lib.hid (show OZ w.heap.size (some ⟨x12,0,none⟩,1) [B1 1] u from ⟨[(x11,B1 1)],rfl,fun r hr=>by
  obtain rfl:=List.mem_singleton.1 hr
  exact ⟨hx11a,hx11b⟩,B0l (xs:=zL x11 (B1 1)) hx12.1 hx12.2⟩)
 clear hx11a hx11b hx12
 clear hgu
 refine A7v fun Kj hKj=>?_
 go_cut [7] from 8 to 42 (fun s7 wx=>∃ x : Ax,s7 = .slice x.1 (O K).length x.2 ∧ OZ w.heap.size x (O K) wx ∧ A3 w wx)
 case first =>
  rename_i Jj Kk hJj hMj
  refine r0T ?_
  refine wp_block ?_
  clear hB hF
  go_loopw [8,7] (fun s0 s1 wr=>∃ (i : Nat) (x : Ax),i ≤ K ∧ s0 = .int .i64 i ∧ s1 = .slice x.1 (O i).length x.2 ∧ OZ w.heap.size x (O i) wr ∧ A3 w wr) (fun s0 _ _=>K - (intOf s0).toNat)
  case atStart=>exact ⟨0,(some ⟨x12,0,none⟩,1),Nat.zero_le _,rfl,by rw [HO.out.2.1];rfl,by rw [HO.out.2.1];exact HP.out,hG⟩
  case round =>
   clear hG HP
   obtain ⟨i,⟨xa,xc⟩,hi,rfl,rfl,hp,hG⟩:=hrel
   obtain ⟨u,rfl⟩ : ∃ x,x = wr:=⟨_,rfl⟩
   have hB:=Bx.nil u
   have hF:=Fr.nil w
   have HP:=Lib.hid hp
   clear hp
   have hlen:=(HO.out.1 i (by omega)).2
   rcases Nat.lt_or_ge i K with hlt | hge
   ·have hin : i < n:=by omega
    have f16 : decide ((i : Int) < (n : Int)) = true:=decide_eq_true (by omega)
    have f19 : decide ((i : Int) < 4) = true:=decide_eq_true (by omega)
    have hii : (i : Int) < (n : Int):=by omega
    obtain ⟨b,o,rfl,hrd⟩:=Hrd.out i hin
    obtain ⟨hg1,hg2⟩:=Hgi.out i hin
    have hm1:=Hm1.out i (by omega)
    have hm2:=Hm2.out i (by omega)
    have hos:=HO.out.2.2 i
    obtain ⟨G,hGe⟩ : ∃ G,G = gi rs i:=⟨_,rfl⟩
    rw [← hGe] at hg1 hg2
    simp only [← hGe] at hrd hm1 hm2 hos
    have hR:=fun W=>A6m G W hg1 hg2
    obtain ⟨X,hX⟩ : ∃ X,X = J4 G:=⟨_,rfl⟩
    simp only [← hX] at hR
    have hlin : H5 G = [G7 X,B1 1]:=by rw [hX];rfl
    obtain ⟨L1,hL1⟩ : ∃ L,L = F9 (O i) (H5 G):=⟨_,rfl⟩
    rw [← hL1] at hm1 hm2 hos
    obtain ⟨L2,hL2⟩ : ∃ L,L = F9 L1 (H5 G):=⟨_,rfl⟩
    rw [← hL2] at hm2 hos
    obtain ⟨l1,hl1⟩ : ∃ l,l = L1.length:=⟨_,rfl⟩
    obtain ⟨l2,hl2⟩ : ∃ l,l = L2.length:=⟨_,rfl⟩
    simp only [← hl1] at hm1 hm2
    simp only [← hl2] at hm2
    rw [hlin] at hm1 hm2
    have Hrd1:=Lib.hid hrd
    have Hr:=Lib.hid hR
    have HM1:=Lib.hid hm1
    have HM2:=Lib.hid hm2
    have Hl:=Lib.hid (And.intro hl1 hl2)
    by_cases h4 : G.tmod 5 = 4
    ·have f39 : (G.tmod 5 == 4) = true:=by rw [h4];rfl
     rw [if_pos h4] at hos
     have HOs:=Lib.hid hos
     clear hrd hR hm1 hm2 hos hL1 hL2 hGe hX hlin h4 hl1 hl2
     refine wp_seq ?_
     refine r0T ?_
     refine wp_cond_true (rfl) ?_
     refine wp_skip ?_
     refine A4 ?_
     refine wp_seq ?_
     refine wp_block ?_
     refine wp_seq (rsE A5 [0,0,0,0,1,1,1,1,0] hB hG fun L hL=>?_)
     repeat first | refine gya ?_ | refine gyr ?_ | refine gna ?_ | refine gyb (by (rintro v ⟨hgu,hB,hG,-⟩ N hN;have r:=hB.r;simp only [BxR] at r;have q0:=Hrd1.out v hG;go_simp;exact hN)) ?_
     refine grd (G9 X) (fun (x27 : Ax × Ax)=>?_) (C:=fun v _=>Hr.out _)
     refine gmd (C:=by (rintro v ⟨⟨hgu,hB,hG,-⟩,hx27⟩;obtain ⟨hx27a,hx27b⟩ : Rn v x27.1 _ ∧ Rn v x27.2 _:=hx27;exact B0h x27.1 x27.2 X _)) ?_
     refine grd (G9 (B1 1)) (fun (x29 : Ax × Ax)=>?_) (C:=by (rintro v ⟨⟨hgu,hB,hG,-⟩,hx27⟩;obtain ⟨hx27a,hx27b⟩ : Rn v x27.1 _ ∧ Rn v x27.2 _:=hx27;exact A0N 1 (by omega) (by omega) _))
     refine gx Nat (fun b=>.slice (some ⟨b,0,none⟩) 2 2) (fun b W=>Blk W b 66 (zL x27 (G7 X) ++ zL x29 (B1 1)).toArray ∧ w.heap.size ≤ b) (fun b u u' hg h=>⟨h.1.grow hg,h.2⟩) rfl ?_ (fun x30=>?_)
     ·(rintro v ⟨⟨⟨hgu,hB,hG,-⟩,hx27⟩,hx29⟩ N hN;go_simp;exact hN v.heap.size _ (⟨Blk.new v 66 (zL x27 (G7 X) ++ zL x29 (B1 1)).toArray,hG.size⟩) (A3.alloc _ _))
     refine okf (by simp only [Act.put,List.setIfInBounds_toArray,List.set_cons_succ,List.set_cons_zero];exact rfl) ?_
     refine gs ?_
     refine geT hL ?_
     clear hB hG hL L
     rintro u ⟨⟨⟨⟨hgu,hB,hG,-⟩,hx27⟩,hx29⟩,hx30⟩
     obtain ⟨hx27a,hx27b⟩ : Rn u x27.1 _ ∧ Rn u x27.2 _:=hx27
     obtain ⟨hx29a,hx29b⟩ : Rn u x29.1 _ ∧ Rn u x29.2 _:=hx29
     have HP2:=Lib.hid (HP.out.grow hgu)
     clear HP
     have HP:=HP2
     clear HP2
     have hneg : Rz u x27 (G7 X):=⟨by
      have e : (G7 X).num.natAbs = X.num.natAbs:=by unfold G7;rw [Rat.neg_num,Int.natAbs_neg]
      rw [e];exact hx27a,by
      have e : (G7 X).den = X.den:=by unfold G7;rw [Rat.neg_den]
      rw [e];exact hx27b⟩
     have hlz : Lz u (some ⟨x30,0,none⟩) [G7 X,B1 1]:=by
      have ho:=A6f (m:=2) (size:=3) (xs:=zL x27 (G7 X) ++ zL x29 (B1 1)) hx30.1 hx30.2 rfl (by omega)
      obtain ⟨A9,c9,e9,-,-,h9,-⟩:=A0e (ps:=[(x27,G7 X),(x29,B1 1)]) (by simpa [zrL] using ho) (fun r hr=>by
       simp only [List.mem_cons,List.not_mem_nil,or_false] at hr
       rcases hr with rfl | rfl
       ·exact hneg
       ·exact ⟨hx29a,hx29b⟩)
      cases e9
      exact h9
     have HFl:=Lib.hid hlz
     clear hx27a hx27b hx29a hx29b hx30 hneg hlz
     clear hgu
     refine wp_seq (rsE A5 [0,0,1,0] hB hG fun L hL=>?_)
     refine gs ?_
     refine gxd (X:=Ax) (fun x : Ax=>.slice x.1 l1 x.2) (fun x W=>OZ w.heap.size x L1 W) (fun x u u' hg h=>h.grow hg) (fun x33=>?_) (C:=by (rintro v ⟨hgu,hB,hG,-⟩;exact (HM1.out _ (xa,xc) x30 (HP.out.grow hgu).lz (HFl.out.grow hgu)).mono fun e W ⟨x,g1,g2,g3⟩=>⟨x,g1,g2.mono hG.size,g3⟩))
     refine gs ?_
     refine geT hL ?_
     clear hB hG hL L
     rintro u ⟨⟨hgu,hB,hG,-⟩,hx33⟩
     have HQ:=Lib.hid hx33
     have HFl2:=Lib.hid (HFl.out.grow hgu)
     clear hx33 HFl HP
     have HFl:=HFl2
     clear HFl2
     clear hgu
     refine wp_seq ?_
     (first | have q0:=Hrd1.out u hG | skip)
     refine r0N ?_
     refine wp_cond_true (rfl) ?_
     refine rsE A5 [0,0,1,0] hB hG fun L hL=>?_
     refine gs ?_
     refine gxd (X:=Ax) (fun x : Ax=>.slice x.1 l2 x.2) (fun x W=>OZ w.heap.size x L2 W) (fun x u u' hg h=>h.grow hg) (fun x42=>?_) (C:=by (rintro v ⟨hgu,hB,hG,-⟩;exact (HM2.out _ x33 x30 (HQ.out.grow hgu).lz (HFl.out.grow hgu)).mono fun e W ⟨x,g1,g2,g3⟩=>⟨x,g1,g2.mono hG.size,g3⟩))
     refine gs ?_
     refine geE hL ?_
     clear hB hG hL L
     rintro u ⟨⟨hgu,hB,hG,-⟩,hx42⟩
     have HQ2:=Lib.hid hx42
     clear hx42 HQ
     clear hgu
     refine D5 ?_
     refine A4 ?_
     refine r0E ?_
     refine A4 ?_
     go_roundw
     case rel=>exact ⟨i + 1,x42,by omega,by go_num,by rw [HOs.out,← Hl.out.2],by rw [HOs.out];exact HQ2.out,hG⟩
     case measure=>simp [intOf];omega
    ·have f39 : (G.tmod 5 == 4) = false:=by rw [beq_eq_false_iff_ne];exact h4
     rw [if_neg h4] at hos
     have HOs:=Lib.hid hos
     clear hrd hR hm1 hm2 hos hL1 hL2 hGe hX hlin h4 hl1 hl2
     refine wp_seq ?_
     refine r0T ?_
     refine wp_cond_true (rfl) ?_
     refine wp_skip ?_
     refine A4 ?_
     refine wp_seq ?_
     refine wp_block ?_
     refine wp_seq (rsE A5 [0,0,0,0,1,1,1,1,0] hB hG fun L hL=>?_)
     repeat first | refine gya ?_ | refine gyr ?_ | refine gna ?_ | refine gyb (by (rintro v ⟨hgu,hB,hG,-⟩ N hN;have r:=hB.r;simp only [BxR] at r;have q0:=Hrd1.out v hG;go_simp;exact hN)) ?_
     refine grd (G9 X) (fun (x27 : Ax × Ax)=>?_) (C:=fun v _=>Hr.out _)
     refine gmd (C:=by (rintro v ⟨⟨hgu,hB,hG,-⟩,hx27⟩;obtain ⟨hx27a,hx27b⟩ : Rn v x27.1 _ ∧ Rn v x27.2 _:=hx27;exact B0h x27.1 x27.2 X _)) ?_
     refine grd (G9 (B1 1)) (fun (x29 : Ax × Ax)=>?_) (C:=by (rintro v ⟨⟨hgu,hB,hG,-⟩,hx27⟩;obtain ⟨hx27a,hx27b⟩ : Rn v x27.1 _ ∧ Rn v x27.2 _:=hx27;exact A0N 1 (by omega) (by omega) _))
     refine gx Nat (fun b=>.slice (some ⟨b,0,none⟩) 2 2) (fun b W=>Blk W b 66 (zL x27 (G7 X) ++ zL x29 (B1 1)).toArray ∧ w.heap.size ≤ b) (fun b u u' hg h=>⟨h.1.grow hg,h.2⟩) rfl ?_ (fun x30=>?_)
     ·(rintro v ⟨⟨⟨hgu,hB,hG,-⟩,hx27⟩,hx29⟩ N hN;go_simp;exact hN v.heap.size _ (⟨Blk.new v 66 (zL x27 (G7 X) ++ zL x29 (B1 1)).toArray,hG.size⟩) (A3.alloc _ _))
     refine okf (by simp only [Act.put,List.setIfInBounds_toArray,List.set_cons_succ,List.set_cons_zero];exact rfl) ?_
     refine gs ?_
     refine geT hL ?_
     clear hB hG hL L
     rintro u ⟨⟨⟨⟨hgu,hB,hG,-⟩,hx27⟩,hx29⟩,hx30⟩
     obtain ⟨hx27a,hx27b⟩ : Rn u x27.1 _ ∧ Rn u x27.2 _:=hx27
     obtain ⟨hx29a,hx29b⟩ : Rn u x29.1 _ ∧ Rn u x29.2 _:=hx29
     have HP2:=Lib.hid (HP.out.grow hgu)
     clear HP
     have HP:=HP2
     clear HP2
     have hneg : Rz u x27 (G7 X):=⟨by
      have e : (G7 X).num.natAbs = X.num.natAbs:=by unfold G7;rw [Rat.neg_num,Int.natAbs_neg]
      rw [e];exact hx27a,by
      have e : (G7 X).den = X.den:=by unfold G7;rw [Rat.neg_den]
      rw [e];exact hx27b⟩
     have hlz : Lz u (some ⟨x30,0,none⟩) [G7 X,B1 1]:=by
      have ho:=A6f (m:=2) (size:=3) (xs:=zL x27 (G7 X) ++ zL x29 (B1 1)) hx30.1 hx30.2 rfl (by omega)
      obtain ⟨A9,c9,e9,-,-,h9,-⟩:=A0e (ps:=[(x27,G7 X),(x29,B1 1)]) (by simpa [zrL] using ho) (fun r hr=>by
       simp only [List.mem_cons,List.not_mem_nil,or_false] at hr
       rcases hr with rfl | rfl
       ·exact hneg
       ·exact ⟨hx29a,hx29b⟩)
      cases e9
      exact h9
     have HFl:=Lib.hid hlz
     clear hx27a hx27b hx29a hx29b hx30 hneg hlz
     clear hgu
     refine wp_seq (rsE A5 [0,0,1,0] hB hG fun L hL=>?_)
     refine gs ?_
     refine gxd (X:=Ax) (fun x : Ax=>.slice x.1 l1 x.2) (fun x W=>OZ w.heap.size x L1 W) (fun x u u' hg h=>h.grow hg) (fun x33=>?_) (C:=by (rintro v ⟨hgu,hB,hG,-⟩;exact (HM1.out _ (xa,xc) x30 (HP.out.grow hgu).lz (HFl.out.grow hgu)).mono fun e W ⟨x,g1,g2,g3⟩=>⟨x,g1,g2.mono hG.size,g3⟩))
     refine gs ?_
     refine geT hL ?_
     clear hB hG hL L
     rintro u ⟨⟨hgu,hB,hG,-⟩,hx33⟩
     have HQ:=Lib.hid hx33
     have HFl2:=Lib.hid (HFl.out.grow hgu)
     clear hx33 HFl HP
     have HFl:=HFl2
     clear HFl2
     clear hgu
     refine wp_seq ?_
     (first | have q0:=Hrd1.out u hG | skip)
     refine r0N ?_
     refine wp_cond_false (rfl) ?_
     refine wp_skip ?_
     refine D5 ?_
     refine A4 ?_
     refine r0E ?_
     refine A4 ?_
     go_roundw
     case rel=>exact ⟨i + 1,x33,by omega,by go_num,by rw [HOs.out,← Hl.out.1],by rw [HOs.out];exact HQ.out,hG⟩
     case measure=>simp [intOf];omega
   ·obtain rfl : K = i:=by omega
    by_cases hn4 : n = K
    ·subst hn4
     have f16 : decide ((n : Int) < (n : Int)) = false:=by simp
     clear hk4 hkn hkz hi hge hlen
     refine wp_seq ?_
     refine r0T ?_
     refine wp_cond_false (rfl) ?_
     refine wp_exit ?_
     refine B4 ?_
     refine B4 ?_
     refine E1 ?_
     refine A4 ?_
     refine hMj _ _ (Met.intro (hJj _ _ ?_))
     repeat apply Exists.intro
     refine ⟨?rel,rfl⟩
     case rel =>
      exact ⟨(xa,xc),rfl,HP.out,hG⟩
    ·obtain rfl : K = 4:=by omega
     have f16 : decide (((4 : Nat) : Int) < (n : Int)) = true:=decide_eq_true (by omega)
     have f16' : decide ((4 : Int) < (n : Int)) = true:=decide_eq_true (by omega)
     clear hk4 hkn hkz hi hge hlen hn4
     refine wp_seq ?_
     refine r0T ?_
     refine wp_cond_false (rfl) ?_
     refine wp_exit ?_
     refine B4 ?_
     refine B4 ?_
     refine E1 ?_
     refine A4 ?_
     refine hMj _ _ (Met.intro (hJj _ _ ?_))
     repeat apply Exists.intro
     refine ⟨?rel,rfl⟩
     case rel =>
      exact ⟨(xa,xc),rfl,HP.out,hG⟩
 case rest =>
  clear hB hG HP
  obtain ⟨⟨xa,xc⟩,rfl,hp,hG⟩:=hcut
  obtain ⟨u,rfl⟩ : ∃ x,x = wc:=⟨_,rfl⟩
  have hB:=Bx.nil u
  have hF:=Fr.nil w
  have HP:=Lib.hid hp
  clear hp hk4 hkn hkz
  refine hKj _ _ ?_
  clear hKj Kj
  refine A7v fun Kj hKj=>?_
  go_cut [7] from 43 to 52 (fun s7 wx=>∃ x : Ax,s7 = .slice x.1 PM.length x.2 ∧ OZ w.heap.size x PM wx ∧ A3 w wx)
  case first =>
   rename_i Jj Kk hJj hMj
   rcases Nat.eq_zero_or_pos m with h0 | h0
   ·have f45 : decide (0 < m) = false:=decide_eq_false (by omega)
    have hpm : PM = O K:=by rw [Hmo.out,if_pos (List.length_eq_zero_iff.1 (by have := Hkk.out.2.1;omega))]
    have Hpm:=Lib.hid hpm
    clear hpm h0
    refine r0T ?_
    refine wp_cond_false (rfl) ?_
    refine wp_skip ?_
    refine A4 ?_
    refine hMj _ _ (Met.intro (hJj _ _ ?_))
    repeat apply Exists.intro
    refine ⟨?rel,rfl⟩
    case rel =>
     exact ⟨(xa,xc),by rw [Hpm.out],by rw [Hpm.out];exact HP.out,hG⟩
   ·have f45 : decide (0 < m) = true:=decide_eq_true h0
    have hpm : PM = F9 (O K) (K9 more k):=by rw [Hmo.out,if_neg (fun e=>by have := Hkk.out.2.1;rw [e] at this;simp at this;omega)]
    have Hm3:=Lib.hid (Hm3.out h0)
    have f50 : min (m : Int) 4 = (k : Int):=by have h1:=Hkk.out.1;have h2:=Hkk.out.2.1;omega
    rw [← hpm] at Hm3
    obtain ⟨lp,hlp⟩ : ∃ l,l = PM.length:=⟨_,rfl⟩
    have hm3:=Hm3.out
    simp only [← hlp] at hm3 ⊢
    have HM3:=Lib.hid hm3
    have Hlp:=Lib.hid hlp
    clear hpm h0 Hm3 hm3 hlp
    refine r0T ?_
    refine wp_cond_true (rfl) ?_
    refine rsE A5 [0,0,0,0,0,1,1,0] hB hG fun L hL=>?_
    refine gs ?_
    refine gxd (X:=Ax) (fun x : Ax=>.slice x.1 k x.2) (fun x W=>OZ w.heap.size x (K9 more k) W) (fun x u u' hg h=>h.grow hg) (fun x51=>?_) (C:=by (rintro v ⟨hgu,hB,hG,-⟩;exact (Hrow.out _ hG).mono fun e W ⟨x,g1,g2,g3⟩=>⟨x,g1,g2.mono hG.size,g3⟩))
    refine gxd (X:=Ax) (fun x : Ax=>.slice x.1 lp x.2) (fun x W=>OZ w.heap.size x PM W) (fun x u u' hg h=>h.grow hg) (fun x52=>?_) (C:=by (rintro v ⟨⟨hgu,hB,hG,-⟩,hx51⟩;exact (HM3.out _ (xa,xc) x51 (HP.out.grow hgu).lz hx51.lz).mono fun e W ⟨x,g1,g2,g3⟩=>⟨x,g1,g2.mono hG.size,g3⟩))
    refine gs ?_
    refine geT hL ?_
    clear hB hG hL L
    rintro u ⟨⟨⟨-,hB,hG,-⟩,hx51⟩,hx52⟩
    refine hMj _ _ (Met.intro (hJj _ _ ?_))
    repeat apply Exists.intro
    refine ⟨?rel,rfl⟩
    case rel =>
     exact ⟨x52,by rw [← Hlp.out],hx52,hG⟩
  case rest =>
   clear hB hG HP
   obtain ⟨⟨xa,xc⟩,rfl,hp,hG⟩:=hcut
   obtain ⟨u,rfl⟩ : ∃ x,x = wc:=⟨_,rfl⟩
   have hB:=Bx.nil u
   have hF:=Fr.nil w
   have HP:=Lib.hid hp
   clear hp
   refine hKj _ _ ?_
   clear hKj Kj
   refine wp_seq ?_
   by_cases hh : how.tmod 19 = 18
   ·have f55 : (how.tmod 19 == 18) = true:=by rw [hh];rfl
    have Hh:=Lib.hid hh
    clear hh
    refine r0T ?_
    refine wp_cond_true (rfl) ?_
    refine r0T ?_
    refine wp_block ?_
    clear hB hF
    go_loopw [10,7] (fun s0 s1 wr=>∃ (i nn : Nat) (x : Ax),i ≤ 25 ∧ nn = PM.length + i ∧ s0 = .int .i64 i ∧ s1 = .slice x.1 nn x.2 ∧ OZ w.heap.size x (PM ++ List.replicate i (B1 1)) wr ∧ A3 w wr) (fun s0 _ _=>25 - (intOf s0).toNat)
    case atStart=>exact ⟨0,_,(xa,xc),Nat.zero_le _,rfl,rfl,rfl,by simpa using HP.out,hG⟩
    case round =>
     clear hG HP
     obtain ⟨i,nn,⟨xa,xc⟩,hi,hnn,rfl,rfl,⟨ps,hps,hA,ho⟩,hG⟩:=hrel
     obtain ⟨u,rfl⟩ : ∃ x,x = wr:=⟨_,rfl⟩
     have hB:=Bx.nil u
     have hF:=Fr.nil w
     rw [List.length_append,List.length_replicate,← hnn] at ho
     have hnb : nn ≤ 40:=by have := Hkk.out.2.2;omega
     have Ho:=Lib.hid ho
     have HA:=Lib.hid hA
     have Hps:=Lib.hid (And.intro hps hnn)
     clear hps hA ho hnn
     rcases Nat.lt_or_ge i 25 with hlt | hge
     ·have hdec : decide ((i : Int) < 25) = true:=decide_eq_true (by omega)
      refine wp_seq ?_
      refine r0T ?_
      refine wp_cond_true (rfl) ?_
      refine wp_skip ?_
      refine A4 ?_
      refine wp_seq ?_
      refine wp_block ?_
      refine A0A (w:=w) A5 3 [0,1,1] (by kernel_rfl) (by simp only [List.drop_succ_cons,List.drop_zero];exact rfl) (fun _=>True) noG hB hG trivial ?_
      intro K L hN hL
      simp only [List.zip_cons_cons,List.zip_nil_left]
      refine gs ?_
      refine grd (G9 (B1 1)) (fun (x61 : Ax × Ax)=>?_) (C:=fun v _=>A0N 1 (by omega) (by omega) _)
      refine gx Nat (fun b=>.slice (some ⟨b,0,none⟩) 1 1) (fun b W=>Blk W b 66 (zL x61 (B1 1)).toArray) (fun b u u' hg h=>h.grow hg) rfl ?_ (fun x62=>?_)
      ·(rintro v ⟨⟨hgu,hB,hG,-⟩,hx61⟩ N hN;go_simp;exact hN v.heap.size _ (Blk.new v 66 (zL x61 (B1 1)).toArray) (A3.alloc _ _))
      refine okf (by simp only [Act.put,List.setIfInBounds_toArray,List.set_cons_succ,List.set_cons_zero];exact rfl) ?_
      refine J9 ?_
      rintro v ⟨⟨⟨hgu,hB1,hG1,-⟩,hx61⟩,hx62⟩
      obtain ⟨hx61a,hx61b⟩ : Rn v x61.1 _ ∧ Rn v x61.2 _:=hx61
      have Ho2:=Lib.hid (F4 Ho.out hgu)
      have HA2:=Lib.hid (HA.out.grow hgu)
      clear Ho HA
      have Ho:=Ho2
      have HA:=HA2
      clear Ho2 HA2
      clear hB hG
      have hB:=hB1
      have hG:=hG1
      clear hB1 hG1
      refine hL _ _ ?_
      clear hL L hgu
      obtain ⟨u,rfl⟩ : ∃ x,x = v:=⟨_,rfl⟩
      have r:=hB.r
      simp only [BxR] at r
      refine B0p A4s w.heap.size (.slice xa nn xc) nn (ps.flatMap zrL) x62 (zL x61 (B1 1)) rfl rfl hx62 rfl rfl Ho.out (by omega) (by omega) hG.sz fun v' w' g1 g2 g3=>?_
      obtain ⟨gl,cl,rfl,-,-⟩:=A18 g1 (by omega)
      have hA2 : F0 w' (ps ++ [(x61,B1 1)]):=A8C (HA.out.snoc hx61a hx61b) Ho.out (by decide) g2
      have hG2:=A2i Ho.out hG g2
      have hO2 : OZ w.heap.size (some ⟨gl,0,none⟩,cl) (PM ++ List.replicate (i + 1) (B1 1)) w':=⟨ps ++ [(x61,B1 1)],by rw [List.map_append,Hps.out.1,B5M];rfl,hA2,by
       rw [List.length_append,List.length_replicate,List.flatMap_append,show PM.length + (i + 1) = nn + 1 by have := Hps.out.2;omega]
       simpa [zrL] using g1⟩
      clear g1 g2 g3 hA2 hx61a hx61b hx62 Ho HA hG hB
      have hG:=hG2
      have hB:=Bx.nil w'
      clear hG2
      go_wp2_with fail
      obtain ⟨u,rfl⟩ : ∃ x,x = w':=⟨_,rfl⟩
      have r:=hB.r
      clear r
      refine NoK.norm (hN _ _ ?_)
      clear hN K
      refine D5 ?_
      refine A4 ?_
      refine r0E ?_
      refine A4 ?_
      go_roundw
      case rel=>exact ⟨i + 1,nn + 1,(some ⟨gl,0,none⟩,cl),by omega,by have := Hps.out.2;omega,by go_num,rfl,hO2,hG⟩
      case measure=>simp [intOf];omega
     ·obtain rfl : 25 = i:=by omega
      have hdec : decide (((25 : Nat) : Int) < 25) = false:=rfl
      clear hi hge
      refine wp_seq ?_
      refine r0T ?_
      refine wp_cond_false (rfl) ?_
      refine wp_exit ?_
      refine B4 ?_
      refine B4 ?_
      refine E1 ?_
      refine A4 ?_
      refine r0T ?_
      refine rt Tryz.results9 ?_
      exact ⟨(xa,xc),by rw [if_pos Hh.out,List.length_append,List.length_replicate,← Hps.out.2],by rw [if_pos Hh.out];exact ⟨ps,Hps.out.1,HA.out,by rw [List.length_append,List.length_replicate,← Hps.out.2];exact Ho.out⟩,hG⟩
   ·have f55 : (how.tmod 19 == 18) = false:=by rw [beq_eq_false_iff_ne];exact hh
    have Hh:=Lib.hid hh
    clear hh
    refine r0T ?_
    refine wp_cond_false (rfl) ?_
    refine wp_skip ?_
    refine A4 ?_
    refine r0T ?_
    refine rt Tryz.results9 ?_
    exact ⟨(xa,xc),by rw [if_neg Hh.out],by rw [if_neg Hh.out];exact HP.out,hG⟩
end Go.Proofs.YtlkniebmjdoopaaGreatDoor
