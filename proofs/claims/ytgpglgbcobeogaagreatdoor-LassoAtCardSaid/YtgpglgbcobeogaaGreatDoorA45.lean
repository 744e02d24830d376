/- Contracts and laws. -/
import Derived.Test.YtgpglgbcobeogaaGreatDoorA39
set_option linter.unusedSimpArgs false
set_option linter.unusedVariables false
set_option maxHeartbeats 8000000
set_option maxRecDepth 100000
namespace Go.Proofs.YtgpglgbcobeogaaGreatDoor
open Go Go.RowKit
def U7 (f s : Nat → Rat) (n i : Nat) : List Rat:=(List.range n).map fun t=>if t < i then f t else s t
theorem A2x (f s : Nat → Rat) (n i : Nat) : (U7 f s n i).length = n:=by unfold U7;simp
theorem B4R (f s : Nat → Rat) (n : Nat) : U7 f s n 0 = (List.range n).map s:=by
 unfold U7
 refine List.map_congr_left fun j _=>?_
 rw [if_neg (Nat.not_lt_zero _)]
theorem A9B (f s : Nat → Rat) (n : Nat) : U7 f s n n = (List.range n).map f:=by
 unfold U7
 refine List.map_congr_left fun j hj=>?_
 rw [if_pos (List.mem_range.1 hj)]
theorem B3Q {f s : Nat → Rat} {n i : Nat} (h : i < n) : (U7 f s n i).set i (f i) = U7 f s n (i + 1):=by
 unfold U7
 apply List.ext_getElem
 ·simp
 ·intro j h1 h2
  rw [List.getElem_set]
  simp only [List.getElem_map,List.getElem_range]
  by_cases e : i = j
  ·subst e;simp
  ·rw [if_neg e]
   by_cases h3 : j < i
   ·rw [if_pos h3,if_pos (by omega)]
   ·rw [if_neg h3,if_neg (by omega)]
theorem B1X {f s : Nat → Rat} {n i : Nat} (h : i < n) : gq (U7 f s n i) i = s i:=by
 unfold U7
 rw [V9 _ h,if_neg (Nat.lt_irrefl _)]
theorem B3A {u : World} {B g c n : Nat} {l : List Rat} (h : u.ownsRow B 48 5 (.slice (some ⟨g,0,none⟩) n c) n (l.flatMap qL)) {i : Nat} (hi : i < l.length) : Cq u g (i * 5) (gq l i):=by
 obtain ⟨A,c',e,-,-,hL,-⟩:=M3 h
 cases e
 have h1:=hL.read hi
 rwa [Nat.zero_add] at h1
theorem B2S (A : Option Addr) (n c : Nat) (a : Rat) (e : Int) (haz : qs a ≤ BIG) (hno : e ≠ 0 ∨ a < 0) (w : World) (hck : ∀ W,A4 w W → Calls Tryz.prog 45 #[.slice A n c] W fun e' w'=>e' = .returned (.int .i64 e) ∧ A4 W w') :
  Calls Tryz.prog 43 #[.slice A n c,qV a] w fun e w'=>e = .returned (.tuple #[.slice none 0 0,.int .i64 1]) ∧ A4 w w':=by
 have hfs:=fun (W : World)=>N6 a (by have := F0 a;have := I1;omega) W
 have Hck:=Lib.hid hck
 clear hck haz
 by_cases he : e = 0
 ·have h0 : a < 0:=by
   rcases hno with h | h
   ·exact absurd he h
   ·exact h
  subst he
  rw [A2N.2 h0] at hfs
  have Hfs:=Lib.hid hfs
  clear hfs hno h0
  go_enter Tryz.func43,Tryz.ntmps43
  refine en1 ?_
  intro u hG b3 hB hF
  refine wp_seq ?_
  refine wp_seq (rsE K6 [0,1,0,0,0,1,0,0] hB hG fun L hL=>?_)
  refine gs ?_
  refine gmd (C:=fun v ⟨hgu,hB,hG,_⟩=>Hck.out _ hG) ?_
  refine gs ?_
  first | refine gmw (C:=fun v=>Hfs.out _) ?_ | refine H3 ?_
  refine gs ?_
  refine geT hL ?_
  clear hB hG hL L
  rintro u ⟨-,hB,hG,-⟩
  refine wp_cond_true (rfl) ?_
  refine r0T ?_
  refine rt Tryz.results43 ?_
  exact ⟨rfl,hG⟩
 ·have f1 : (e != 0) = true:=by simp [he]
  have Hfs:=Lib.hid hfs
  clear hfs hno he
  go_enter Tryz.func43,Tryz.ntmps43
  refine en1 ?_
  intro u hG b3 hB hF
  refine wp_seq ?_
  refine wp_seq (rsE K6 [0,1,0,0,0,1,0,0] hB hG fun L hL=>?_)
  refine gs ?_
  refine gmd (C:=fun v ⟨hgu,hB,hG,_⟩=>Hck.out _ hG) ?_
  refine gs ?_
  first | refine gmw (C:=fun v=>Hfs.out _) ?_ | refine H3 ?_
  refine gs ?_
  refine geT hL ?_
  clear hB hG hL L
  rintro u ⟨-,hB,hG,-⟩
  refine wp_cond_true (rfl) ?_
  refine r0T ?_
  refine rt Tryz.results43 ?_
  exact ⟨rfl,hG⟩
theorem A9H (A : Option Addr) (ks : List Kq) (n c : Nat) (a : Rat) (hn : ks.length = n) (sh : ShapeK (ks.map G0)) (od : OrderK (ks.map G0)) (ha : 0 ≤ a) (s : Nat) (haz : qs a ≤ s) (hs : ∀ i,i < n → qs (knQ (ks.map G0) i) ≤ s) (hsw : ∀ i,i < n → ∀ j,qs (gq (knW (ks.map G0) i) j) ≤ s) (hB : 20 * s + 20 ≤ BIG) (w : World) (h : Lk w A ks) (HT : Tab w) :
  Calls Tryz.prog 43 #[.slice A n c,qV a] w (G7 (fun x : Ax=>.tuple #[.slice x.1 (knW (ks.map G0) 0).length x.2,.int .i64 0]) (fun x W=>Lq W x.1 (A0b (ks.map G0) a)) w):=by
 have hBm:=I1
 have hkl : (ks.map G0).length = n:=by rw [List.length_map];exact hn
 have hn1 : 1 ≤ n:=by rw [← hkl];exact sh.one
 have hn1000 : n ≤ 1000:=by rw [← hkl];exact sh.most
 have hck:=fun W (hg : A4 w W)=>A6m A ks n c 0 hn hn1 (by rw [← hkl];exact sh.most) sh.cols (.inr (.inr ⟨sh,od,rfl⟩)) s hs (fun j=>hsw 0 (by omega) j) (by omega) W (h.grow hg)
 have hat : ∀ i,i < n → ∃ (b o : Nat) (P : Ax),A = some ⟨b,o,none⟩ ∧ ∀ W,A4 w W → (Cq W b (o + i * 6) (knQ (ks.map G0) i) ∧ W.cell? ⟨b,o + i * 6 + 5,none⟩ = some (.slice P.1 (knW (ks.map G0) i).length P.2)) ∧ Lq W P.1 (knW (ks.map G0) i):=fun i hi=>h.at (by omega)
 generalize ks.map G0 = l at *
 obtain ⟨K1,K2,K3⟩:=A3i sh od ha
 have hall : ∀ i,i < n → (knW l i).length = (knW l 0).length:=fun i hi=>sh.all i (by omega)
 have hm1:=sh.some
 have hm20:=sh.cols
 unfold A0b
 obtain ⟨K,hK⟩ : ∃ K,K = atI l a:=⟨_,rfl⟩
 rw [← hK] at K1 K2 K3 ⊢
 rw [hkl] at K1
 obtain ⟨m,hm⟩ : ∃ m,m = (knW l 0).length:=⟨_,rfl⟩
 rw [← hm] at hm1 hm20 ⊢
 simp only [← hm] at hall
 obtain ⟨bb,ob,P0,hA,h0⟩:=hat 0 (by omega)
 subst hA
 have hat2 : ∀ i,i < n → ∃ P : Ax,∀ W,A4 w W → (Cq W bb (ob + i * 6) (knQ l i) ∧ W.cell? ⟨bb,ob + i * 6 + 5,none⟩ = some (.slice P.1 m P.2)) ∧ Lq W P.1 (knW l i):=fun i hi=>by
  obtain ⟨b',o',P,e',h'⟩:=hat i hi
  rw [hall i hi] at h'
  cases e'
  exact ⟨P,h'⟩
 have hfs:=fun (W : World)=>N6 a (by have := F0 a;omega) W
 have hsg : decide (a.num.sign < 0) = false:=by
  have h1 : ¬ a < 0:=by grind
  have h2:=@A2N a
  rcases A4r a with e | e | e
  ·rw [e];rfl
  ·exact absurd (h2.1 e) h1
  ·rw [e];rfl
 obtain ⟨S,hS⟩ : ∃ S,S = a.num.sign:=⟨_,rfl⟩
 rw [← hS] at hsg
 simp only [← hS] at hfs
 obtain ⟨PK,hPK⟩:=hat2 K (by omega)
 obtain ⟨qK,hqK⟩ : ∃ q,q = knQ l K:=⟨_,rfl⟩
 obtain ⟨WK,hWK⟩ : ∃ q,q = knW l K:=⟨_,rfl⟩
 have hWl : WK.length = m:=by rw [hWK];exact hall K K1
 have hWs : ∀ j,qs (gq WK j) ≤ s:=fun j=>by rw [hWK];exact hsw K K1 j
 have hqs : qs qK ≤ s:=by rw [hqK];exact hs K K1
 rw [← hqK,← hWK] at hPK
 have hcK:=fun W=>A2u a qK W (by omega)
 have hKn : (K : Int) < (n : Int):=by omega
 have Hck:=Lib.hid hck
 have Hat:=Lib.hid hat2
 have Hfs:=Lib.hid hfs
 have HPK:=Lib.hid hPK
 have HcK:=Lib.hid hcK
 have HK2:=Lib.hid K2
 have HK3:=Lib.hid K3
 have HqK:=Lib.hid hqK
 have HWK:=Lib.hid hWK
 have HWs:=Lib.hid hWs
 have Hall:=Lib.hid hall
 have Hs:=Lib.hid hs
 have Hsw:=Lib.hid hsw
 have HWl:=Lib.hid hWl
 rw [← hqK,← hWK]
 clear hck hat hat2 hfs hPK hcK K2 K3 hqK hWK hWs hWl hall hs hsw h0 h hS hK hm sh od hn hkl ha P0
 go_enter Tryz.func43,Tryz.ntmps43
 refine en1 ?_
 intro u hG b3 hB hF
 refine wp_seq ?_
 refine wp_seq (rsE K6 [0,1,0,0,0,1,0,0] hB hG fun L hL=>?_)
 refine gs ?_
 refine gmd (C:=fun v ⟨hgu,hB,hG,_⟩=>Hck.out _ hG) ?_
 refine gs ?_
 first | refine gmw (C:=fun v=>Hfs.out _) ?_ | refine H3 ?_
 refine gs ?_
 refine geT hL ?_
 clear hB hG hL L
 rintro u ⟨-,hB,hG,-⟩
 refine wp_cond_false (rfl) ?_
 refine wp_skip ?_
 refine A6 ?_
 refine r0T ?_
 refine wp_seq ?_
 refine wp_block ?_
 have h3f:=hF.1 b3 (by simp)
 clear hF
 have h3w:=hB.head.lt
 go_loopw [6] (fun s0 wr=>∃ i : Nat,i ≤ K ∧ s0 = .int .i64 i ∧ Bx wr [(b3,48,Q6 a)] ∧ A4 w wr) (fun s0 _=>n - (intOf s0).toNat)
 case atStart=>exact ⟨0,Nat.zero_le _,rfl,hB,hG⟩
 case round =>
  clear hB hG
  obtain ⟨i,hi,rfl,hB,hG⟩:=hrel
  obtain ⟨u,rfl⟩ : ∃ x,x = wr:=⟨_,rfl⟩
  have hin : (i : Int) < (n : Int):=by omega
  have hF : Fr w [b3]:=⟨fun b hb=>by
   simp only [List.mem_cons,List.not_mem_nil,or_false] at hb
   subst hb
   exact h3f,by simp⟩
  rcases Nat.lt_or_ge i K with hlt | hge
  ·obtain ⟨P,hrd⟩:=Hat.out i (by omega)
   have hlq:=HK2.out i hlt
   have z1:=Hs.out i (by omega)
   obtain ⟨X,hX⟩ : ∃ X,X = knQ l i:=⟨_,rfl⟩
   rw [← hX] at hlq z1
   have hrd2 : ∀ W,A4 w W → Cq W bb (ob + i * 6) X:=fun W hg=>by rw [hX];exact (hrd W hg).1.1
   have hcm:=fun W=>A2u a X W (by omega)
   have hc1 : G6 a X = -1:=by unfold G6;rw [if_pos hlq]
   rw [hc1] at hcm
   have Hrd:=Lib.hid hrd2
   have Hcm:=Lib.hid hcm
   clear hrd hrd2 hcm hlq hc1 hX z1
   refine wp_seq ?_
   refine wp_seq (rdC K6 [] [(0,0),(0,1),(0,2),(0,3),(0,4),(0,5),(1,6)] hB hG fun K L hN hL=>?_)
   repeat first | refine gya ?_ | refine gyr ?_ | refine gna ?_ | refine gyb (by (rintro v ⟨hgu,hB,hG,-⟩ N hN;have r:=hB.r;simp only [BxR] at r;obtain ⟨y1,y2,y3,y4,y5⟩:=Hrd.out v hG;go_simp;exact hN)) ?_
   refine gmw (C:=fun v=>Hcm.out _) ?_
   refine geC hL ?_
   clear hB hG hL L
   rintro u ⟨-,hB,hG,-⟩
   refine gtT ?_
   clear hN K
   refine wp_cond_true (rfl) ?_
   refine wp_skip ?_
   refine A6 ?_
   refine wp_block ?_
   refine r0E ?_
   refine D4 ?_
   refine A6 ?_
   go_roundw
   case rel=>exact ⟨i + 1,by omega,by go_num,hB,hG⟩
   case measure=>simp [intOf];omega
  ·obtain rfl : K = i:=by omega
   have hc1 : ¬ G6 a qK < 0:=by
    have h1:=HK3.out
    rw [← HqK.out] at h1
    unfold G6
    rw [if_neg h1]
    split <;> decide
   have hc0 : G6 a qK = 0 ↔ a = qK:=by
    have h1:=@B1Z a qK
    constructor
    ·intro h2;rw [h2] at h1;exact of_decide_eq_true h1.symm
    ·intro h2;rw [decide_eq_true h2] at h1;simpa using h1
   have hcm:=HcK.out
   obtain ⟨C,hC⟩ : ∃ C,C = G6 a qK:=⟨_,rfl⟩
   rw [← hC] at hc1 hc0
   simp only [← hC] at hcm
   have fC : decide (C < 0) = false:=by simp;omega
   have Hc0:=Lib.hid hc0
   have Hcm:=Lib.hid hcm
   have Hrd:=Lib.hid (fun W (hg : A4 w W)=>(HPK.out W hg).1.1)
   clear hcm hC hc0 hc1
   refine wp_seq ?_
   refine wp_seq (rdC K6 [] [(0,0),(0,1),(0,2),(0,3),(0,4),(0,5),(1,6)] hB hG fun K L hN hL=>?_)
   repeat first | refine gya ?_ | refine gyr ?_ | refine gna ?_ | refine gyb (by (rintro v ⟨hgu,hB,hG,-⟩ N hN;have r:=hB.r;simp only [BxR] at r;obtain ⟨y1,y2,y3,y4,y5⟩:=Hrd.out v hG;go_simp;exact hN)) ?_
   refine gmw (C:=fun v=>Hcm.out _) ?_
   refine geC hL ?_
   clear hB hG hL L
   rintro u ⟨-,hB,hG,-⟩
   refine gtT ?_
   clear hN K
   refine wp_cond_false (rfl) ?_
   refine wp_exit ?_
   refine B6 ?_
   refine B6 ?_
   refine E6 ?_
   refine A6 ?_
   refine wp_seq ?_
   by_cases hst : K = 0 ∨ a = qK
   ·have fst : decide (K = 0) = true ∨ (decide (K = 0) = false ∧ (C == 0) = true):=by
     rcases hst with h | h
     ·exact .inl (by simp [h])
     ·by_cases h0 : K = 0
      ·exact .inl (by simp [h0])
      ·exact .inr ⟨by simp [h0],by simp [Hc0.out.2 h]⟩
    rw [if_pos hst]
    have hcl:=fun W (hg : A4 w W)=>A78 PK.1 PK.2 m WK HWl.out (by omega) (by omega) W (HPK.out W hg).2
    have Hcl:=Lib.hid hcl
    have Hrw:=Lib.hid (fun W (hg : A4 w W)=>(HPK.out W hg).1.2)
    clear hcl hst
    rcases fst with fk | ⟨fk,fc⟩
    ·have fk2 : ((K : Int) == 0) = true:=by simpa using fk
     refine wp_seq (rdC K6 [] [(0,0),(0,1),(0,2),(0,3),(0,4),(0,5),(0,6),(0,7),(0,8),(1,9),(0,10)] hB hG fun K L hN hL=>?_)
     repeat first | refine gya ?_ | refine gyr ?_ | refine gna ?_ | refine gyb (by (rintro v ⟨hgu,hB,hG,-⟩ N hN;have r:=hB.r;simp only [BxR] at r;obtain ⟨y1,y2,y3,y4,y5⟩:=Hrd.out v hG;have q0:=Hrw.out v hG;go_simp;exact hN)) ?_
     first | refine gmw (C:=fun v=>Hcm.out _) ?_ | refine H3 ?_
     refine gs ?_
     refine geC hL ?_
     clear hB hG hL L
     rintro u ⟨-,hB,hG,-⟩
     refine gtT ?_
     clear hN K
     refine wp_cond_true (rfl) ?_
     refine wp_seq (rsE K6 [0,0,0,0,0,1,0,0] hB hG fun L hL=>?_)
     repeat first | refine gya ?_ | refine gyr ?_ | refine gna ?_ | refine gyb (by (rintro v ⟨hgu,hB,hG,-⟩ N hN;have r:=hB.r;simp only [BxR] at r;obtain ⟨y1,y2,y3,y4,y5⟩:=Hrd.out v hG;have q0:=Hrw.out v hG;go_simp;exact hN)) ?_
     refine gxd (X:=(Nat × Nat)) (fun x : Nat × Nat=>.slice (some ⟨x.1,0,none⟩) m x.2) (fun x W=>Lq W (some ⟨x.1,0,none⟩) WK) (fun x u u' hg h=>Lq.grow h hg) (fun x45=>?_) (C:=by (rintro v ⟨hgu,hB,hG,-⟩;exact ((Hcl.out _ hG).mono fun e w' ⟨x,h1,h2,h3⟩=>⟨x,h1,by
      obtain ⟨A9,c9,e9,-,-,hL9,-⟩:=M3 h2.2
      cases e9
      exact hL9,h3⟩)))
     refine gs ?_
     refine geT hL ?_
     clear hB hG hL L
     rintro u ⟨⟨-,hB,hG,-⟩,hx45⟩
     refine rt Tryz.results43 ?_
     exact ⟨(some ⟨x45.1,0,none⟩,x45.2),rfl,hx45,hG⟩
    ·have fk2 : ((K : Int) == 0) = false:=by simpa using fk
     have fc2 : decide (C = 0) = true:=by simpa using fc
     refine wp_seq (rdC K6 [] [(0,0),(0,1),(0,2),(0,3),(0,4),(0,5),(0,6),(0,7),(0,8),(1,9),(0,10)] hB hG fun K L hN hL=>?_)
     repeat first | refine gya ?_ | refine gyr ?_ | refine gna ?_ | refine gyb (by (rintro v ⟨hgu,hB,hG,-⟩ N hN;have r:=hB.r;simp only [BxR] at r;obtain ⟨y1,y2,y3,y4,y5⟩:=Hrd.out v hG;have q0:=Hrw.out v hG;go_simp;exact hN)) ?_
     first | refine gmw (C:=fun v=>Hcm.out _) ?_ | refine H3 ?_
     refine gs ?_
     refine geC hL ?_
     clear hB hG hL L
     rintro u ⟨-,hB,hG,-⟩
     refine gtT ?_
     clear hN K
     refine wp_cond_true (rfl) ?_
     refine wp_seq (rsE K6 [0,0,0,0,0,1,0,0] hB hG fun L hL=>?_)
     repeat first | refine gya ?_ | refine gyr ?_ | refine gna ?_ | refine gyb (by (rintro v ⟨hgu,hB,hG,-⟩ N hN;have r:=hB.r;simp only [BxR] at r;obtain ⟨y1,y2,y3,y4,y5⟩:=Hrd.out v hG;have q0:=Hrw.out v hG;go_simp;exact hN)) ?_
     refine gxd (X:=(Nat × Nat)) (fun x : Nat × Nat=>.slice (some ⟨x.1,0,none⟩) m x.2) (fun x W=>Lq W (some ⟨x.1,0,none⟩) WK) (fun x u u' hg h=>Lq.grow h hg) (fun x45=>?_) (C:=by (rintro v ⟨hgu,hB,hG,-⟩;exact ((Hcl.out _ hG).mono fun e w' ⟨x,h1,h2,h3⟩=>⟨x,h1,by
      obtain ⟨A9,c9,e9,-,-,hL9,-⟩:=M3 h2.2
      cases e9
      exact hL9,h3⟩)))
     refine gs ?_
     refine geT hL ?_
     clear hB hG hL L
     rintro u ⟨⟨-,hB,hG,-⟩,hx45⟩
     refine rt Tryz.results43 ?_
     exact ⟨(some ⟨x45.1,0,none⟩,x45.2),rfl,hx45,hG⟩
   ·have hK0 : K ≠ 0:=fun h=>hst (.inl h)
    have fk : decide (K = 0) = false:=by simp [hK0]
    have fk2 : ((K : Int) == 0) = false:=by simp;omega
    have hC0 : C ≠ 0:=fun h=>hst (.inr (Hc0.out.1 h))
    have fc : (C == 0) = false:=by simp [hC0]
    have fc2 : decide (C = 0) = false:=by simp [hC0]
    rw [if_neg hst]
    obtain ⟨J,hJ⟩ : ∃ J,J = K - 1:=⟨_,rfl⟩
    have hJn : J < n:=by omega
    have hJi : (J : Int) < (n : Int):=by omega
    have fw : IntKind.i64.wrap ((K : Int) - 1) = (J : Int):=by rw [IntWalk.i64_in _ (by omega)];omega
    obtain ⟨PJ,hPJ⟩:=Hat.out J hJn
    have eJ : l.getD J (0,[]) = (knQ l J,knW l J):=rfl
    have eK : l.getD K (0,[]) = (knQ l K,knW l K):=rfl
    rw [← hJ,eJ,eK,← HqK.out,← HWK.out]
    obtain ⟨qJ,hqJ⟩ : ∃ q,q = knQ l J:=⟨_,rfl⟩
    obtain ⟨WJ,hWJ⟩ : ∃ q,q = knW l J:=⟨_,rfl⟩
    rw [← hqJ,← hWJ]
    have hsl : ∀ W,A4 w W → Tab W → Calls Tryz.prog 111 #[knV qJ PJ m,knV qK PK m] W (G7 (fun x : Nat=>.slice (some ⟨x,0,none⟩) m m) (fun x W'=>W'.ownsRow W.heap.size 48 5 (.slice (some ⟨x,0,none⟩) m m) m ((X9 (qJ,WJ) (qK,WK) m).flatMap qL)) W):=fun W hg hT=>B1B qJ qK PJ PK WJ WK m (by rw [hWJ];exact Hall.out J hJn) HWl.out (by omega) s (by rw [hqJ];exact Hs.out J hJn) hqs (fun j _=>by rw [hWJ];exact Hsw.out J hJn j) (fun j _=>HWs.out j) (by omega) W (by rw [hWJ];exact (hPJ W hg).2) (HPK.out W hg).2 hT
    have zq : qs (C4 qK qJ) ≤ 2 * s + 1:=by
     have h1:=T4 qK qJ
     have h2:=Hs.out J hJn
     rw [← hqJ] at h2
     unfold C4
     omega
    have hzs : ∀ j,j < m → qs (gq (X9 (qJ,WJ) (qK,WK) m) j) ≤ 4 * s + 2:=fun j hj=>by
     rw [show gq (X9 (qJ,WJ) (qK,WK) m) j = I0 (C4 (gq WK j) (gq WJ j)) (C4 qK qJ) from V9 _ hj]
     have h1:=A2I (C4 (gq WK j) (gq WJ j)) (C4 qK qJ)
     have h2:=T4 (gq WK j) (gq WJ j)
     have h3:=HWs.out j
     have h4:=Hsw.out J hJn j
     rw [← hWJ] at h4
     unfold I0
     unfold C4 at *
     omega
    have hsle : X9 (qJ,WJ) (qK,WK) m = (List.range m).map (gq (X9 (qJ,WJ) (qK,WK) m)):=by
     unfold X9
     refine List.map_congr_left fun j hj=>?_
     rw [V9 _ (List.mem_range.1 hj)]
    have hrd2 : ∀ W,A4 w W → (Cq W bb (ob + J * 6) qJ ∧ W.cell? ⟨bb,ob + J * 6 + 5,none⟩ = some (.slice PJ.1 m PJ.2)) ∧ Cq W bb (ob + K * 6) qK ∧ W.cell? ⟨bb,ob + K * 6 + 5,none⟩ = some (.slice PK.1 m PK.2):=fun W hg=>by rw [hqJ];exact ⟨(hPJ W hg).1,(HPK.out W hg).1⟩
    obtain ⟨SL,hSL⟩ : ∃ S,S = X9 (qJ,WJ) (qK,WK) m:=⟨_,rfl⟩
    rw [← hSL] at hsle hzs ⊢
    simp only [← hSL] at hsl
    obtain ⟨sf,hsf⟩ : ∃ f : Nat → Rat,f = gq SL:=⟨_,rfl⟩
    rw [← hsf] at hsle hzs ⊢
    have zb : qs (C4 a qK) ≤ 2 * s + 1:=by have := T4 a qK;unfold C4;omega
    have hsb:=fun W hT=>A1S a qK W (by omega) hT
    obtain ⟨D,hD⟩ : ∃ D,D = C4 a qK:=⟨_,rfl⟩
    rw [← hD] at zb ⊢
    simp only [← hD] at hsb
    obtain ⟨f,hf⟩ : ∃ f : Nat → Rat,f = fun j=>G9 (gq WK j) (E7 (sf j) D):=⟨_,rfl⟩
    rw [← hf]
    rw [hsle] at hsl
    obtain ⟨bw,ow,hPw⟩:=(HPK.out w (A4.refl w)).2.addr (by rw [HWl.out];omega)
    have hel : ∀ j,j < m → ∃ (X Y E : Rat),(∀ W,A4 w W → W.cell? ⟨bb,ob + K * 6 + 5,none⟩ = some (.slice (some ⟨bw,ow,none⟩) m PK.2) ∧ Cq W bw (ow + j * 5) X) ∧ Y = sf j ∧ (∀ W,Tab W → Calls Tryz.prog 29 #[qV Y,qV D] W fun e w'=>e = .returned (qV E) ∧ A4 W w') ∧ (∀ W,Tab W → Calls Tryz.prog 95 #[qV X,qV E] W fun e w'=>e = .returned (qV (f j)) ∧ A4 W w'):=fun j hj=>by
     have z1:=HWs.out j
     have z2:=hzs j hj
     have z3:=Z7 (sf j) D
     refine ⟨gq WK j,sf j,E7 (sf j) D,fun W hg=>?_,rfl,fun W hT=>A0T _ _ W (by omega) hT,fun W hT=>?_⟩
     ·have h1:=HPK.out W hg
      rw [hPw] at h1
      exact ⟨h1.1.2,h1.2.read (by rw [HWl.out];exact hj)⟩
     ·rw [hf]
      exact A1e _ _ W (by unfold E7;omega) hT
    have Hsl:=Lib.hid hsl
    have Hsb:=Lib.hid hsb
    have Hrd2:=Lib.hid hrd2
    have Hel:=Lib.hid hel
    clear hst hK0 hC0 hJ hPJ eJ eK hqJ hWJ hsl zq hzs hsle hrd2 hSL hsf zb hsb hD hf hel hPw
    refine wp_seq (rdC K6 [] [(0,0),(0,1),(0,2),(0,3),(0,4),(0,5),(0,6),(0,7),(0,8),(1,9),(0,10)] hB hG fun K L hN hL=>?_)
    repeat first | refine gya ?_ | refine gyr ?_ | refine gna ?_ | refine gyb (by (rintro v ⟨hgu,hB,hG,-⟩ N hN;have r:=hB.r;simp only [BxR] at r;obtain ⟨⟨⟨y1,y2,y3,y4,y5⟩,y6⟩,⟨z1,z2,z3,z4,z5⟩,z6⟩:=Hrd2.out v hG;go_simp;exact hN)) ?_
    first | refine gmw (C:=fun v=>Hcm.out _) ?_ | refine H3 ?_
    refine gs ?_
    refine geC hL ?_
    clear hB hG hL L
    rintro u ⟨-,hB,hG,-⟩
    refine gtT ?_
    clear hN K
    refine wp_cond_false (rfl) ?_
    refine wp_skip ?_
    refine A6 ?_
    refine wp_seq (rdC K6 [] [(0,0),(0,1),(0,2),(0,3),(0,4),(0,5),(0,6),(0,7),(0,8),(1,9)] hB hG fun K L hN hL=>?_)
    repeat first | refine gya ?_ | refine gyr ?_ | refine gna ?_ | refine gyb (by (rintro v ⟨hgu,hB,hG,-⟩ N hN;have r:=hB.r;simp only [BxR] at r;obtain ⟨⟨⟨y1,y2,y3,y4,y5⟩,y6⟩,⟨z1,z2,z3,z4,z5⟩,z6⟩:=Hrd2.out v hG;go_simp;exact hN)) ?_
    refine gxd (X:=Nat) (fun x : Nat=>.slice (some ⟨x,0,none⟩) m m) (fun x W=>W.ownsRow (b3 + 1) 48 5 (.slice (some ⟨x,0,none⟩) m m) m (((List.range m).map sf).flatMap qL)) (fun x u u' hg h=>C9 h hg) (fun x55=>?_) (C:=by (rintro v ⟨hgu,hB,hG,-⟩;exact ((Hsl.out _ hG (HT.grow hG)).mono fun e w' ⟨x,h1,h2,h3⟩=>⟨x,h1,h2.mono hB.head.lt,h3⟩)))
    refine geC hL ?_
    clear hB hG hL L
    rintro u ⟨⟨hgu,hB,hG,-⟩,hx55⟩
    have hg3 : x55 ≠ b3:=fun e=>by
     have h1:=(hx55.lt x55 rfl).1
     omega
    have Ho:=Lib.hid (hx55.mono (show w.heap.size ≤ b3 + 1 by omega))
    clear hx55
    clear hgu
    refine gtT ?_
    clear hN K
    refine wp_seq (rdC K6 [] [(0,0),(0,1),(0,2),(0,3),(0,4),(0,5),(1,6),(2,7)] hB hG fun K L hN hL=>?_)
    repeat first | refine gya ?_ | refine gyr ?_ | refine gna ?_ | refine gyb (by (rintro v ⟨hgu,hB,hG,-⟩ N hN;have r:=hB.r;simp only [BxR] at r;obtain ⟨⟨⟨y1,y2,y3,y4,y5⟩,y6⟩,⟨z1,z2,z3,z4,z5⟩,z6⟩:=Hrd2.out v hG;go_simp;exact hN)) ?_
    refine gmd (C:=fun v ⟨hgu,hB,hG,_⟩=>Hsb.out _ (HT.grow hG)) ?_
    refine gaa (K7 _ _ _ _ _) fun b8 hb8 hn8=>?_
    replace hF:=hF.n1 [] hB hG hb8 hn8
    refine geC hL ?_
    clear hB hG hL L
    rintro u ⟨⟨hgu,hB,hG,-⟩,h8⟩
    replace hB:=hB.cons' h8
    clear h8
    have hg8 : x55 ≠ b8:=fun e=>by
     have h1:=(Ho.out.lt x55 rfl).2
     omega
    have Ho2:=Lib.hid (C9 Ho.out hgu)
    clear Ho
    have Ho:=Ho2
    clear Ho2
    clear hb8 hn8
    clear hgu
    refine gtT ?_
    clear hN K
    refine sv hB hF hG 0 0 [_,_,_,_,_] ?_
    intro u2 hu2 hBG
    have Ho2:=Lib.hid (M5 Ho.out (by intro e;exact hg8 (Option.some.inj e)) hu2)
    clear Ho hB hG hu2
    have Ho:=Ho2
    clear Ho2
    obtain ⟨hB,hG⟩:=hBG
    obtain ⟨u,rfl⟩ : ∃ x,x = u2:=⟨_,rfl⟩
    refine wp_seq ?_
    refine r0T ?_
    refine wp_block ?_
    go_loopw [65] (fun s0 wr=>∃ j : Nat,j ≤ m ∧ s0 = .int .i64 j ∧ wr.ownsRow w.heap.size 48 5 (.slice (some ⟨x55,0,none⟩) m m) m ((U7 f sf m j).flatMap qL) ∧ Bx wr [(b8,48,Q6 D),(b3,48,Q6 a)] ∧ A4 w wr) (fun s0 _=>m - (intOf s0).toNat)
    case atStart=>exact ⟨0,Nat.zero_le _,rfl,by rw [B4R];exact Ho.out,hB,hG⟩
    case round =>
     clear hG Ho hB
     obtain ⟨j,hj,rfl,ho,hB,hG⟩:=hrel
     obtain ⟨u,rfl⟩ : ∃ x,x = wr:=⟨_,rfl⟩
     have Ho:=Lib.hid ho
     clear ho
     rcases Nat.lt_or_ge j m with hlt | hge2
     ·have hdec : decide ((j : Int) < (m : Int)) = true:=by simp;omega
      have hjn : (j : Int) < (m : Int):=by omega
      have hst:=B3Q (f:=f) (s:=sf) hlt
      obtain ⟨X,Y,E,hrd,hY,hml,had⟩:=Hel.out j hlt
      have hcw : ∀ W,A4 u W → Cq W x55 (j * 5) Y:=fun W hg=>by
       have h1:=B3A (i:=j) (C9 Ho.out hg) (by rw [A2x];exact hlt)
       rw [B1X hlt,← hY] at h1
       exact h1
      obtain ⟨Q,hQ⟩ : ∃ q,q = f j:=⟨_,rfl⟩
      rw [← hQ] at hst
      simp only [← hQ] at had
      have Hst:=Lib.hid hst
      have Hrd3:=Lib.hid hrd
      have Hml:=Lib.hid hml
      have Had:=Lib.hid had
      have Hcw:=Lib.hid hcw
      clear hst hrd hml had hQ hY hcw
      refine r0T ?_
      refine wp_seq ?_
      refine wp_cond_true (rfl) ?_
      refine wp_skip ?_
      refine A6 ?_
      refine wp_seq ?_
      refine wp_block ?_
      refine r0T ?_
      refine rdC K6 [] [(0,0),(0,1),(0,2),(0,3),(0,4),(0,5),(0,6),(0,7),(0,8),(0,9),(0,10),(0,11),(0,12),(0,13),(0,14),(1,15),(1,16),(0,17)] hB hG fun K L hN hL=>?_
      repeat first | refine gya ?_ | refine gyr ?_ | refine gna ?_ | refine gyb (by (rintro v ⟨hgu,hB,hG,-⟩ N hN;have r:=hB.r;simp only [BxR] at r;obtain ⟨⟨p0,y1,y2,y3,y4,y5⟩,z1,z2,z3,z4,z5⟩:=And.intro (Hrd3.out v hG) (Hcw.out v hgu);go_simp;exact hN)) ?_
      refine gmd (C:=fun v ⟨hgu,hB,hG,_⟩=>Hml.out _ (HT.grow hG)) ?_
      refine gmd (C:=fun v ⟨hgu,hB,hG,_⟩=>Had.out _ (HT.grow hG)) ?_
      refine gs ?_
      refine geC hL ?_
      clear hB hG hL L
      rintro u ⟨hgu,hB,hG,-⟩
      have Ho2:=Lib.hid (C9 Ho.out hgu)
      clear Ho
      have Ho:=Ho2
      clear Ho2
      obtain ⟨z0,z1,z2,z3,z4,o0,o1,o2,o3,o4,hfz⟩:=Y5 (enc:=qL) (fun _=>rfl) Ho.out (A2x f sf m j).symm j (by rw [A2x];exact hlt)
      clear hgu
      refine gt ?_
      clear hN K
      clear o0 o1 o2 o3 o4 hfz
      generalize hu0 : World.setCell (World.setCell (World.setCell (World.setCell (World.setCell u _ _) _ _) _ _) _ _) _ _ = u0
      have hu1 : D5 u x55 (j * 5) (qL Q) = u0:=hu0
      have hP:=P6 (enc:=qL) (size:=5) (ps:=U7 f sf m j) (fun _=>rfl) Ho.out j Q (by rw [A2x];exact hlt)
      rw [Hst.out,hu1] at hP
      have hG2:=O9 Ho.out hG hP.2
      have hB2:=hB.grown_ hP.2 (fun e he hxe=>by
       have e2:=Option.some.inj hxe
       simp only [List.mem_cons,List.not_mem_nil,or_false] at he
       rcases he with rfl | rfl
       ·exact hg8 e2.symm
       ·exact hg3 e2.symm)
      have Ho2:=Lib.hid hP.1
      clear hG hB Ho hP hu1 hu0
      have hG:=hG2
      have hB:=hB2
      have Ho:=Ho2
      clear hG2 Ho2 hB2
      obtain ⟨u,rfl⟩ : ∃ x,x = u0:=⟨_,rfl⟩
      refine D4 ?_
      refine A6 ?_
      refine r0E ?_
      refine A6 ?_
      go_roundw
      case rel=>exact ⟨j + 1,by omega,by go_num,Ho.out,hB,hG⟩
      case measure=>simp [intOf];omega
     ·obtain rfl : m = j:=by omega
      have hdec : decide ((m : Int) < (m : Int)) = false:=by simp
      have ho:=Ho.out
      rw [A9B] at ho
      obtain ⟨A9,c9,e9,-,-,hL,-⟩:=M3 ho
      cases e9
      have HL:=Lib.hid hL
      clear ho hL Ho
      refine r0T ?_
      refine wp_seq ?_
      refine wp_cond_false (rfl) ?_
      refine wp_exit ?_
      refine B6 ?_
      refine B6 ?_
      refine E6 ?_
      refine A6 ?_
      refine r0T ?_
      refine rt Tryz.results43 ?_
      exact ⟨(some ⟨x55,0,none⟩,m),rfl,HL.out,hG⟩
end Go.Proofs.YtgpglgbcobeogaaGreatDoor
