/- Contracts and laws. -/
import Derived.Test.YtlkniebmjdoopaaGreatDoorK7
set_option linter.unusedSimpArgs false
set_option linter.unusedVariables false
set_option maxHeartbeats 2000000
set_option maxRecDepth 100000
namespace Go.Proofs.YtlkniebmjdoopaaGreatDoor
open Go.RowKit
theorem A97 {a b : Nat} (h : (C3 a).length < (C3 b).length) : a < b:=by
 have h1 : a / W64 < b / W64:=by
  rcases Nat.lt_or_ge (a / W64) (b / W64) with h2 | h2
  ·exact h2
  ·exfalso
   have hb:=H5 (F2 C7 (a / W64))
   rw [D5 C7] at hb
   have h3 : (A7 W64 (b / W64)).length ≤ (A7 W64 (a / W64)).length:=A3A C7 (Nat.lt_of_le_of_lt h2 hb)
   unfold C3 at h
   omega
 rcases Nat.lt_or_ge a b with h2 | h2
 ·exact h2
 ·have := Nat.div_le_div_right (c:=W64) h2
  omega
theorem A0P (a : Nat) : val W64 (C3 a) = a / W64:=D5 C7 _
theorem A8N {a b : Nat} (h : a / W64 < b / W64) : a < b:=by
 rcases Nat.lt_or_ge a b with h2 | h2
 ·exact h2
 ·have := Nat.div_le_div_right (c:=W64) h2
  omega
theorem A8x {a b : Nat} (h : C3 a = C3 b) (hl : a % W64 < b % W64) : a < b:=by
 have h1 : a / W64 = b / W64:=by rw [← A0P a,← A0P b,h]
 have h2:=Nat.mod_add_div a W64
 have h3:=Nat.mod_add_div b W64
 rw [h1] at h2
 omega
theorem B2p {a b : Nat} (h : C3 a = C3 b) (hl : a % W64 = b % W64) : a = b:=by
 have h1 : a / W64 = b / W64:=by rw [← A0P a,← A0P b,h]
 rw [← Nat.mod_add_div a W64,← Nat.mod_add_div b W64,h1,hl]
theorem B1F (a b : Nat) (hne : (C3 a).length ≠ (C3 b).length) (w : World) : Calls Tryz.prog 118 #[A6 a,A6 b] w fun e w'=>e = .returned (.int .i64 (E6 a b)) ∧ A3 w w':=by
 have h1:=Y4 a
 have h2:=Y4 b
 have hq : (((B1 a).size : Int) != ((B1 b).size : Int)) = true:=by simp;omega
 rcases Nat.lt_or_gt_of_ne hne with h | h
 ·rw [O6 (A97 h)]
  have hd : decide ((B1 a).size < (B1 b).size) = true:=by simp;omega
  clear h1 h2 hne h
  go_enter Tryz.func118,Tryz.ntmps118
  go_wp2
  go_ret
  exact ⟨rfl,(A3.alloc _ _).trans (A3.alloc _ _)⟩
 ·rw [W6 (A97 h)]
  have hd : decide ((B1 a).size < (B1 b).size) = false:=by simp;omega
  clear h1 h2 hne h
  go_enter Tryz.func118,Tryz.ntmps118
  go_wp2
  go_ret
  exact ⟨rfl,(A3.alloc _ _).trans (A3.alloc _ _)⟩
theorem B4E (a b : Nat) (hle : (C3 a).length = (C3 b).length) (ha : bl a ≤ 1099511627776) (w : World) : Calls Tryz.prog 118 #[A6 a,A6 b] w fun e w'=>e = .returned (.int .i64 (E6 a b)) ∧ A3 w w':=by
  obtain ⟨m,hm⟩ : ∃ m,m = (C3 a).length:=⟨_,rfl⟩
  have h1 : (B1 a).size = 8 * m:=by rw [Y4,hm]
  have h2 : (B1 b).size = 8 * m:=by rw [Y4,hm,hle]
  have hub:=A5i a
  have hmm : m ≤ 17179869184:=by omega
  have hq : (((8 * m : Nat) : Int) != ((8 * m : Nat) : Int)) = false:=by simp
  obtain ⟨la,hla⟩ : ∃ la,la = C3 a:=⟨_,rfl⟩
  obtain ⟨lb,hlb⟩ : ∃ lb,lb = C3 b:=⟨_,rfl⟩
  have Hla:=Lib.hid hla
  have Hlb:=Lib.hid hlb
  have hlena : la.length = m:=by rw [hla,hm]
  have hlenb : lb.length = m:=by rw [hlb,hm,hle]
  have Hlena:=Lib.hid hlena
  have Hlenb:=Lib.hid hlenb
  have Hs1:=Lib.hid h1
  have Hs2:=Lib.hid h2
  clear hle ha hm hub hla hlb hlena hlenb
  go_enter Tryz.func118,Tryz.ntmps118
  go_wp2_with fail
  generalize hu : World.alloc (World.alloc w _) _ = u
  obtain ⟨hB,hG⟩:=R6 [(_,_),(_,_)] w u hu
  simp only [K4] at hB
  clear hu
  generalize w.heap.size + 1 = b3 at hB ⊢
  generalize w.heap.size = b2 at hB ⊢
  go_loopw [5] (fun i wr=>∃ k : Nat,k ≤ m ∧ i = .int .i64 (8 * (k : Int) - 8) ∧ la.drop k = lb.drop k ∧ Bx wr [(b2,35,#[.int .u64 (B3 a),.string (B1 a)]),(b3,35,#[.int .u64 (B3 b),.string (B1 b)])] ∧ A3 w wr) (fun i _=>(intOf i + 8).toNat)
  case atStart=>exact ⟨m,Nat.le_refl _,rfl,by rw [List.drop_of_length_le (by rw [Hlena.out];exact Nat.le_refl _),List.drop_of_length_le (by rw [Hlenb.out];exact Nat.le_refl _)],hB,hG⟩
  case round =>
    obtain ⟨k,hk,rfl,hdr,hB2,hG2⟩:=hrel
    have Hdr:=Lib.hid hdr
    clear hdr hB hG
    rcases Nat.eq_zero_or_pos k with rfl | hpos
    · have r:=hB2.r
      simp only [BxR] at r
      have hne : ¬ (0 : Int) ≤ 8 * ((0 : Nat) : Int) - 8:=by omega
      go_wp2_with fail
      refine (A8W (a % W64) (b % W64) _).mono ?_
      rintro e w1 ⟨rfl,hg⟩
      go_wp2_with fail
      go_ret
      refine ⟨congrArg (fun n=>Ending.returned (.int .i64 n)) ?_,hG2.trans hg⟩
      have hu : C3 a = C3 b:=by rw [← Hla.out,← Hlb.out];exact Hdr.out
      rcases Nat.lt_trichotomy (a % W64) (b % W64) with h | h | h
      · rw [O6 (A8x hu h),O6 h]
      · rw [A0v (B2p hu h),A0v h]
      · rw [W6 (A8x hu.symm h),W6 h]
    · have hka : k - 1 < (C3 a).length:=by rw [← Hla.out,Hlena.out];omega
      have hkb : k - 1 < (C3 b).length:=by rw [← Hlb.out,Hlenb.out];omega
      obtain ⟨x,hx⟩ : ∃ x,x = dg la (k - 1):=⟨_,rfl⟩
      obtain ⟨y,hy⟩ : ∃ y,y = dg lb (k - 1):=⟨_,rfl⟩
      have hwx : ∀ W : World,Calls Tryz.prog 154 #[.string ((B1 a).extract (8 * k - 8) (8 * m))] W fun e w'=>e = .returned (.int .u64 (x : Nat)) ∧ A3 W w':=by
        intro W
        rw [hx,D3 (by rw [Hla.out];exact hka),← Hs1.out,show 8 * k - 8 = 8 * (k - 1) by omega]
        have := A3o a (k - 1) hka _ (Lib.extract_to_end _ _) W
        simp only [Hla.out]
        exact this
      have hwy : ∀ W : World,Calls Tryz.prog 154 #[.string ((B1 b).extract (8 * k - 8) (8 * m))] W fun e w'=>e = .returned (.int .u64 (y : Nat)) ∧ A3 W w':=by
        intro W
        rw [hy,D3 (by rw [Hlb.out];exact hkb),← Hs2.out,show 8 * k - 8 = 8 * (k - 1) by omega]
        have := A3o b (k - 1) hkb _ (Lib.extract_to_end _ _) W
        simp only [Hlb.out]
        exact this
      have Hwx:=Lib.hid hwx
      have Hwy:=Lib.hid hwy
      have Hx:=Lib.hid hx
      have Hy:=Lib.hid hy
      have hge : (0 : Int) ≤ 8 * (k : Int) - 8:=by omega
      have hge2 : (8 : Int) ≤ 8 * (k : Int):=by omega
      have hge3 : 8 * (k : Int) - 8 ≤ 8 * (m : Int):=by omega
      have htn : (8 * (k : Int) - 8).toNat = 8 * k - 8:=by omega
      clear hwx hwy hx hy hka hkb
      go_wp2_with fail
      refine A17 (w:=w) A5 11 [(0,0),(0,1),(0,2),(0,3),(0,5),(0,6),(0,7),(0,8),(1,4),(1,9),(0,10)] (by kernel_rfl) (by kernel_rfl) hB2 hG2 ?_
      simp only [E8,List.getElem?_toArray,List.getElem?_cons_zero,List.getElem?_cons_succ]
      repeat (first
        | (apply gy
           · exact rfl
           · (rintro v ⟨-,hB,-⟩ N hN;have r:=hB.r;simp only [BxR] at r;go_simp;exact hN))
        | (apply gm
           · exact rfl
           · (rintro v - N hN;go_simp;(first | ((with_reducible refine (Hwx.out _).mono ?_);rintro e w1 ⟨rfl,hb⟩;exact ⟨_,rfl,hN _ hb⟩) | ((with_reducible refine (Hwy.out _).mono ?_);rintro e w1 ⟨rfl,hb⟩;exact ⟨_,rfl,hN _ hb⟩)))))
      refine K8 ?_
      rintro v ⟨-,hB3,hG3⟩
      clear hB2 hG2
      simp only [List.drop_succ_cons,List.drop_zero]
      go_wp2_with fail
      refine NoP.norm ?_
      by_cases hxy : x = y
      · subst hxy
        have hb : ((x : Int) != (x : Int)) = false:=by simp
        go_wp2_with fail
        go_roundw
        case rel =>
          refine ⟨k - 1,by omega,by go_num,?_,hB3,hG3⟩
          have h3:=Hdr.out
          have e1 : la.drop (k - 1) = dg la (k - 1) :: la.drop k:=by
            rw [List.drop_eq_getElem_cons (by rw [Hlena.out];omega),D3 (by rw [Hlena.out];omega),show k - 1 + 1 = k by omega]
          have e2 : lb.drop (k - 1) = dg lb (k - 1) :: lb.drop k:=by
            rw [List.drop_eq_getElem_cons (by rw [Hlenb.out];omega),D3 (by rw [Hlenb.out];omega),show k - 1 + 1 = k by omega]
          rw [e1,e2,h3,← Hx.out,← Hy.out]
        case measure=>simp [intOf];omega
      · have hb : ((x : Int) != (y : Int)) = true:=by simp;omega
        go_wp2_with fail
        refine (A8W x y _).mono ?_
        rintro e w1 ⟨rfl,hg⟩
        go_wp2_with fail
        go_ret
        refine ⟨congrArg (fun n=>Ending.returned (.int .i64 n)) ?_,hG3.trans hg⟩
        have h3:=Hdr.out
        have hda : Dig W64 la:=by rw [Hla.out];exact A1Z a
        have hdb : Dig W64 lb:=by rw [Hlb.out];exact A1Z b
        have hk1 : k - 1 + 1 = k:=by omega
        rcases Nat.lt_or_gt_of_ne hxy with h | h
        · have := A1n (la:=la) (lb:=lb) (k:=k - 1) hda (by rw [Hlena.out,Hlenb.out]) (by rw [Hlena.out];omega) (by rw [hk1];exact h3) (by rw [← Hx.out,← Hy.out];exact h)
          rw [Hla.out,Hlb.out,A0P,A0P] at this
          rw [O6 h,O6 (A8N this)]
        · have := A1n (la:=lb) (lb:=la) (k:=k - 1) hdb (by rw [Hlena.out,Hlenb.out]) (by rw [Hlenb.out];omega) (by rw [hk1];exact h3.symm) (by rw [← Hx.out,← Hy.out];exact h)
          rw [Hla.out,Hlb.out,A0P,A0P] at this
          rw [W6 h,W6 (A8N this)]
theorem T7 (a b : Nat) (ha : bl a ≤ 1099511627776) (w : World) : Calls Tryz.prog 118 #[A6 a,A6 b] w fun e w'=>e = .returned (.int .i64 (E6 a b)) ∧ A3 w w':=by
 by_cases h : (C3 a).length = (C3 b).length
 ·exact B4E a b h ha w
 ·exact B1F a b h w
def Q0 (u wr : World) (A1 A2 : Option Addr) (lx ly : List Nat) (k cy : Nat) : Prop :=
 ∃ zs : List Nat,cy ≤ 1 ∧ zs.length = k ∧ Dig W64 zs ∧ val W64 zs + val W64 (ly.take k) = val W64 (lx.take k) + cy * W64 ^ k ∧ Two u wr A1 A2 (zs ++ lx.drop k) ly
theorem Q0.start {u wr : World} {A1 A2 : Option Addr} {lx ly : List Nat} (h : Two u wr A1 A2 lx ly) : Q0 u wr A1 A2 lx ly 0 0 :=
 ⟨[],by omega,rfl,fun x hx=>(by cases hx),by simp [val],h⟩
theorem Q0.next {u wr : World} {A2 : Option Addr} {bx : Nat} {lx ly : List Nat} {k cy : Nat} (h : Q0 u wr (some ⟨bx,0,none⟩) A2 lx ly k cy) (hx : Dig W64 lx) (hy : Dig W64 ly) (hk : k < lx.length) :
  Q0 u (wr.setCell ⟨bx,k,none⟩ (.int .u64 ((dg lx k + W64 - dg ly k - cy) % W64 : Nat))) (some ⟨bx,0,none⟩) A2 lx ly (k + 1) (if dg lx k < dg ly k + cy then 1 else 0):=by
 obtain ⟨zs,hcy,hz,hd,he,ho1,ho2,hne⟩:=h
 have hne1 : zs ++ lx.drop k ≠ []:=by
  intro e
  have := congrArg List.length e
  simp at this
  omega
 have h1:=B9 B6 hx k
 have h2:=B9 B6 hy k
 have hlist : (zs ++ lx.drop k).set k ((dg lx k + W64 - dg ly k - cy) % W64) = (zs ++ [(dg lx k + W64 - dg ly k - cy) % W64]) ++ lx.drop (k + 1):=by
  rw [List.set_append_right _ _ (by omega),hz,Nat.sub_self,List.drop_eq_getElem_cons hk,List.set_cons_zero,List.append_assoc]
  rfl
 obtain ⟨b1,hb1,e1,hr1⟩:=ho1 hne1
 injection e1 with e1
 injection e1 with e1
 subst e1
 refine ⟨zs ++ [(dg lx k + W64 - dg ly k - cy) % W64],?_,by simp [hz],?_,A53 hcy h1 h2 hz he,?_,?_,?_⟩
 ·split <;> omega
 ·intro x hxm
  rcases List.mem_append.1 hxm with h | h
  ·exact hd x h
  ·simp only [List.mem_cons,List.not_mem_nil,or_false] at h
   rw [h]
   exact Nat.mod_lt _ B6
 ·intro _
  refine ⟨bx,hb1,rfl,?_⟩
  rw [← hlist]
  exact hr1.set k _
 ·intro hn2
  obtain ⟨b2,hb2,e2,hr2⟩:=ho2 hn2
  refine ⟨b2,hb2,e2,hr2.far ?_ _⟩
  intro e
  refine hne hne1 hn2 ?_
  rw [e2,e]
 ·intro _ hn2
  exact hne hne1 hn2
theorem Q0.cell1 {u wr : World} {bx : Nat} {A2 : Option Addr} {lx ly : List Nat} {k cy : Nat} (h : Q0 u wr (some ⟨bx,0,none⟩) A2 lx ly k cy) (hk : k < lx.length) :
  wr.cell? ⟨bx,k,none⟩ = some (.int .u64 (dg lx k : Nat)) ∧ wr.frozen? ⟨bx,k,none⟩ = false ∧ u.heap.size ≤ bx:=by
 obtain ⟨zs,hcy,hz,hd,he,ho1,ho2,hne⟩:=h
 obtain ⟨b1,hb1,e1,hr1⟩:=ho1 (by
  intro e
  have := congrArg List.length e
  simp at this
  omega)
 injection e1 with e1
 injection e1 with e1
 subst e1
 refine ⟨?_,hr1.frozen k,hb1⟩
 rw [hr1.cell,List.getElem?_append_right (by omega),hz,Nat.sub_self,List.getElem?_drop,Nat.add_zero,List.getElem?_eq_getElem hk,D3 hk]
 rfl
theorem Q0.cell2 {u wr : World} {A1 A2 : Option Addr} {lx ly : List Nat} {k cy : Nat} (h : Q0 u wr A1 A2 lx ly k cy) (hk : k < ly.length) :
  ∃ b2,A2 = some ⟨b2,0,none⟩ ∧ wr.cell? ⟨b2,k,none⟩ = some (.int .u64 (dg ly k : Nat)):=by
 obtain ⟨zs,hcy,hz,hd,he,ho1,ho2,hne⟩:=h
 obtain ⟨b2,hb2,e2,hr2⟩:=ho2 (by rintro rfl;simp at hk)
 refine ⟨b2,e2,?_⟩
 rw [hr2.cell,List.getElem?_eq_getElem hk,D3 hk]
 rfl
theorem Q0.addr {u wr : World} {A1 A2 : Option Addr} {lx ly : List Nat} {k cy : Nat} (h : Q0 u wr A1 A2 lx ly k cy) (hk : 0 < lx.length) : ∃ bx,A1 = some ⟨bx,0,none⟩:=by
 obtain ⟨zs,hcy,hz,hd,he,ho1,ho2,hne⟩:=h
 obtain ⟨b1,hb1,e1,hr1⟩:=ho1 (by
  intro e
  have := congrArg List.length e
  rw [List.length_append,hz,List.length_drop,List.length_nil] at this
  omega)
 exact ⟨b1,e1⟩
theorem Q0.done {u wr : World} {A1 A2 : Option Addr} {lx ly : List Nat} {k cy : Nat} (h : Q0 u wr A1 A2 lx ly k cy) (hk : k = lx.length) (hly : ly.length ≤ lx.length) :
  ∃ zs,zs.length = k ∧ cy ≤ 1 ∧ Dig W64 zs ∧ val W64 zs + val W64 ly = val W64 lx + cy * W64 ^ k ∧ Own u wr A1 zs:=by
 obtain ⟨zs,hcy,hz,hd,he,ho1,ho2,hne⟩:=h
 rw [List.drop_of_length_le (by omega),List.append_nil] at ho1
 rw [U6 _ _ _ (by omega),U6 _ _ _ (by omega)] at he
 exact ⟨zs,hz,hcy,hd,he,ho1⟩
theorem B4Z (a b : Nat) (ha : bl a ≤ 1099511627776) (hb : bl b ≤ 1099511627776) (hs : ¬ a < W64) (hba : b ≤ a) (w : World) : Calls Tryz.prog 152 #[A6 a,A6 b] w fun e w'=>e = .returned (.tuple #[A6 (a - b),.bool true]) ∧ A3 w w':=by
  have hE : (B1 a).toList.isEmpty = false:=by rw [L7];simpa using hs
  have hcmp : ∀ W : World,Calls Tryz.prog 118 #[A6 a,A6 b] W fun e w'=>e = .returned (.int .i64 (E6 a b)) ∧ A3 W w':=fun W=>T7 a b ha W
  have hcz : 0 ≤ E6 a b:=by unfold E6;split <;> (try split) <;> omega
  have Hcmp:=Lib.hid hcmp
  clear hcmp
  obtain ⟨la,hla⟩ : ∃ la,la = A7 W64 a:=⟨_,rfl⟩
  obtain ⟨lb,hlb⟩ : ∃ lb,lb = A7 W64 b:=⟨_,rfl⟩
  obtain ⟨n1,hn1⟩ : ∃ n,n = la.length:=⟨_,rfl⟩
  obtain ⟨n2,hn2⟩ : ∃ n,n = lb.length:=⟨_,rfl⟩
  have hwa : ∀ W : World,Calls Tryz.prog 126 #[A6 a] W fun e w'=>∃ A,e = .returned (.slice A n1 n1) ∧ Own W w' A la ∧ A3 W w':=by
    intro W;rw [hn1,hla];exact Y8 a ha W
  have hwb : ∀ W : World,Calls Tryz.prog 126 #[A6 b] W fun e w'=>∃ A,e = .returned (.slice A n2 n2) ∧ Own W w' A lb ∧ A3 W w':=by
    intro W;rw [hn2,hlb];exact Y8 b hb W
  have hm1 : n1 ≤ 17179869184:=by rw [hn1,hla];exact Z4 (by omega)
  have hm2 : n2 ≤ 17179869184:=by rw [hn2,hlb];exact Z4 (by omega)
  have Hwa:=Lib.hid hwa
  have Hwb:=Lib.hid hwb
  have hn21 : n2 ≤ n1:=by rw [hn1,hn2,hla,hlb];exact A3A C7 (by have h1:=H5 (F2 C7 a);rw [D5 C7] at h1;omega)
  have Hda : Hid (Dig W64 la):=by rw [hla];exact Lib.hid (F2 C7 a)
  have Hdb : Hid (Dig W64 lb):=by rw [hlb];exact Lib.hid (F2 C7 b)
  have Hla:=Lib.hid hla
  have Hlb:=Lib.hid hlb
  have Hn1:=Lib.hid hn1
  have Hn2:=Lib.hid hn2
  clear hwa hwb hla hlb hn1 hn2 ha hb hs
  go_enter Tryz.func152,Tryz.ntmps152
  refine wp_seq (Code.wp_mono NoP.up (wp_region_lit ?_))
  go_wp2_with fail
  generalize hu : World.alloc (World.alloc (World.alloc w _) _) _ = u
  obtain ⟨hB,hG⟩:=R6 [(_,_),(_,_),(_,_)] w u hu
  have hF:=U9 w [(35,#[]),(35,#[]),(35,#[])]
  simp only [K4,List.map_cons,List.map_nil] at hB hF
  clear hu
  generalize w.heap.size + 1 + 1 = b4 at hB hF ⊢
  generalize w.heap.size + 1 = b3 at hB hF ⊢
  generalize w.heap.size = b2 at hB hF ⊢
  refine NoP.norm (A4 ?_)
  have r:=hB.r
  simp only [BxR] at r
  go_wp2_with fail
  refine (Hcmp.out _).mono ?_
  rintro e u1 ⟨rfl,hgc⟩
  replace hB:=hB.grow hgc
  replace hG:=hG.trans hgc
  clear r hgc u
  have r:=hB.r
  simp only [BxR] at r
  go_wp2_with fail
  clear r
  obtain ⟨u,rfl⟩ : ∃ x,x = u1:=⟨_,rfl⟩
  refine A17 (w:=w) A5 5 [(0,0),(0,2),(1,1),(1,3),(0,4)] (by kernel_rfl) (by kernel_rfl) hB hG ?_
  simp only [E8,List.getElem?_toArray,List.getElem?_cons_zero,List.getElem?_cons_succ]
  (apply gy
   · exact rfl
   · (rintro v ⟨-,hB,-⟩ N hN;have r:=hB.r;simp only [BxR] at r;go_simp;exact hN))
  (apply gy
   · exact rfl
   · (rintro v ⟨-,hB,-⟩ N hN;have r:=hB.r;simp only [BxR] at r;go_simp;exact hN))
  refine gx (Option Addr) (fun A=>.slice A n1 n1) (fun A v=>Own u v A la) (fun A v v' hg h=>h.grow hg) rfl ?_ (fun A1=>?_)
  · rintro v ⟨hgu,-,-⟩ N hN
    go_simp
    ((with_reducible refine (Hwa.out _).mono ?_);rintro e w1 ⟨A,rfl,hown,hg⟩;exact ⟨_,rfl,hN A w1 (hown.since hgu) hg⟩)
  refine gx (Option Addr) (fun A=>.slice A n2 n2) (fun A v=>Own u v A lb ∧ (la ≠ [] → lb ≠ [] → A1 ≠ A)) (fun A v v' hg h=>⟨h.1.grow hg,h.2⟩) rfl ?_ (fun A2=>?_)
  · rintro v ⟨⟨hgu,-,-⟩,ho1⟩ N hN
    go_simp
    ((with_reducible refine (Hwb.out _).mono ?_);rintro e w1 ⟨A,rfl,hown,hg⟩;exact ⟨_,rfl,hN A w1 ⟨hown.since hgu,fun h1 h2=>ho1.ne hown h1 h2⟩ hg⟩)
  (apply gy
   · exact rfl
   · (rintro v - N hN;go_simp;exact hN))
  refine K8 ?_
  rintro v ⟨⟨⟨hgu,hB1,hG1⟩,ho1⟩,ho2,hne⟩
  have hTwo : Two u v A1 A2 la lb:=⟨ho1,ho2,hne⟩
  have hq2:=hB.head.lt
  have hq3:=hB.tail.head.lt
  have hq4:=hB.tail.tail.head.lt
  have hwu:=hG.size
  clear ho1 ho2 hne hB hG
  have HTwo:=Lib.hid hTwo
  clear hTwo
  simp only [List.drop_succ_cons,List.drop_zero]
  go_wp2_with fail
  refine NoP.norm ?_
  go_wp2_with fail
  go_loopw [8,31] (fun c i wr=>∃ k cy : Nat,k ≤ n1 ∧ i = .int .i64 k ∧ c = .int .u64 cy ∧ Q0 u wr A1 A2 la lb k cy ∧ Bx wr [(b2,35,#[.int .u64 (B3 a),.string (B1 a)]),(b3,35,#[.int .u64 (B3 b),.string (B1 b)]),(b4,35,#[.int .u64 0,.string ⟨#[]⟩])] ∧ A3 w wr ∧ u.heap.size ≤ wr.heap.size) (fun _ i _=>n1 - (intOf i).toNat)
  case atStart=>exact ⟨0,0,by omega,rfl,rfl,Q0.start HTwo.out,hB1,hG1,hgu.size⟩
  case round =>
    obtain ⟨k,cy,hk,rfl,rfl,hI,hB,hG,hus⟩:=hrel
    have HI:=Lib.hid hI
    have HB:=Lib.hid hB
    have HG:=Lib.hid hG
    have hcy : cy ≤ 1:=by obtain ⟨zs,h,_⟩:=HI.out;exact h
    clear hI hB hG
    rcases Nat.lt_or_ge k n1 with hkl | hkg
    · have hkl' : k < la.length:=by rw [← Hn1.out];exact hkl
      obtain ⟨bx,rfl⟩:=HI.out.addr (by omega)
      obtain ⟨hc1,hf1,hbx⟩:=HI.out.cell1 hkl'
      have Hnext:=Lib.hid (HI.out.next Hda.out Hdb.out hkl')
      obtain ⟨x,hx⟩ : ∃ x,x = dg la k:=⟨_,rfl⟩
      obtain ⟨o,ho⟩ : ∃ o,o = dg lb k:=⟨_,rfl⟩
      rw [← hx] at hc1 Hnext
      rw [← ho] at Hnext
      obtain ⟨sm,hsm⟩ : ∃ sm,sm = (x + W64 - o - cy) % W64:=⟨_,rfl⟩
      obtain ⟨t,ht⟩ : ∃ t,t = (if x < o + cy then 1 else 0):=⟨_,rfl⟩
      rw [← hsm,← ht] at Hnext
      have hBn : ∀ sv,Bx (wr.setCell ⟨bx,k,none⟩ sv) [(b2,35,#[.int .u64 (B3 a),.string (B1 a)]),(b3,35,#[.int .u64 (B3 b),.string (B1 b)]),(b4,35,#[.int .u64 0,.string ⟨#[]⟩])]:=fun sv=>HB.out.far_ (p:=⟨bx,k,none⟩) (by show ∀ e ∈ _,_ ≠ bx;simp;omega) sv
      have HBn:=Lib.hid hBn
      have Hx:=Lib.hid hx
      have Ho:=Lib.hid ho
      clear hx ho hBn
      by_cases hky : k < n2
      · obtain ⟨by_,rfl,hc2⟩:=HI.out.cell2 (by rw [← Hn2.out];exact hky)
        rw [← Ho.out] at hc2
        have hadd:=A1M x o cy hcy (x : Int) (o : Int) (cy : Int) rfl rfl rfl
        rw [show (x + 18446744073709551616 - o - cy) % 18446744073709551616 = sm from hsm.symm,show (if x < o + cy then 1 else 0) = t from ht.symm] at hadd
        clear hsm ht
        go_wp2
        go_roundw
        case rel=>exact ⟨k + 1,t,by omega,by go_num,rfl,Hnext.out,HBn.out _,HG.out.setCell (p:=⟨bx,k,none⟩) (by show _ ≤ bx;omega) _,by simpa [World.setCell] using hus⟩
        case measure=>simp [intOf];omega
      · have hz : o = 0:=by rw [Ho.out];exact X1 (by rw [← Hn2.out];omega)
        have hadd:=A1M x o cy hcy (x : Int) 0 (cy : Int) rfl (by rw [hz];rfl) rfl
        rw [show (x + 18446744073709551616 - o - cy) % 18446744073709551616 = sm from hsm.symm,show (if x < o + cy then 1 else 0) = t from ht.symm] at hadd
        clear hsm ht hz
        go_wp2
        go_roundw
        case rel=>exact ⟨k + 1,t,by omega,by go_num,rfl,Hnext.out,HBn.out _,HG.out.setCell (p:=⟨bx,k,none⟩) (by show _ ≤ bx;omega) _,by simpa [World.setCell] using hus⟩
        case measure=>simp [intOf];omega
    · obtain rfl : n1 = k:=by omega
      obtain ⟨zs,hz,_,hd,hval,hown⟩:=HI.out.done Hn1.out (by rw [← Hn1.out,← Hn2.out];omega)
      have hcy0 : cy = 0:=by
        have h1:=H5 hd
        rw [hz] at h1
        rcases Nat.eq_zero_or_pos cy with h | h
        · exact h
        · exfalso
          obtain rfl : cy = 1:=by omega
          rw [Hla.out,Hlb.out,D5 C7,D5 C7] at hval
          omega
      subst hcy0
      have hab : val W64 zs = a - b:=by
        rw [Hla.out,Hlb.out,D5 C7,D5 C7] at hval
        omega
      have Hown:=Lib.hid hown
      have Hd:=Lib.hid hd
      have Hz:=Lib.hid hz
      have Hab:=Lib.hid hab
      clear hown hd hz hval hab
      have hfw : Calls Tryz.prog 124 #[.slice A1 n1 n1] wr fun e w'=>e = .returned (A6 (a - b)) ∧ A3 wr w':=by
        have h1:=R8 A1 zs n1 wr Hown.out.rd Hd.out (by rw [Hz.out];exact Nat.le_refl _) (by rw [Hz.out];omega) (by omega)
        rw [Hz.out,Hab.out] at h1
        exact h1
      have Hfw:=Lib.hid hfw
      clear hfw
      go_wp2_with (go_at_call 124;((with_reducible refine Hfw.out.mono ?_);rintro e w1 ⟨rfl,hg⟩;have hbb:=(HB.out.grow hg).tail.tail.head;have hc:=hbb.cell;have hf:=hbb.frozen))
      have h6:=((hbb.set_ 0 (.int .u64 (B3 (a - b)))).set_ 1 (.string (B1 (a - b)))).cell
      simp only [List.setIfInBounds_toArray,List.set_cons_zero,List.set_cons_succ] at h6
      have hwb4 : w.heap.size ≤ b4:=hF.1 b4 (by simp)
      exact bodyPost_ret (v:=.tuple #[A6 (a - b),.bool true]) (by simp [results,Tryz.results152,go_sem,h6]) rfl ⟨rfl,((HG.out.trans hg).setCell (p:=⟨b4,0,none⟩) hwb4 _).setCell (p:=⟨b4,1,none⟩) hwb4 _⟩
theorem B2X (a b : Nat) (ha : bl a ≤ 1099511627776) (hab : a < b) (w : World) : Calls Tryz.prog 152 #[A6 a,A6 b] w fun e w'=>e = .returned (.tuple #[A6 0,.bool false]) ∧ A3 w w':=by
  have hcmp : ∀ W : World,Calls Tryz.prog 118 #[A6 a,A6 b] W fun e w'=>e = .returned (.int .i64 (-1)) ∧ A3 W w':=by
    intro W
    have := T7 a b ha W
    rw [O6 hab] at this
    exact this
  have Hcmp:=Lib.hid hcmp
  clear hcmp ha hab
  go_enter Tryz.func152,Tryz.ntmps152
  refine wp_seq (Code.wp_mono NoP.up (wp_region_lit ?_))
  go_wp2_with fail
  generalize hu : World.alloc (World.alloc (World.alloc w _) _) _ = u
  obtain ⟨hB,hG⟩:=R6 [(_,_),(_,_),(_,_)] w u hu
  have hF:=U9 w [(35,#[]),(35,#[]),(35,#[])]
  simp only [K4,List.map_cons,List.map_nil] at hB hF
  clear hu
  generalize w.heap.size + 1 + 1 = b4 at hB hF ⊢
  generalize w.heap.size + 1 = b3 at hB hF ⊢
  generalize w.heap.size = b2 at hB hF ⊢
  refine NoP.norm ?_
  refine A4 ?_
  refine wp_seq ?_
  refine wp_seq ?_
  refine A04 (w:=w) A5 4 [0,0,1,0] (by kernel_rfl) hB hG ?_
  simp only [List.zip_cons_cons,List.zip_nil_left]
  (apply gy
   · exact rfl
   · (rintro v ⟨-,hB,hG⟩ N hN;have r:=hB.r;simp only [BxR] at r;go_simp;exact hN))
  (apply gy
   · exact rfl
   · (rintro v ⟨-,hB,hG⟩ N hN;have r:=hB.r;simp only [BxR] at r;go_simp;exact hN))
  (apply gm
   · exact rfl
   · (rintro v - N hN;go_simp;((with_reducible refine (Hcmp.out _).mono ?_);rintro e w1 ⟨rfl,hb⟩;exact ⟨_,rfl,hN _ hb⟩)))
  (apply gy
   · exact rfl
   · (rintro v - N hN;go_simp;exact hN))
  refine K8 ?_
  rintro v ⟨-,hB1,hG1⟩
  clear hB hG
  have hB:=hB1
  have hG:=hG1
  clear hB1 hG1
  simp only [List.drop_succ_cons,List.drop_nil]
  refine wpList_nil ?_
  refine NoP.norm ?_
  refine A4 ?_
  refine wp_cond_split rfl ?_ ?_
  · intro ht
    refine wp_seq ?_
    refine A04 (w:=w) A5 1 [0] (by kernel_rfl) hB hG ?_
    simp only [List.zip_cons_cons,List.zip_nil_left]
    (apply gy
     · exact rfl
     · (rintro v - N hN;go_simp;exact hN))
    refine K8 ?_
    rintro v ⟨-,hB1,hG1⟩
    clear hB hG
    have hB:=hB1
    have hG:=hG1
    clear hB1 hG1
    simp only [List.drop_succ_cons,List.drop_zero]
    have r:=hB.r
    simp only [BxR] at r
    go_wp2_with fail
    clear r
    generalize hu0 : World.setCell (World.setCell v _ _) _ _ = u0
    have hBG:=hB.over hF hG 2 rfl 0 [_,_] hu0
    clear hB hG hu0
    simp only [List.modify_succ_cons,List.modify_zero_cons,G6,List.setIfInBounds_toArray,List.set_cons_zero,List.set_cons_succ,Nat.zero_add] at hBG
    obtain ⟨hB,hG⟩:=hBG
    clear v
    obtain ⟨u,rfl⟩ : ∃ x,x = u0:=⟨_,rfl⟩
    refine NoP.norm ?_
    refine A4 ?_
    refine A8u rfl ?_
    intro N hN
    have r:=hB.r
    simp only [BxR] at r
    simp only [results,Tryz.results152]
    go_simp
    refine hN _ ?_
    clear hN N r
    exact ⟨rfl,hG⟩
  · intro ht
    cases ht
theorem B2g (a b : Nat) (ha : a < W64) (hba : b ≤ a) (w : World) : Calls Tryz.prog 152 #[A6 a,A6 b] w fun e w'=>e = .returned (.tuple #[A6 (a - b),.bool true]) ∧ A3 w w':=by
  have hcmp : ∀ W : World,Calls Tryz.prog 118 #[A6 a,A6 b] W fun e w'=>e = .returned (.int .i64 (E6 a b)) ∧ A3 W w':=fun W=>T7 a b (Nat.le_trans (W5 ha) (by omega)) W
  have hcz : 0 ≤ E6 a b:=by unfold E6;split <;> (try split) <;> omega
  have hd : decide (E6 a b < 0) = false:=by simpa using hcz
  rw [Q5 ha,Q5 (show b < W64 by omega),Q5 (show a - b < W64 by omega)]
  rw [Q5 ha,Q5 (show b < W64 by omega)] at hcmp
  have Hcmp:=Lib.hid hcmp
  have hw1 : IntKind.u64.wrap ((a : Int) - (b : Int)) = ((a - b : Nat) : Int):=by
    unfold W64 at ha
    rw [u64_wrap_id (x:=(a : Int) - (b : Int)) (by omega) (by omega)]
    omega
  clear hcmp hcz
  go_enter Tryz.func152,Tryz.ntmps152
  refine wp_seq (Code.wp_mono NoP.up (wp_region_lit ?_))
  go_wp2_with fail
  generalize hu : World.alloc (World.alloc (World.alloc w _) _) _ = u
  obtain ⟨hB,hG⟩:=R6 [(_,_),(_,_),(_,_)] w u hu
  have hF:=U9 w [(35,#[]),(35,#[]),(35,#[])]
  simp only [K4,List.map_cons,List.map_nil] at hB hF
  clear hu
  generalize w.heap.size + 1 + 1 = b4 at hB hF ⊢
  generalize w.heap.size + 1 = b3 at hB hF ⊢
  generalize w.heap.size = b2 at hB hF ⊢
  refine NoP.norm ?_
  refine A4 ?_
  refine wp_seq ?_
  refine wp_seq ?_
  refine A04 (w:=w) A5 4 [0,0,1,0] (by kernel_rfl) hB hG ?_
  simp only [List.zip_cons_cons,List.zip_nil_left]
  (apply gy
   · exact rfl
   · (rintro v ⟨-,hB,hG⟩ N hN;have r:=hB.r;simp only [BxR] at r;go_simp;exact hN))
  (apply gy
   · exact rfl
   · (rintro v ⟨-,hB,hG⟩ N hN;have r:=hB.r;simp only [BxR] at r;go_simp;exact hN))
  (apply gm
   · exact rfl
   · (rintro v - N hN;go_simp;((with_reducible refine (Hcmp.out _).mono ?_);rintro e w1 ⟨rfl,hb⟩;exact ⟨_,rfl,hN _ hb⟩)))
  (apply gy
   · exact rfl
   · (rintro v - N hN;go_simp;exact hN))
  refine K8 ?_
  rintro v ⟨-,hB1,hG1⟩
  clear hB hG
  have hB:=hB1
  have hG:=hG1
  clear hB1 hG1
  simp only [List.drop_succ_cons,List.drop_nil]
  refine wpList_nil ?_
  refine NoP.norm ?_
  refine A4 ?_
  refine wp_cond_split rfl ?_ ?_
  · intro ht
    cases ht
  · intro ht
    refine wp_skip ?_
    refine A4 ?_
    refine wp_seq ?_
    refine wp_seq ?_
    refine A04 (w:=w) A5 3 [0,0,0] (by kernel_rfl) hB hG ?_
    simp only [List.zip_cons_cons,List.zip_nil_left]
    (apply gy
     · exact rfl
     · (rintro v - N hN;go_simp;exact hN))
    (apply gy
     · exact rfl
     · (rintro v ⟨-,hB,hG⟩ N hN;have r:=hB.r;simp only [BxR] at r;go_simp;exact hN))
    (apply gy
     · exact rfl
     · (rintro v - N hN;go_simp;exact hN))
    refine K8 ?_
    rintro v ⟨-,hB1,hG1⟩
    clear hB hG
    have hB:=hB1
    have hG:=hG1
    clear hB1 hG1
    simp only [List.drop_succ_cons,List.drop_nil]
    refine wpList_nil ?_
    refine NoP.norm ?_
    refine A4 ?_
    refine wp_cond_split rfl ?_ ?_
    · intro ht
      refine wp_seq ?_
      refine A04 (w:=w) A5 6 [0,0,0,0,0,0] (by kernel_rfl) hB hG ?_
      simp only [List.zip_cons_cons,List.zip_nil_left]
      (apply gy
       · exact rfl
       · (rintro v - N hN;go_simp;exact hN))
      (apply gy
       · exact rfl
       · (rintro v ⟨-,hB,hG⟩ N hN;have r:=hB.r;simp only [BxR] at r;go_simp;exact hN))
      (apply gy
       · exact rfl
       · (rintro v - N hN;go_simp;exact hN))
      (apply gy
       · exact rfl
       · (rintro v ⟨-,hB,hG⟩ N hN;have r:=hB.r;simp only [BxR] at r;go_simp;exact hN))
      (apply gy
       · exact rfl
       · (rintro v - N hN;go_simp;exact hN))
      (apply gy
       · exact rfl
       · (rintro v - N hN;go_simp;exact hN))
      refine K8 ?_
      rintro v ⟨-,hB1,hG1⟩
      clear hB hG
      have hB:=hB1
      have hG:=hG1
      clear hB1 hG1
      simp only [List.drop_succ_cons,List.drop_zero]
      have r:=hB.r
      simp only [BxR] at r
      go_wp2_with fail
      clear r
      generalize hu0 : World.setCell (World.setCell v _ _) _ _ = u0
      have hBG:=hB.over hF hG 2 rfl 0 [_,_] hu0
      clear hB hG hu0
      simp only [List.modify_succ_cons,List.modify_zero_cons,G6,List.setIfInBounds_toArray,List.set_cons_zero,List.set_cons_succ,Nat.zero_add] at hBG
      obtain ⟨hB,hG⟩:=hBG
      clear v
      obtain ⟨u,rfl⟩ : ∃ x,x = u0:=⟨_,rfl⟩
      refine NoP.norm ?_
      refine A4 ?_
      refine A8u rfl ?_
      intro N hN
      have r:=hB.r
      simp only [BxR] at r
      simp only [results,Tryz.results152]
      go_simp
      refine hN _ ?_
      clear hN N r
      exact ⟨rfl,hG⟩
    · intro ht
      cases ht
theorem B1U (a b : Nat) (ha : bl a ≤ 1099511627776) (hba : b ≤ a) (w : World) : Calls Tryz.prog 152 #[A6 a,A6 b] w fun e w'=>e = .returned (.tuple #[A6 (a - b),.bool true]) ∧ A3 w w':=by
 by_cases hs : a < W64
 ·exact B2g a b hs hba w
 ·exact B4Z a b ha (Nat.le_trans (N8 hba) ha) hs hba w
end Go.Proofs.YtlkniebmjdoopaaGreatDoor
