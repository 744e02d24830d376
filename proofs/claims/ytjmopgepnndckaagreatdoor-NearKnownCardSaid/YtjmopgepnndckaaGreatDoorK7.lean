/- Contracts and laws. -/
import Derived.Test.YtjmopgepnndckaaGreatDoorK6
import Derived.Deep.RegionHeld3
set_option linter.unusedSimpArgs false
set_option linter.unusedVariables false
set_option maxHeartbeats 1000000
set_option maxRecDepth 100000
namespace Go.Proofs.YtjmopgepnndckaaGreatDoor
open Go.RowKit
theorem B35 : (Tryz.prog.info? 242).map (·.size) = some 2:=by kernel_rfl
theorem A42 : (Tryz.prog.info? 5).map (fun i=>(i.zero,i.size,i.bytes)) = some (some (.int .u8 0),1,1):=by kernel_rfl
theorem A9b (b : Nat) (w : World) (h0 : w.cell? ⟨b,0,none⟩ = some (.pointer (some ⟨b,0,none⟩))) :
  Calls Tryz.prog 207 #[.pointer (some ⟨b,0,none⟩)] w fun e w'=>e = .returned (.tuple #[]) ∧ w' = w:=by
 obtain ⟨j,hj,_⟩:=Option.map_eq_some_iff.1 B35
 go_enter Tryz.func207,Tryz.ntmps207
 go_wp2
 rw [Lib.run_neq_ptr_same w _ Tryz.underlying240 hj]
 go_wp2
 go_end0
 exact ⟨rfl,rfl⟩
theorem A8m (B b : Nat) (bs : List Value) (c : Int) (w : World) (h : Lib.BuilderAt 242 5 B b (.pointer (some ⟨b,0,none⟩)) bs w) (hlen : bs.length + 1 ≤ 140737488355328) (hBw : B ≤ w.heap.size) :
  Calls Tryz.prog 186 #[.pointer (some ⟨b,0,none⟩),.int .u8 c] w fun e w'=>e = .returned .nilIface ∧ (Lib.BuilderAt 242 5 B b (.pointer (some ⟨b,0,none⟩)) (bs ++ [.int .u8 c]) w' ∧ Below B w w'):=by
 obtain ⟨i0,hi,hz0,hz1,hz2⟩:=info_parts A42
 obtain ⟨hB,v,hbk,hown,hne⟩:=h
 have c0 : w.cell? ⟨b,0,none⟩ = some (.pointer (some ⟨b,0,none⟩)):=by rw [Lib.cell_of_heap hbk];rfl
 have c1 : w.cell? ⟨b,1,none⟩ = some v:=by rw [Lib.cell_of_heap hbk];rfl
 go_enter Tryz.func186,Tryz.ntmps186
 go_wp2_with (first
  | (go_at_call 207;(refine (A9b b w c0).mono ?_);rintro e w1 ⟨rfl,rfl⟩)
  | (at_builtin;refine wpList_append_own _ rfl _ _ 182 rfl B 5 i0 (.int .u8 0) 1 1 Tryz.underlying182 hi hz0 hz1 hz2 rfl (by decide) _ _ _ rfl (hown.alloc _) ⟨_,0,none⟩ 1 1 [.int .u8 c] rfl rfl ?c1 ?c2 ?c3 ?c4 ?c5 ?_))
 case c1 =>
  intro j u hj
  match j,hj with
  | 0,hj=>simp at hj;subst hj;simp [Addr.add]
 case c2=>intro u hu;simp at hu;subst hu;rfl
 case c3=>unfold maxLen;omega
 case c4=>omega
 case c5=>simp;omega
 intro v' w2 hown' hgrow _
 have hlt : b < w1.heap.size:=by
  rcases Nat.lt_or_ge b w1.heap.size with h' | h'
  ·exact h'
  ·simp [Array.getElem?_eq_none h'] at hbk
 have hb2 : w2.heap[b]? = some (.cells #[.pointer (some ⟨b,0,none⟩),v] 242 (0,0)):=by
  rw [hgrow.block b (by simp;omega) (fun e=>hne e.symm),Lib.alloc_old w1 _ b hlt]
  exact hbk
 have d0 : w2.cell? ⟨b,0,none⟩ = some (.pointer (some ⟨b,0,none⟩)):=by rw [Lib.cell_of_heap hb2];rfl
 have d1 : w2.cell? ⟨b,1,none⟩ = some v:=by rw [Lib.cell_of_heap hb2];rfl
 have f1 : w2.frozen? ⟨b,1,none⟩ = false:=Lib.frozen_of_heap hb2 1
 obtain ⟨g,cap,rfl⟩ : ∃ g cap,v' = .slice (some ⟨g,0,none⟩) (bs.length + 1) cap:=by
  rcases hown'.2 with ⟨_,h0⟩ | ⟨g,cap,cur,hv,_⟩
  ·omega
  ·exact ⟨g,cap,hv⟩
 go_wp2
 go_ret
 refine ⟨rfl,?_,?_⟩
 ·exact Lib.BuilderAt.put (T:=242) (e:=5) hB hb2 (bs':=bs ++ [.int .u8 c]) (by simpa using hown') (by decide)
 ·exact (((Below.refl B w1).alloc hBw _).grown hgrow (by simp;omega) (fun k hk=>(hown.lt k hk).1)).setCell (p:=⟨b,1,none⟩) hB _
theorem A6Q {x : Nat} {l : List Nat} (hx : x < W64) (hl : Dig W64 l) (ht : N4 l) : B1 (val W64 (x :: l)) = x ∧ B7 (val W64 (x :: l)) = l:=by
 have e1 : val W64 (x :: l) % W64 = x:=by simp only [val];rw [Nat.add_mul_mod_self_left,Nat.mod_eq_of_lt hx]
 have e2 : val W64 (x :: l) / W64 = val W64 l:=by simp only [val];rw [Nat.add_mul_div_left _ _ B2,Nat.div_eq_of_lt hx,Nat.zero_add]
 refine ⟨by unfold B1;rw [e1],?_⟩
 unfold B7
 rw [e2,A2N C0 _ hl ht]
theorem B3M (l : List UInt8) (c : UInt8) : Lib.byteCells l ++ [.int .u8 (c.toNat : Int)] = Lib.byteCells (l ++ [c]):=by
 simp [Lib.byteCells]
theorem A4q (x : Nat) : ∀ (n k : Nat),k < n → (Lib.leBytes n x)[k]? = some ((x / 256 ^ k % 256).toUInt8)
 | 0,_,h=>absurd h (Nat.not_lt_zero _)
 | n + 1,0,_=>by simp [Lib.leBytes]
 | n + 1,k + 1,h=>by
  rw [Lib.leBytes,List.getElem?_cons_succ,A4q (x / 256) n k (by omega),Nat.div_div_eq_div_mul,Nat.pow_succ,Nat.mul_comm]
theorem B2r (A : Option Addr) (l : List Nat) (c : Nat) (w : World) (h : Rd w A l) (hd : Dig W64 l) (hc : l.length ≤ c) (hm : l.length ≤ 34359738368) (hcm : c ≤ 9223372036854775807) (h2 : 2 ≤ (B8 l).length) :
  Calls Tryz.prog 156 #[.slice A l.length c] w fun e w'=>e = .returned (A5 (val W64 l)) ∧ A3 w w':=by
 obtain ⟨x0,y0,m,hl⟩ : ∃ x y m,B8 l = x :: y :: m:=by
  match B8 l,h2 with
  | x :: y :: m,_=>exact ⟨x,y,m,rfl⟩
 obtain ⟨n,hn⟩ : ∃ n,n = m.length:=⟨_,rfl⟩
 have hlen : (B8 l).length = n + 2:=by rw [hl,hn];rfl
 have hle:=A0f l
 obtain ⟨b,off,hA,hw⟩:=h (by rintro rfl;simp [B8] at h2)
 subst hA
 have hw2 : Wds w b off (B8 l):=by rw [A0k];exact hw.take _
 have hbw:=hw.lt
 have Hw:=Lib.hid hw2
 have Hl:=Lib.hid hl
 have Hn:=Lib.hid hn
 have Hd:=Lib.hid hd
 have Hlen:=Lib.hid hlen
 have htrim : ∀ W : World,A3 w W → Calls Tryz.prog 184 #[.slice (some ⟨b,off,none⟩) l.length c] W fun e w'=>e = .returned (.slice (some ⟨b,off,none⟩) (n + 2) c) ∧ W = w':=by
  intro W hg
  have := A2a (some ⟨b,off,none⟩) l c W (h.grow hg) hc (by omega)
  rw [hlen] at this
  exact this
 have Htrim:=Lib.hid htrim
 have hnc : n + 2 ≤ c:=by omega
 have hnm : n + 2 ≤ 34359738368:=by omega
 clear hm
 clear htrim hlen hd hn hl hw2 hw h h2 hle hc
 go_enter Tryz.func156,Tryz.ntmps156
 go_wp2_with (go_at_call 184;((with_reducible refine (Htrim.out _ (A3.alloc _ _)).mono ?_);rintro e w1 ⟨rfl,rfl⟩))
 rw [show (8 * ((n : Int) + 2 - 1)) = ((8 * (n + 1) : Nat) : Int) from by omega]
 refine (Tryz.Builder_Grow_fresh_cap (w.heap.size + 1) (w.heap.size + 1) (8 * (n + 1)) _ (Nat.le_refl _) (by have := Blk.new (w.alloc (.cells #[.int .u64 0,.string ⟨#[]⟩] 45)) 242 #[.pointer none,.slice none 0 0];simpa [Blk] using this) (by simp) (by omega)).mono ?_
 rintro e w1 ⟨rfl,⟨hat,hbel⟩,-⟩
 have hG1 : Below (w.heap.size + 1) (w.alloc (.cells #[.int .u64 0,.string ⟨#[]⟩] 45)) w1:=((Below.refl _ _).alloc (by simp) _).trans hbel
 have Hat:=Lib.hid hat
 have HG1:=Lib.hid hG1
 clear hat hbel hG1
 have hc1 : ¬ c = 1:=by omega
 go_wp2_with fail
 go_loopw [28] (fun i wr=>∃ j : Nat,j ≤ n + 1 ∧ i = .int .i64 j ∧ Lib.BuilderAt 242 5 (w.heap.size + 1) (w.heap.size + 1) (.pointer (some ⟨w.heap.size + 1,0,none⟩)) (Lib.byteCells (((y0 :: m).take j).flatMap (Lib.leBytes 8))) wr ∧ Below (w.heap.size + 1) (w.alloc (.cells #[.int .u64 0,.string ⟨#[]⟩] 45)) wr) (fun i _=>n + 1 - (intOf i).toNat)
 case atStart=>exact ⟨0,by omega,rfl,Hat.out,HG1.out⟩
 case round =>
  obtain ⟨j,hj,rfl,hat,hbel⟩:=hrel
  have Hat2:=Lib.hid hat
  have Hbel2:=Lib.hid hbel
  clear hat hbel Hat HG1 w1
  rcases Nat.lt_or_ge j (n + 1) with hlt | hge
  ·have hjl : j < (y0 :: m).length:=by rw [List.length_cons,← Hn.out];omega
   have hcell : wr.cell? ⟨b,off + 1 + j,none⟩ = some (.int .u64 ((y0 :: m)[j] : Nat)):=by
    rw [Hbel2.out.cell (p:=⟨b,off + 1 + j,none⟩) (by show b < _;omega),World.cell?_alloc_lt _ _ _ (show b < _ from hbw)]
    have := Hw.out.cell (i:=1 + j) (by rw [Hlen.out];omega)
    rw [← Nat.add_assoc] at this
    rw [this]
    have h3 : (B8 l)[1 + j]? = (y0 :: m)[j]?:=by rw [Hl.out,Nat.add_comm];rfl
    rw [List.getElem?_eq_getElem (by rw [Hlen.out];omega),List.getElem?_eq_getElem hjl] at h3
    injection h3 with h3
    rw [h3]
   obtain ⟨x,hx⟩ : ∃ x,x = (y0 :: m)[j]:=⟨_,rfl⟩
   rw [← hx] at hcell
   have hxW : x < 18446744073709551616:=by
    rw [hx]
    refine Y4 Hd.out _ ?_
    rw [Hl.out]
    exact List.mem_cons_of_mem _ (List.getElem_mem _)
   have Hx:=Lib.hid hx
   clear hx
   have hdj : decide ((j : Int) < (n : Int) + 1) = true:=by simp;omega
   go_wp2_with fail
   obtain ⟨wo,hwo⟩ : ∃ wo : World,wo = wr:=⟨_,rfl⟩
   go_loopw [32] (fun i wi=>∃ k : Nat,k ≤ 8 ∧ i = .int .i64 k ∧ Lib.BuilderAt 242 5 (w.heap.size + 1) (w.heap.size + 1) (.pointer (some ⟨w.heap.size + 1,0,none⟩)) (Lib.byteCells (((y0 :: m).take j).flatMap (Lib.leBytes 8) ++ (Lib.leBytes 8 x).take k)) wi ∧ Below (w.heap.size + 1) (w.alloc (.cells #[.int .u64 0,.string ⟨#[]⟩] 45)) wi) (fun i _=>8 - (intOf i).toNat)
   case atStart=>exact ⟨0,by omega,rfl,by simpa using Hat2.out,Hbel2.out⟩
   case round =>
    obtain ⟨k,hk,rfl,hat,hbel⟩:=hrel
    have Hat3:=Lib.hid hat
    have Hbel3:=Lib.hid hbel
    clear hat hbel
    rcases Nat.lt_or_ge k 8 with hk8 | hk8
    ·have hlb : (Lib.byteCells (((y0 :: m).take j).flatMap (Lib.leBytes 8) ++ (Lib.leBytes 8 x).take k)).length + 1 ≤ 140737488355328:=by
      have e1 : (Lib.byteCells (((y0 :: m).take j).flatMap (Lib.leBytes 8) ++ (Lib.leBytes 8 x).take k)).length = (((y0 :: m).take j).flatMap (Lib.leBytes 8) ++ (Lib.leBytes 8 x).take k).length:=by simp [Lib.byteCells]
      rw [e1,List.length_append,A3G,List.length_take,List.length_take]
      omega
     have hsz:=Hbel3.out.size
     simp only [E9] at hsz
     go_wp2_with fail
     ((with_reducible refine (A8m _ _ _ _ _ Hat3.out hlb hsz).mono ?_);rintro e w2 ⟨rfl,hat4,hbel4⟩)
     have Hat4:=Lib.hid hat4
     have Hbel4:=Lib.hid hbel4
     clear hat4 hbel4 hlb hsz
     go_wp2_with fail
     go_roundw
     case rel =>
      refine ⟨k + 1,by omega,by go_num,?_,Hbel3.out.trans Hbel4.out⟩
      have e2 : ((x : Int) / 2 ^ (8 * k) % 256) = (((x / 256 ^ k % 256).toUInt8.toNat : Nat) : Int):=by
       have h1 : (x / 256 ^ k % 256).toUInt8.toNat = x / 256 ^ k % 256:=by
        simp only [Nat.toUInt8_eq,UInt8.toNat_ofNat']
        omega
       rw [h1,show (256 : Nat) = 2 ^ 8 from rfl,← Nat.pow_mul]
       simp
      have h5:=Hat4.out
      rw [e2,B3M,List.append_assoc] at h5
      have e3 : (Lib.leBytes 8 x).take k ++ [(x / 256 ^ k % 256).toUInt8] = (Lib.leBytes 8 x).take (k + 1):=by
       have h6:=A4q x 8 k hk8
       obtain ⟨h7,h8⟩:=List.getElem?_eq_some_iff.1 h6
       rw [List.take_succ_eq_append_getElem h7,h8]
      rw [e3] at h5
      exact h5
     case measure=>simp [intOf];omega
    ·obtain rfl : k = 8:=by omega
     go_wp2_with fail
     go_roundw
     case rel =>
      refine ⟨j + 1,by omega,by go_num,?_,Hbel3.out⟩
      have h5:=Hat3.out
      rw [List.take_of_length_le (l:=Lib.leBytes 8 x) (i:=8) (by rw [A2L];exact Nat.le_refl _)] at h5
      have e4 : ((y0 :: m).take (j + 1)).flatMap (Lib.leBytes 8) = ((y0 :: m).take j).flatMap (Lib.leBytes 8) ++ Lib.leBytes 8 x:=by
       rw [List.take_succ_eq_append_getElem hjl,List.flatMap_append,Hx.out]
       simp
      rw [e4]
      exact h5
     case measure=>simp [intOf];omega
  ·obtain rfl : j = n + 1:=by omega
   have hbox : Blk wr w.heap.size 45 #[.int .u64 0,.string ⟨#[]⟩]:=(Hbel2.out.block w.heap.size (by omega)).trans (Blk.new w 45 _)
   have hcell : wr.cell? ⟨b,off,none⟩ = some (.int .u64 (x0 : Nat)):=by
    rw [Hbel2.out.cell (p:=⟨b,off,none⟩) (by show b < _;omega),World.cell?_alloc_lt _ _ _ (show b < _ from hbw)]
    have := Hw.out.cell (i:=0) (by rw [Hlen.out];omega)
    rw [Nat.add_zero] at this
    rw [this]
    have h3 : (B8 l)[0]? = some x0:=by rw [Hl.out];rfl
    obtain ⟨h4,h5⟩:=List.getElem?_eq_some_iff.1 h3
    rw [h5]
   have hstr : Calls Tryz.prog 187 #[.pointer (some ⟨w.heap.size + 1,0,none⟩)] wr.drew fun e w'=>e = .returned (.string (A8 (val W64 l))) ∧ Below (w.heap.size + 1) wr w':=by
    have hsz:=Hbel2.out.size
    simp only [E9] at hsz
    have hat:=Hat2.out
    rw [List.take_of_length_le (by rw [List.length_cons,← Hn.out];exact Nat.le_refl _)] at hat
    refine (Tryz.Builder_String_any (w.heap.size + 1) (w.heap.size + 1) _ wr.drew (.inr hat.drew) hsz).mono fun e w' ⟨he,hb⟩=>⟨?_,((Below.refl _ wr).drew).trans hb⟩
    rw [he]
    have h6:=Y4 Hd.out
    have h7:=A2m l
    rw [Hl.out] at h6 h7
    have h8:=(A6Q (x:=x0) (l:=y0 :: m) (h6 x0 (by simp)) (fun z hz=>h6 z (by simp [hz])) (by
     rcases h7 with h7 | h7
     ·cases h7
     ·exact .inr (by simpa [List.getLast?_cons_cons] using h7))).2
    rw [← Hl.out,X4] at h8
    unfold A8
    rw [h8]
   have Hstr:=Lib.hid hstr
   have hlo : B1 (val W64 l) = (x0 : Nat):=by
    have h6:=Y4 Hd.out
    have h7:=A2m l
    rw [Hl.out] at h6 h7
    have h8:=(A6Q (x:=x0) (l:=y0 :: m) (h6 x0 (by simp)) (fun z hz=>h6 z (by simp [hz])) (by
     rcases h7 with h7 | h7
     ·cases h7
     ·exact .inr (by simpa [List.getLast?_cons_cons] using h7))).1
    rw [← Hl.out,X4] at h8
    exact h8
   have Hlo:=Lib.hid hlo
   clear hstr hlo
   have hidx : (0 : Int) < (n : Int) + 2:=by omega
   go_wp2_with fail
   go_region_held3 (fun w'=>w'.cell? ⟨b,off,none⟩ = some (.int .u64 (x0 : Nat))) (first | exact (hb5.cell (p:=⟨b,off,none⟩) (by show b < _;omega)).trans hcell | exact hcell | exact (World.cell?_setCell_far _ _ _ _ (by show w.heap.size ≠ b;omega)).trans ((World.cell?_setCell_far _ _ _ _ (by show w.heap.size ≠ b;omega)).trans ((hb5.cell (p:=⟨b,off,none⟩) (by show b < _;omega)).trans hcell)))
    (first | (go_at_call 187;(refine Hstr.out.mono ?_);rintro e w5 ⟨rfl,hb5⟩;have hbx5 : Blk w5 w.heap.size 45 #[.int .u64 0,.string ⟨#[]⟩]:=(hb5.block w.heap.size (by omega)).trans hbox;have hq:=hbx5.cell;have hqf:=hbx5.frozen))
   go_wp2_with fail
   have h6:=((hbx5.set_ 0 (.int .u64 (x0 : Nat))).set_ 1 (.string (A8 (val W64 l)))).cell
   simp only [List.setIfInBounds_toArray,List.set_cons_zero,List.set_cons_succ] at h6
   refine bodyPost_ret (v:=.agg #[.int .u64 (x0 : Nat),.string (A8 (val W64 l))]) (by simp [results,Tryz.results156,go_sem,h6]) rfl ⟨?_,?_⟩
   ·rw [A5,Hlo.out]
   ·have h1 : A3 w wr:=((Below.refl w.heap.size w).alloc (Nat.le_refl _) _).trans (Hbel2.out.mono (by omega))
    have h2 : A3 w w5:=Below.trans h1 (hb5.mono (by omega))
    exact (h2.setCell (p:=⟨w.heap.size,0,none⟩) (Nat.le_refl _) _).setCell (p:=⟨w.heap.size,1,none⟩) (Nat.le_refl _) _
theorem A9w (A : Option Addr) (l : List Nat) (c : Nat) (w : World) (h : Rd w A l) (hc : l.length ≤ c) (hcm : c ≤ 9223372036854775807) (h0 : B8 l = []) :
  Calls Tryz.prog 156 #[.slice A l.length c] w fun e w'=>e = .returned (A5 0) ∧ A3 w w':=by
 have htrim : ∀ W : World,A3 w W → Calls Tryz.prog 184 #[.slice A l.length c] W fun e w'=>e = .returned (.slice A 0 c) ∧ W = w':=by
  intro W hg
  have := A2a A l c W (h.grow hg) hc (by omega)
  rw [h0] at this
  exact this
 have Htrim:=Lib.hid htrim
 clear htrim h0 h
 go_enter Tryz.func156,Tryz.ntmps156
 go_wp2_with (go_at_call 184;((with_reducible refine (Htrim.out _ (A3.alloc _ _)).mono ?_);rintro e w1 ⟨rfl,rfl⟩))
 exact bodyPost_ret (v:=.agg #[.int .u64 0,.string ⟨#[]⟩]) (by simp [results,Tryz.results156,go_sem]) rfl ⟨rfl,A3.alloc _ _⟩
theorem A88 (A : Option Addr) (l : List Nat) (c : Nat) (w : World) (h : Rd w A l) (hc : l.length ≤ c) (hcm : c ≤ 9223372036854775807) (x : Nat) (h0 : B8 l = [x]) :
  Calls Tryz.prog 156 #[.slice A l.length c] w fun e w'=>e = .returned (.agg #[.int .u64 (x : Nat),.string ⟨#[]⟩]) ∧ A3 w w':=by
 have htrim : ∀ W : World,A3 w W → Calls Tryz.prog 184 #[.slice A l.length c] W fun e w'=>e = .returned (.slice A 1 c) ∧ W = w':=by
  intro W hg
  have := A2a A l c W (h.grow hg) hc (by omega)
  rw [h0] at this
  exact this
 have hne : l ≠ []:=by rintro rfl;cases h0
 obtain ⟨b,off,hA,hw⟩:=h hne
 have hlt:=hw.lt
 have hcell : w.cell? ⟨b,off,none⟩ = some (.int .u64 (x : Nat)):=by
  have h2 : Wds w b off (B8 l):=by rw [A0k];exact hw.take _
  rw [h0] at h2
  exact h2.cell (i:=0) (by simp)
 subst hA
 have hcell2 : (w.alloc (.cells #[.int .u64 0,.string ⟨#[]⟩] 45)).cell? ⟨b,off,none⟩ = some (.int .u64 (x : Nat)):=(World.cell?_alloc_lt _ _ _ hlt).trans hcell
 have Htrim:=Lib.hid htrim
 clear htrim h0 h hw hne
 go_enter Tryz.func156,Tryz.ntmps156
 go_wp2_with (go_at_call 184;((with_reducible refine (Htrim.out _ (A3.alloc _ _)).mono ?_);rintro e w1 ⟨rfl,rfl⟩))
 exact bodyPost_ret (v:=.agg #[.int .u64 (x : Nat),.string ⟨#[]⟩]) (by simp [results,Tryz.results156,go_sem]) rfl ⟨rfl,A3.alloc _ _⟩
theorem P7 (A : Option Addr) (l : List Nat) (c : Nat) (w : World) (h : Rd w A l) (hd : Dig W64 l) (hc : l.length ≤ c) (hm : l.length ≤ 34359738368) (hcm : c ≤ 9223372036854775807) :
  Calls Tryz.prog 156 #[.slice A l.length c] w fun e w'=>e = .returned (A5 (val W64 l)) ∧ A3 w w':=by
 cases ht : B8 l with
 | nil =>
  have : val W64 l = 0:=by rw [← X4,ht];rfl
  rw [this]
  exact A9w A l c w h hc hcm ht
 | cons x m =>
  cases m with
  | nil =>
   have hx : x < W64:=Y4 hd x (by rw [ht];simp)
   have : val W64 l = x:=by rw [← X4,ht];simp [val]
   rw [this,A5,I0 hx,A0Y hx]
   exact A88 A l c w h hc hcm x ht
  | cons y m=>exact B2r A l c w h hd hc hm hcm (by rw [ht];simp)
end Go.Proofs.YtjmopgepnndckaaGreatDoor
