/- Contracts and laws. -/
import Derived.Test.YtjmopgepnndckaaGreatDoorK5
set_option linter.unusedSimpArgs false
set_option linter.unusedVariables false
set_option maxHeartbeats 1000000
set_option maxRecDepth 100000
namespace Go.Proofs.YtjmopgepnndckaaGreatDoor
open Go.RowKit
def Wds (u : World) (b off : Nat) (l : List Nat) : Prop:=∃ cs : Array Value,Blk u b 43 cs ∧ ∀ i x,l[i]? = some x → cs[off + i]? = some (.int .u64 (x : Nat))
theorem Wds.grow {u u' : World} {b off : Nat} {l : List Nat} (hg : A3 u u') (h : Wds u b off l) : Wds u' b off l:=by
 obtain ⟨cs,hb,hc⟩:=h
 exact ⟨cs,hb.grow hg,hc⟩
theorem Wds.lt {u : World} {b off : Nat} {l : List Nat} (h : Wds u b off l) : b < u.heap.size:=by
 obtain ⟨cs,hb,hc⟩:=h
 exact hb.lt
theorem Wds.cell {u : World} {b off : Nat} {l : List Nat} (h : Wds u b off l) {i : Nat} (hi : i < l.length) : u.cell? ⟨b,off + i,none⟩ = some (.int .u64 (l[i] : Nat)):=by
 obtain ⟨cs,hb,hc⟩:=h
 rw [hb.cell]
 exact hc i _ (List.getElem?_eq_getElem hi)
theorem Wds.frozen {u : World} {b off : Nat} {l : List Nat} (h : Wds u b off l) (i : Nat) : u.frozen? ⟨b,i,none⟩ = false:=by
 obtain ⟨cs,hb,hc⟩:=h
 exact hb.frozen i
theorem Wds.set {u : World} {b off : Nat} {l : List Nat} (h : Wds u b off l) (i y : Nat) (hi : i < l.length) : Wds (u.setCell ⟨b,off + i,none⟩ (.int .u64 (y : Nat))) b off (l.set i y):=by
 obtain ⟨cs,hb,hc⟩:=h
 refine ⟨_,hb.set_ (off + i) _,fun j x hj=>?_⟩
 have hin : off + i < cs.size:=(Array.getElem?_eq_some_iff.1 (hc i _ (List.getElem?_eq_getElem hi))).1
 rw [List.getElem?_set] at hj
 by_cases hij : i = j
 ·subst hij
  simp only [if_pos hi,if_true] at hj
  injection hj with hj
  subst hj
  simp [hin]
 ·rw [if_neg hij] at hj
  rw [Array.getElem?_setIfInBounds_ne (by omega)]
  exact hc j x hj
theorem Wds.far {u : World} {b off : Nat} {l : List Nat} (h : Wds u b off l) {p : Addr} (hp : b ≠ p.block) (v : Value) : Wds (u.setCell p v) b off l:=by
 obtain ⟨cs,hb,hc⟩:=h
 exact ⟨cs,hb.far hp v,hc⟩
theorem Wds.take {u : World} {b off : Nat} {l : List Nat} (h : Wds u b off l) (n : Nat) : Wds u b off (l.take n):=by
 obtain ⟨cs,hb,hc⟩:=h
 refine ⟨cs,hb,fun i x hi=>hc i x ?_⟩
 rw [List.getElem?_take] at hi
 split at hi
 ·exact hi
 ·cases hi
theorem Wds.drop {u : World} {b off : Nat} {l : List Nat} (h : Wds u b off l) (n : Nat) : Wds u b (off + n) (l.drop n):=by
 obtain ⟨cs,hb,hc⟩:=h
 refine ⟨cs,hb,fun i x hi=>?_⟩
 rw [List.getElem?_drop] at hi
 rw [Nat.add_assoc]
 exact hc _ x hi
def Rd (u : World) (A : Option Addr) (l : List Nat) : Prop:=l ≠ [] → ∃ b off,A = some ⟨b,off,none⟩ ∧ Wds u b off l
theorem Rd.nil (u : World) (A : Option Addr) : Rd u A []:=fun h=>absurd rfl h
theorem Rd.grow {u u' : World} {A : Option Addr} {l : List Nat} (hg : A3 u u') (h : Rd u A l) : Rd u' A l:=fun hn=>by
 obtain ⟨b,off,e,hw⟩:=h hn
 exact ⟨b,off,e,hw.grow hg⟩
theorem Rd.take {u : World} {A : Option Addr} {l : List Nat} (h : Rd u A l) (n : Nat) : Rd u A (l.take n):=fun hn=>by
 obtain ⟨b,off,e,hw⟩:=h (fun h0=>hn (by rw [h0];simp))
 exact ⟨b,off,e,hw.take n⟩
def B8 : List Nat → List Nat
 | []=>[]
 | x :: l=>match B8 l with
  | []=>if x = 0 then [] else [x]
  | y :: m=>x :: y :: m
theorem A4j (l : List Nat) : B8 (l ++ [0]) = B8 l:=by
 induction l with
 | nil=>rfl
 | cons x l ih=>simp only [List.cons_append,B8,ih]
theorem A4D (l : List Nat) {x : Nat} (hx : x ≠ 0) : B8 (l ++ [x]) = l ++ [x]:=by
 induction l with
 | nil=>simp [B8,hx]
 | cons y l ih =>
  simp only [List.cons_append,B8,ih]
  cases h : l ++ [x] with
  | nil=>simp at h
  | cons z m=>rfl
theorem A0f (l : List Nat) : (B8 l).length ≤ l.length:=by
 induction l with
 | nil=>simp [B8]
 | cons x l ih =>
  simp only [B8]
  split
  ·split <;> simp
  ·rename_i h;rw [h] at ih;simp at ih ⊢;omega
theorem A0k (l : List Nat) : B8 l = l.take (B8 l).length:=by
 induction l with
 | nil=>rfl
 | cons x l ih =>
  simp only [B8]
  split
  ·split <;> simp
  ·rename_i y m h
   rw [h] at ih
   simp only [List.length_cons,List.take_succ_cons] at ih ⊢
   rw [← ih]
theorem X4 (B : Nat) (l : List Nat) : val B (B8 l) = val B l:=by
 induction l with
 | nil=>rfl
 | cons x l ih =>
  simp only [B8]
  split
  ·rename_i h
   rw [h] at ih
   simp only [A30] at ih
   split
   ·rename_i h0;subst h0;simp [val,← ih]
   ·simp [val,← ih]
  ·rename_i h;rw [h] at ih;rw [I5,ih,I5]
theorem A2m (l : List Nat) : N4 (B8 l):=by
 induction l with
 | nil=>exact .inl rfl
 | cons x l ih =>
  simp only [B8]
  split
  ·split
   ·exact .inl rfl
   ·rename_i h0;exact .inr (by simpa using h0)
  ·rename_i h
   rw [h] at ih
   rcases ih with ih | ih
   ·cases ih
   ·exact .inr (by simpa [List.getLast?_cons_cons] using ih)
theorem Y4 {B : Nat} {l : List Nat} (h : Dig B l) : Dig B (B8 l):=fun x hx=>by
 rw [A0k] at hx
 exact h x (List.mem_of_mem_take hx)
theorem A3J {B : Nat} (hB : 2 ≤ B) {l : List Nat} (h : Dig B l) : B8 l = A7 B (val B l):=by
 rw [← X4 B l,A2N hB _ (Y4 h) (A2m l)]
theorem A2a (A : Option Addr) (l : List Nat) (c : Nat) (w : World) (h : Rd w A l) (hc : l.length ≤ c) (hm : c ≤ 9223372036854775807) :
  Calls Tryz.prog 184 #[.slice A l.length c] w fun e w'=>e = .returned (.slice A (B8 l).length c) ∧ w = w':=by
 have H:=Lib.hid h
 clear h
 obtain ⟨n,hn⟩ : ∃ n,n = l.length:=⟨_,rfl⟩
 rw [← hn]
 rw [← hn] at hc
 have Hn:=Lib.hid hn
 clear hn
 go_enter Tryz.func184,Tryz.ntmps184
 go_wp2
 go_loop [0] (fun s=>∃ k : Nat,k ≤ n ∧ s = .slice A k c ∧ B8 (l.take k) = B8 l) (fun s=>match s with | .slice _ k _=>k | _=>0)
 case atStart=>exact ⟨n,Nat.le_refl _,rfl,by rw [List.take_of_length_le (by rw [Hn.out];exact Nat.le_refl _)]⟩
 case round =>
  obtain ⟨k,hk,rfl,ht⟩:=hrel
  have Ht:=Lib.hid ht
  clear ht
  rcases Nat.eq_zero_or_pos k with rfl | hpos
  ·go_wp2
   go_ret
   refine ⟨?_,rfl⟩
   have : B8 l = []:=by rw [← Ht.out];rfl
   rw [this]
   rfl
  ·have hkl : k - 1 < l.length:=by rw [← Hn.out];omega
   obtain ⟨b,off,rfl,hw⟩:=H.out (by rintro rfl;simp at hkl)
   have hcell:=hw.cell hkl
   have Hw:=Lib.hid hw
   clear hw
   have hsn : l.take k = l.take (k - 1) ++ [l[k - 1]]:=by
    have := List.take_succ_eq_append_getElem hkl
    rw [show k - 1 + 1 = k by omega] at this
    exact this
   have Hsn:=Lib.hid hsn
   clear hsn
   obtain ⟨x,hx⟩ : ∃ x,x = l[k - 1]:=⟨_,rfl⟩
   rw [← hx] at hcell
   have Hx:=Lib.hid hx
   clear hx
   have hidx : (0 : Int) ≤ (k : Int) - 1:=by omega
   by_cases h0 : x = 0
   ·subst h0
    go_wp2
    go_round
    case rel=>exact ⟨k - 1,by omega,by go_num,by rw [← Ht.out,Hsn.out,← Hx.out,A4j]⟩
    case measure=>simp;omega
   ·have hb : ((x : Int) == 0) = false:=by simpa using h0
    go_wp2
    go_ret
    refine ⟨?_,rfl⟩
    have : B8 l = l.take k:=by rw [← Ht.out,Hsn.out,A4D _ (by rw [← Hx.out];exact h0)]
    rw [this,List.length_take,Nat.min_eq_left (by omega)]
    rfl
def B5 (l : List Nat) : Array Value:=(l.map fun x=>Value.int .u64 (x : Nat)).toArray
theorem Q8 (l : List Nat) (i : Nat) : (B5 l)[i]? = (l[i]?).map fun x=>Value.int .u64 (x : Nat):=by
 unfold B5;simp
def B6 (u : World) (b : Nat) (l : List Nat) : Prop:=Blk u b 43 (B5 l)
theorem B6.wds {u : World} {b : Nat} {l : List Nat} (h : B6 u b l) : Wds u b 0 l:=by
 refine ⟨_,h,fun i x hi=>?_⟩
 rw [Nat.zero_add,Q8,hi]
 rfl
theorem B6.grow {u u' : World} {b : Nat} {l : List Nat} (hg : A3 u u') (h : B6 u b l) : B6 u' b l:=Blk.grow hg h
theorem B6.cell {u : World} {b : Nat} {l : List Nat} (h : B6 u b l) (i : Nat) : u.cell? ⟨b,i,none⟩ = (l[i]?).map fun x=>Value.int .u64 (x : Nat):=by
 rw [Blk.cell h,Q8]
theorem B6.frozen {u : World} {b : Nat} {l : List Nat} (h : B6 u b l) (i : Nat) : u.frozen? ⟨b,i,none⟩ = false:=Blk.frozen h i
theorem A0Z (l : List Nat) (i y : Nat) : (B5 l).setIfInBounds i (.int .u64 (y : Nat)) = B5 (l.set i y):=by
 unfold B5
 rw [List.setIfInBounds_toArray,List.map_set]
theorem B6.set {u : World} {b : Nat} {l : List Nat} (h : B6 u b l) (i y : Nat) : B6 (u.setCell ⟨b,i,none⟩ (.int .u64 (y : Nat))) b (l.set i y):=by
 have := Blk.set_ h i (.int .u64 (y : Nat))
 rw [A0Z] at this
 exact this
theorem B6.far {u : World} {b : Nat} {l : List Nat} (h : B6 u b l) {p : Addr} (hp : b ≠ p.block) (v : Value) : B6 (u.setCell p v) b l:=Blk.far h hp v
theorem B6.lt {u : World} {b : Nat} {l : List Nat} (h : B6 u b l) : b < u.heap.size:=Blk.lt h
theorem A4C : (Tryz.prog.info? 43).map (fun i=>(i.zero,i.size,i.bytes)) = some (some (.int .u64 0),1,8):=by kernel_rfl
theorem A8l (n : Nat) : madeCells (Value.int .u64 0).cells (n * 1) = B5 (List.replicate n 0):=by
 unfold B5 madeCells
 refine Array.ext (by simp) fun i h1 h2=>?_
 simp [Value.cells,Nat.mod_one]
theorem X6 (n : Nat) (hn : n ≤ 1099511627776) (x : Int) (hx : x = n) (W : World) : (Instr.makeSlice 211 (.int .i64 x) (.int .i64 x)).run Tryz.prog W =
  .ok (.slice (some ⟨W.heap.size,0,none⟩) n n) (W.alloc (.cells (B5 (List.replicate n 0)) 43)):=by
 obtain ⟨i0,hi0,hz0,hz1,hz2⟩:=info_parts A4C
 have hr:=run_make (P:=Tryz.prog) W 211 43 i0 (.int .u64 0) Tryz.underlying211 hi0 hz0 .i64 .i64 n n (by omega) (by omega) (by rw [hz2];omega) (by omega)
 rw [hx]
 rw [hr,hz1]
 simp only [Int.toNat_natCast]
 rw [A8l]
def V9 (l : List Nat) (k : Nat) : List Nat:=l.take k ++ List.replicate (l.length - k) 0
theorem B2R (l : List Nat) {k : Nat} (h : k < l.length) : (V9 l k)[k]? = some 0:=by
 unfold V9
 rw [List.getElem?_append_right (by simp;omega),List.getElem?_replicate,if_pos (by simp;omega)]
theorem B2o (l : List Nat) {k : Nat} (h : k < l.length) : (V9 l k).set k l[k] = V9 l (k + 1):=by
 unfold V9
 rw [List.set_append_right _ _ (by simp;omega),List.take_succ_eq_append_getElem h,List.append_assoc]
 congr 1
 rw [List.length_take,Nat.min_eq_left (by omega),Nat.sub_self]
 obtain ⟨m,hm⟩ : ∃ m,l.length - k = m + 1:=⟨l.length - k - 1,by omega⟩
 rw [hm,show l.length - (k + 1) = m by omega]
 rfl
theorem A8a (l : List Nat) : V9 l l.length = l:=by
 unfold V9;simp
def R5 (a i : Nat) : List Nat:=V9 (A7 W64 a) i
theorem A71 (a : Nat) (ha : bl a ≤ 1099511627776) (h0 : a ≠ 0) (w : World) :
  Calls Tryz.prog 167 #[A5 a] w fun e w'=>∃ b,w.heap.size ≤ b ∧ e = .returned (.slice (some ⟨b,0,none⟩) (A7 W64 a).length (A7 W64 a).length) ∧ B6 w' b (A7 W64 a) ∧ A3 w w':=by
 obtain ⟨m,hm⟩ : ∃ m,m = (B7 a).length:=⟨_,rfl⟩
 have hub:=A4f a
 rw [← hm] at hub
 have hsz : (A8 a).size = 8 * m:=by rw [U6,hm]
 have hq : ((A8 a).size : Int) / 8 = (m : Int):=by omega
 have hmm : m ≤ 1099511627776:=by omega
 have hmk:=X6 (m + 1) (by omega) (1 + (m : Int)) (by omega)
 have hlen : (A7 W64 a).length = m + 1:=by rw [A2W h0,List.length_cons,hm]
 have Hlen:=Lib.hid hlen
 have Hm:=Lib.hid hm
 have Hsz:=Lib.hid hsz
 have hszl : (A8 a).size ≤ 8796093022208:=by omega
 clear hub hlen hm
 have hT : ∃ b1 b2 : Bool,(A8 a).toList.isEmpty = b1 ∧ (B1 a == 0) = b2 ∧ (b1 && b2) = false:=by
  refine ⟨_,_,rfl,rfl,?_⟩
  rw [J3,Bool.and_eq_false_iff]
  by_cases hs : a < W64
  ·right
   rw [I0 hs]
   simpa using h0
  ·left
   simpa using hs
 obtain ⟨b1,b2,hb1,hb2,hb12⟩:=hT
 have fin : ∀ wr : World,B6 wr (w.heap.size + 1) (R5 a (m + 1)) → A3 w wr → ∃ b,w.heap.size ≤ b ∧ Ending.returned (.slice (some ⟨w.heap.size + 1,0,none⟩) (m + 1) (m + 1)) = .returned (.slice (some ⟨b,0,none⟩) (A7 W64 a).length (A7 W64 a).length) ∧ B6 wr b (A7 W64 a) ∧ A3 w wr:=by
  intro wr h1 h2
  refine ⟨w.heap.size + 1,by omega,by rw [Hlen.out],?_,h2⟩
  have : R5 a (m + 1) = A7 W64 a:=by
   unfold R5
   rw [← Hlen.out,A8a]
  rw [← this]
  exact h1
 have Hfin:=Lib.hid fin
 clear fin
 have start : ∀ W : World,B6 (W.alloc (.cells ((B5 (List.replicate (m + 1) 0)).setIfInBounds 0 (.int .u64 (B1 a))) 43)) W.heap.size (R5 a 1):=by
  intro W
  have h1 : (B5 (List.replicate (m + 1) 0)).setIfInBounds 0 (.int .u64 (B1 a)) = B5 (R5 a 1):=by
   show (B5 (List.replicate (m + 1) 0)).setIfInBounds 0 (.int .u64 ((a % W64 : Nat) : Int)) = _
   rw [A0Z]
   congr 1
   unfold R5 V9
   rw [Hlen.out,A2W h0]
   rfl
  rw [h1]
  exact Blk.new W 43 _
 have Hstart:=Lib.hid start
 clear start
 cases b1 <;> cases b2 <;> first | (exact absurd hb12 (by decide)) | skip
 all_goals
  clear hb12
  go_enter Tryz.func167,Tryz.ntmps167
  go_wp2
  clear hmk
  go_loopw [4] (fun i wr=>∃ k : Nat,1 ≤ k ∧ k ≤ m + 1 ∧ i = .int .i64 k ∧ B6 wr (w.heap.size + 1) (R5 a k) ∧ Blk wr w.heap.size 45 #[.int .u64 (B1 a),.string (A8 a)] ∧ A3 w wr) (fun i _=>m + 1 - (intOf i).toNat)
  case atStart=>exact ⟨1,by omega,by omega,rfl,by simpa using Hstart.out (w.alloc (.cells #[.int .u64 (B1 a),.string (A8 a)] 45)),(Blk.new w 45 _).grow (A3.alloc _ _),(A3.alloc _ _).trans (A3.alloc _ _)⟩
  case round =>
   obtain ⟨k,hk1,hk2,rfl,hrow,hbox,hG⟩:=hrel
   rcases Nat.lt_or_ge k (m + 1) with hlt | hge
   ·have hbc:=hbox.cell
    have hiu : k - 1 < (B7 a).length:=by rw [← Hm.out];omega
    have hu : (A7 W64 a)[k]? = some ((B7 a)[k - 1]):=by
     rw [A2W h0]
     obtain ⟨j,rfl⟩ : ∃ j,k = j + 1:=⟨k - 1,by omega⟩
     simp
    obtain ⟨x,hx⟩ : ∃ x,x = (B7 a)[k - 1]:=⟨_,rfl⟩
    rw [← hx] at hu
    have Hx:=Lib.hid hx
    have Hu:=Lib.hid hu
    clear hx hu
    have hl1 : (0 : Int) ≤ (k : Int) - 1:=by omega
    have hl2 : 8 * ((k : Int) - 1) ≤ ((A8 a).size : Int):=by rw [Hsz.out];omega
    have hword : ∀ W : World,Calls Tryz.prog 155 #[.string ((A8 a).extract (8 * (k - 1)) (8 * m))] W fun e w'=>e = .returned (.int .u64 (x : Nat)) ∧ A3 W w':=by
     intro W
     rw [Hx.out,← Hsz.out]
     exact A14 a (k - 1) hiu _ (Lib.extract_to_end _ _) W
    have Hword:=Lib.hid hword
    have Hrow:=Lib.hid hrow
    have Hbox:=Lib.hid hbox
    clear hword hrow hbox
    have hz : (R5 a k)[k]? = some 0:=by
     exact B2R _ (by rw [Hlen.out];exact hlt)
    have Hz:=Lib.hid hz
    clear hz
    have hst : ∀ w1 : World,A3 wr w1 → w1.cell? ⟨w.heap.size + 1,k,none⟩ = some (.int .u64 0) ∧ w1.frozen? ⟨w.heap.size + 1,k,none⟩ = false:=fun w1 hb =>
     ⟨(((Hrow.out).grow hb).cell k).trans (by rw [Hz.out];rfl),((Hrow.out).grow hb).frozen k⟩
    have Hst:=Lib.hid hst
    clear hst
    go_wp2_with (go_at_call 155;((with_reducible refine (Hword.out _).mono ?_);rintro e w1 ⟨rfl,hb⟩;obtain ⟨hc1,hf1⟩:=Hst.out w1 hb))
    go_roundw
    case rel =>
     refine ⟨k + 1,by omega,by omega,by go_num,?_,?_,?_⟩
     ·have := (Hrow.out.grow hb).set k x
      have e : (R5 a k).set k x = R5 a (k + 1):=by
       unfold R5
       rw [← B2o _ (by rw [Hlen.out];exact hlt)]
       congr 1
       have := List.getElem?_eq_some_iff.1 Hu.out
       exact this.2.symm
      rw [e] at this
      exact this
     ·exact (Hbox.out.grow hb).far (by simp) _
     ·exact (hG.trans hb).setCell (by simp) _
    case measure=>simp [intOf];omega
   ·obtain rfl : k = m + 1:=by omega
    go_wp2
    go_ret
    exact Hfin.out _ hrow hG
theorem B3B (w : World) : Calls Tryz.prog 167 #[A5 0] w fun e w'=>e = .returned (.slice none 0 0) ∧ A3 w w':=by
 have hE : (A8 0).toList.isEmpty = true:=by rw [J3];exact decide_eq_true B2
 have hZ : (B1 0 == 0) = true:=rfl
 go_enter Tryz.func167,Tryz.ntmps167
 go_wp2
 go_ret
 exact ⟨rfl,A3.alloc _ _⟩
def Own (w u : World) (A : Option Addr) (l : List Nat) : Prop:=l ≠ [] → ∃ b,w.heap.size ≤ b ∧ A = some ⟨b,0,none⟩ ∧ B6 u b l
theorem Own.grow {w u u' : World} {A : Option Addr} {l : List Nat} (hg : A3 u u') (h : Own w u A l) : Own w u' A l:=fun hn=>by
 obtain ⟨b,hb,e,hw⟩:=h hn
 exact ⟨b,hb,e,hw.grow hg⟩
theorem Own.rd {w u : World} {A : Option Addr} {l : List Nat} (h : Own w u A l) : Rd u A l:=fun hn=>by
 obtain ⟨b,hb,e,hw⟩:=h hn
 exact ⟨b,0,e,hw.wds⟩
theorem Own.since {w v u : World} {A : Option Addr} {l : List Nat} (hg : A3 w v) (h : Own v u A l) : Own w u A l:=fun hn=>by
 obtain ⟨b,hb,e,hw⟩:=h hn
 exact ⟨b,Nat.le_trans hg.size hb,e,hw⟩
theorem W7 (a : Nat) (ha : bl a ≤ 1099511627776) (w : World) :
  Calls Tryz.prog 167 #[A5 a] w fun e w'=>∃ A,e = .returned (.slice A (A7 W64 a).length (A7 W64 a).length) ∧ Own w w' A (A7 W64 a) ∧ A3 w w':=by
 by_cases h0 : a = 0
 ·subst h0
  exact (B3B w).mono fun e w' ⟨he,hg⟩=>⟨none,he,fun h=>absurd rfl h,hg⟩
 ·exact (A71 a ha h0 w).mono fun e w' ⟨b,hb,he,hr,hg⟩=>⟨_,he,fun _=>⟨b,hb,rfl,hr⟩,hg⟩
end Go.Proofs.YtjmopgepnndckaaGreatDoor
