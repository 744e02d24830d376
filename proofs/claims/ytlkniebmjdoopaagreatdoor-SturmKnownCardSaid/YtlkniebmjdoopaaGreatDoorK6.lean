/- Contracts and laws. -/
import Derived.Test.YtlkniebmjdoopaaGreatDoorK5
import Derived.Deep.RegionHeld3
set_option linter.unusedSimpArgs false
set_option linter.unusedVariables false
set_option maxHeartbeats 1000000
set_option maxRecDepth 100000
namespace Go.Proofs.YtlkniebmjdoopaaGreatDoor
open Go.RowKit
def Wds (u : World) (b off : Nat) (l : List Nat) : Prop:=∃ cs : Array Value,Blk u b 33 cs ∧ ∀ i x,l[i]? = some x → cs[off + i]? = some (.int .u64 (x : Nat))
theorem Wds.grow {u u' : World} {b off : Nat} {l : List Nat} (hg : A3 u u') (h : Wds u b off l) : Wds u' b off l:=by
 obtain ⟨cs,hb,hc⟩:=h
 exact ⟨cs,hb.grow hg,hc⟩
theorem Wds.lt {u : World} {b off : Nat} {l : List Nat} (h : Wds u b off l) : b < u.heap.size:=by
 obtain ⟨cs,hb,hc⟩:=h
 exact hb.lt
theorem Wds.cell {u : World} {b off : Nat} {l : List Nat} (h : Wds u b off l) {i : Nat} (hi : i < l.length) : u.cell? ⟨b,off + i,none⟩ = some (.int .u64 (l[i] : Nat)):=by
 obtain ⟨cs,hb,hc⟩:=h
 rw [hb.cell]
 exact hc i _ (List.getElem?_eq_getElem hi)
theorem Wds.frozen {u : World} {b off : Nat} {l : List Nat} (h : Wds u b off l) (i : Nat) : u.frozen? ⟨b,i,none⟩ = false:=by
 obtain ⟨cs,hb,hc⟩:=h
 exact hb.frozen i
theorem Wds.set {u : World} {b off : Nat} {l : List Nat} (h : Wds u b off l) (i y : Nat) (hi : i < l.length) : Wds (u.setCell ⟨b,off + i,none⟩ (.int .u64 (y : Nat))) b off (l.set i y):=by
 obtain ⟨cs,hb,hc⟩:=h
 refine ⟨_,hb.set_ (off + i) _,fun j x hj=>?_⟩
 have hin : off + i < cs.size:=(Array.getElem?_eq_some_iff.1 (hc i _ (List.getElem?_eq_getElem hi))).1
 rw [List.getElem?_set] at hj
 by_cases hij : i = j
 ·subst hij
  simp only [if_pos hi,if_true] at hj
  injection hj with hj
  subst hj
  simp [hin]
 ·rw [if_neg hij] at hj
  rw [Array.getElem?_setIfInBounds_ne (by omega)]
  exact hc j x hj
theorem Wds.far {u : World} {b off : Nat} {l : List Nat} (h : Wds u b off l) {p : Addr} (hp : b ≠ p.block) (v : Value) : Wds (u.setCell p v) b off l:=by
 obtain ⟨cs,hb,hc⟩:=h
 exact ⟨cs,hb.far hp v,hc⟩
theorem Wds.take {u : World} {b off : Nat} {l : List Nat} (h : Wds u b off l) (n : Nat) : Wds u b off (l.take n):=by
 obtain ⟨cs,hb,hc⟩:=h
 refine ⟨cs,hb,fun i x hi=>hc i x ?_⟩
 rw [List.getElem?_take] at hi
 split at hi
 ·exact hi
 ·cases hi
theorem Wds.drop {u : World} {b off : Nat} {l : List Nat} (h : Wds u b off l) (n : Nat) : Wds u b (off + n) (l.drop n):=by
 obtain ⟨cs,hb,hc⟩:=h
 refine ⟨cs,hb,fun i x hi=>?_⟩
 rw [List.getElem?_drop] at hi
 rw [Nat.add_assoc]
 exact hc _ x hi
def Rd (u : World) (A : Option Addr) (l : List Nat) : Prop:=l ≠ [] → ∃ b off,A = some ⟨b,off,none⟩ ∧ Wds u b off l
theorem Rd.nil (u : World) (A : Option Addr) : Rd u A []:=fun h=>absurd rfl h
theorem Rd.grow {u u' : World} {A : Option Addr} {l : List Nat} (hg : A3 u u') (h : Rd u A l) : Rd u' A l:=fun hn=>by
 obtain ⟨b,off,e,hw⟩:=h hn
 exact ⟨b,off,e,hw.grow hg⟩
theorem Rd.take {u : World} {A : Option Addr} {l : List Nat} (h : Rd u A l) (n : Nat) : Rd u A (l.take n):=fun hn=>by
 obtain ⟨b,off,e,hw⟩:=h (fun h0=>hn (by rw [h0];simp))
 exact ⟨b,off,e,hw.take n⟩
def C6 : List Nat → List Nat
 | []=>[]
 | x :: l=>match C6 l with
  | []=>if x = 0 then [] else [x]
  | y :: m=>x :: y :: m
theorem A6b (l : List Nat) : C6 (l ++ [0]) = C6 l:=by
 induction l with
 | nil=>rfl
 | cons x l ih=>simp only [List.cons_append,C6,ih]
theorem A4j (l : List Nat) {x : Nat} (hx : x ≠ 0) : C6 (l ++ [x]) = l ++ [x]:=by
 induction l with
 | nil=>simp [C6,hx]
 | cons y l ih =>
  simp only [List.cons_append,C6,ih]
  cases h : l ++ [x] with
  | nil=>simp at h
  | cons z m=>rfl
theorem A1w (l : List Nat) : (C6 l).length ≤ l.length:=by
 induction l with
 | nil=>simp [C6]
 | cons x l ih =>
  simp only [C6]
  split
  ·split <;> simp
  ·rename_i h;rw [h] at ih;simp at ih ⊢;omega
theorem A1g (l : List Nat) : C6 l = l.take (C6 l).length:=by
 induction l with
 | nil=>rfl
 | cons x l ih =>
  simp only [C6]
  split
  ·split <;> simp
  ·rename_i y m h
   rw [h] at ih
   simp only [List.length_cons,List.take_succ_cons] at ih ⊢
   rw [← ih]
theorem A0M (B : Nat) (l : List Nat) : val B (C6 l) = val B l:=by
 induction l with
 | nil=>rfl
 | cons x l ih =>
  simp only [C6]
  split
  ·rename_i h
   rw [h] at ih
   simp only [A5s] at ih
   split
   ·rename_i h0;subst h0;simp [val,← ih]
   ·simp [val,← ih]
  ·rename_i h;rw [h] at ih;rw [K3,ih,K3]
theorem A3w (l : List Nat) : Q3 (C6 l):=by
 induction l with
 | nil=>exact .inl rfl
 | cons x l ih =>
  simp only [C6]
  split
  ·split
   ·exact .inl rfl
   ·rename_i h0;exact .inr (by simpa using h0)
  ·rename_i h
   rw [h] at ih
   rcases ih with ih | ih
   ·cases ih
   ·exact .inr (by simpa [List.getLast?_cons_cons] using ih)
theorem A0j {B : Nat} {l : List Nat} (h : Dig B l) : Dig B (C6 l):=fun x hx=>by
 rw [A1g] at hx
 exact h x (List.mem_of_mem_take hx)
theorem A6A {B : Nat} (hB : 2 ≤ B) {l : List Nat} (h : Dig B l) : C6 l = A7 B (val B l):=by
 rw [← A0M B l,A3T hB _ (A0j h) (A3w l)]
theorem A3I (A : Option Addr) (l : List Nat) (c : Nat) (w : World) (h : Rd w A l) (hc : l.length ≤ c) (hm : c ≤ 9223372036854775807) :
  Calls Tryz.prog 165 #[.slice A l.length c] w fun e w'=>e = .returned (.slice A (C6 l).length c) ∧ w = w':=by
 have H:=Lib.hid h
 clear h
 obtain ⟨n,hn⟩ : ∃ n,n = l.length:=⟨_,rfl⟩
 rw [← hn]
 rw [← hn] at hc
 have Hn:=Lib.hid hn
 clear hn
 go_enter Tryz.func165,Tryz.ntmps165
 go_wp2
 go_loop [0] (fun s=>∃ k : Nat,k ≤ n ∧ s = .slice A k c ∧ C6 (l.take k) = C6 l) (fun s=>match s with | .slice _ k _=>k | _=>0)
 case atStart=>exact ⟨n,Nat.le_refl _,rfl,by rw [List.take_of_length_le (by rw [Hn.out];exact Nat.le_refl _)]⟩
 case round =>
  obtain ⟨k,hk,rfl,ht⟩:=hrel
  have Ht:=Lib.hid ht
  clear ht
  rcases Nat.eq_zero_or_pos k with rfl | hpos
  ·go_wp2
   go_ret
   refine ⟨?_,rfl⟩
   have : C6 l = []:=by rw [← Ht.out];rfl
   rw [this]
   rfl
  ·have hkl : k - 1 < l.length:=by rw [← Hn.out];omega
   obtain ⟨b,off,rfl,hw⟩:=H.out (by rintro rfl;simp at hkl)
   have hcell:=hw.cell hkl
   have Hw:=Lib.hid hw
   clear hw
   have hsn : l.take k = l.take (k - 1) ++ [l[k - 1]]:=by
    have := List.take_succ_eq_append_getElem hkl
    rw [show k - 1 + 1 = k by omega] at this
    exact this
   have Hsn:=Lib.hid hsn
   clear hsn
   obtain ⟨x,hx⟩ : ∃ x,x = l[k - 1]:=⟨_,rfl⟩
   rw [← hx] at hcell
   have Hx:=Lib.hid hx
   clear hx
   have hidx : (0 : Int) ≤ (k : Int) - 1:=by omega
   by_cases h0 : x = 0
   ·subst h0
    go_wp2
    go_round
    case rel=>exact ⟨k - 1,by omega,by go_num,by rw [← Ht.out,Hsn.out,← Hx.out,A6b]⟩
    case measure=>simp;omega
   ·have hb : ((x : Int) == 0) = false:=by simpa using h0
    go_wp2
    go_ret
    refine ⟨?_,rfl⟩
    have : C6 l = l.take k:=by rw [← Ht.out,Hsn.out,A4j _ (by rw [← Hx.out];exact h0)]
    rw [this,List.length_take,Nat.min_eq_left (by omega)]
    rfl
def C0 (l : List Nat) : Array Value:=(l.map fun x=>Value.int .u64 (x : Nat)).toArray
theorem T6 (l : List Nat) (i : Nat) : (C0 l)[i]? = (l[i]?).map fun x=>Value.int .u64 (x : Nat):=by
 unfold C0;simp
def C4 (u : World) (b : Nat) (l : List Nat) : Prop:=Blk u b 33 (C0 l)
theorem C4.wds {u : World} {b : Nat} {l : List Nat} (h : C4 u b l) : Wds u b 0 l:=by
 refine ⟨_,h,fun i x hi=>?_⟩
 rw [Nat.zero_add,T6,hi]
 rfl
theorem C4.grow {u u' : World} {b : Nat} {l : List Nat} (hg : A3 u u') (h : C4 u b l) : C4 u' b l:=Blk.grow hg h
theorem C4.cell {u : World} {b : Nat} {l : List Nat} (h : C4 u b l) (i : Nat) : u.cell? ⟨b,i,none⟩ = (l[i]?).map fun x=>Value.int .u64 (x : Nat):=by
 rw [Blk.cell h,T6]
theorem C4.frozen {u : World} {b : Nat} {l : List Nat} (h : C4 u b l) (i : Nat) : u.frozen? ⟨b,i,none⟩ = false:=Blk.frozen h i
theorem A1v (l : List Nat) (i y : Nat) : (C0 l).setIfInBounds i (.int .u64 (y : Nat)) = C0 (l.set i y):=by
 unfold C0
 rw [List.setIfInBounds_toArray,List.map_set]
theorem C4.set {u : World} {b : Nat} {l : List Nat} (h : C4 u b l) (i y : Nat) : C4 (u.setCell ⟨b,i,none⟩ (.int .u64 (y : Nat))) b (l.set i y):=by
 have := Blk.set_ h i (.int .u64 (y : Nat))
 rw [A1v] at this
 exact this
theorem C4.far {u : World} {b : Nat} {l : List Nat} (h : C4 u b l) {p : Addr} (hp : b ≠ p.block) (v : Value) : C4 (u.setCell p v) b l:=Blk.far h hp v
theorem C4.lt {u : World} {b : Nat} {l : List Nat} (h : C4 u b l) : b < u.heap.size:=Blk.lt h
theorem A43 : (Tryz.prog.info? 33).map (fun i=>(i.zero,i.size,i.bytes)) = some (some (.int .u64 0),1,8):=by kernel_rfl
theorem B2J (n : Nat) : madeCells (Value.int .u64 0).cells (n * 1) = C0 (List.replicate n 0):=by
 unfold C0 madeCells
 refine Array.ext (by simp) fun i h1 h2=>?_
 simp [Value.cells,Nat.mod_one]
theorem A0f (n : Nat) (hn : n ≤ 1099511627776) (x : Int) (hx : x = n) (W : World) : (Instr.makeSlice 164 (.int .i64 x) (.int .i64 x)).run Tryz.prog W =
  .ok (.slice (some ⟨W.heap.size,0,none⟩) n n) (W.alloc (.cells (C0 (List.replicate n 0)) 33)):=by
 obtain ⟨i0,hi0,hz0,hz1,hz2⟩:=info_parts A43
 have hr:=run_make (P:=Tryz.prog) W 164 33 i0 (.int .u64 0) Tryz.underlying164 hi0 hz0 .i64 .i64 n n (by omega) (by omega) (by rw [hz2];omega) (by omega)
 rw [hx]
 rw [hr,hz1]
 simp only [Int.toNat_natCast]
 rw [B2J]
def A0B (l : List Nat) (k : Nat) : List Nat:=l.take k ++ List.replicate (l.length - k) 0
theorem B09 (l : List Nat) {k : Nat} (h : k < l.length) : (A0B l k)[k]? = some 0:=by
 unfold A0B
 rw [List.getElem?_append_right (by simp;omega),List.getElem?_replicate,if_pos (by simp;omega)]
theorem B3W (l : List Nat) {k : Nat} (h : k < l.length) : (A0B l k).set k l[k] = A0B l (k + 1):=by
 unfold A0B
 rw [List.set_append_right _ _ (by simp;omega),List.take_succ_eq_append_getElem h,List.append_assoc]
 congr 1
 rw [List.length_take,Nat.min_eq_left (by omega),Nat.sub_self]
 obtain ⟨m,hm⟩ : ∃ m,l.length - k = m + 1:=⟨l.length - k - 1,by omega⟩
 rw [hm,show l.length - (k + 1) = m by omega]
 rfl
theorem B51 (l : List Nat) : A0B l l.length = l:=by
 unfold A0B;simp
def T8 (a i : Nat) : List Nat:=A0B (A7 W64 a) i
theorem B5u (a : Nat) (ha : bl a ≤ 1099511627776) (h0 : a ≠ 0) (w : World) :
  Calls Tryz.prog 126 #[A6 a] w fun e w'=>∃ b,w.heap.size ≤ b ∧ e = .returned (.slice (some ⟨b,0,none⟩) (A7 W64 a).length (A7 W64 a).length) ∧ C4 w' b (A7 W64 a) ∧ A3 w w':=by
 obtain ⟨m,hm⟩ : ∃ m,m = (C3 a).length:=⟨_,rfl⟩
 have hub:=A5i a
 rw [← hm] at hub
 have hsz : (B1 a).size = 8 * m:=by rw [Y4,hm]
 have hq : ((B1 a).size : Int) / 8 = (m : Int):=by omega
 have hmm : m ≤ 1099511627776:=by omega
 have hmk:=A0f (m + 1) (by omega) (1 + (m : Int)) (by omega)
 have hlen : (A7 W64 a).length = m + 1:=by rw [A3v h0,List.length_cons,hm]
 have Hlen:=Lib.hid hlen
 have Hm:=Lib.hid hm
 have Hsz:=Lib.hid hsz
 have hszl : (B1 a).size ≤ 8796093022208:=by omega
 clear hub hlen hm
 have hT : ∃ b1 b2 : Bool,(B1 a).toList.isEmpty = b1 ∧ (B3 a == 0) = b2 ∧ (b1 && b2) = false:=by
  refine ⟨_,_,rfl,rfl,?_⟩
  rw [L7,Bool.and_eq_false_iff]
  by_cases hs : a < W64
  ·right
   rw [J6 hs]
   simpa using h0
  ·left
   simpa using hs
 obtain ⟨b1,b2,hb1,hb2,hb12⟩:=hT
 have fin : ∀ wr : World,C4 wr (w.heap.size + 1) (T8 a (m + 1)) → A3 w wr → ∃ b,w.heap.size ≤ b ∧ Ending.returned (.slice (some ⟨w.heap.size + 1,0,none⟩) (m + 1) (m + 1)) = .returned (.slice (some ⟨b,0,none⟩) (A7 W64 a).length (A7 W64 a).length) ∧ C4 wr b (A7 W64 a) ∧ A3 w wr:=by
  intro wr h1 h2
  refine ⟨w.heap.size + 1,by omega,by rw [Hlen.out],?_,h2⟩
  have : T8 a (m + 1) = A7 W64 a:=by
   unfold T8
   rw [← Hlen.out,B51]
  rw [← this]
  exact h1
 have Hfin:=Lib.hid fin
 clear fin
 have start : ∀ W : World,C4 (W.alloc (.cells ((C0 (List.replicate (m + 1) 0)).setIfInBounds 0 (.int .u64 (B3 a))) 33)) W.heap.size (T8 a 1):=by
  intro W
  have h1 : (C0 (List.replicate (m + 1) 0)).setIfInBounds 0 (.int .u64 (B3 a)) = C0 (T8 a 1):=by
   show (C0 (List.replicate (m + 1) 0)).setIfInBounds 0 (.int .u64 ((a % W64 : Nat) : Int)) = _
   rw [A1v]
   congr 1
   unfold T8 A0B
   rw [Hlen.out,A3v h0]
   rfl
  rw [h1]
  exact Blk.new W 33 _
 have Hstart:=Lib.hid start
 clear start
 cases b1 <;> cases b2 <;> first | (exact absurd hb12 (by decide)) | skip
 all_goals
  clear hb12
  go_enter Tryz.func126,Tryz.ntmps126
  go_wp2
  clear hmk
  go_loopw [4] (fun i wr=>∃ k : Nat,1 ≤ k ∧ k ≤ m + 1 ∧ i = .int .i64 k ∧ C4 wr (w.heap.size + 1) (T8 a k) ∧ Blk wr w.heap.size 35 #[.int .u64 (B3 a),.string (B1 a)] ∧ A3 w wr) (fun i _=>m + 1 - (intOf i).toNat)
  case atStart=>exact ⟨1,by omega,by omega,rfl,by simpa using Hstart.out (w.alloc (.cells #[.int .u64 (B3 a),.string (B1 a)] 35)),(Blk.new w 35 _).grow (A3.alloc _ _),(A3.alloc _ _).trans (A3.alloc _ _)⟩
  case round =>
   obtain ⟨k,hk1,hk2,rfl,hrow,hbox,hG⟩:=hrel
   rcases Nat.lt_or_ge k (m + 1) with hlt | hge
   ·have hbc:=hbox.cell
    have hiu : k - 1 < (C3 a).length:=by rw [← Hm.out];omega
    have hu : (A7 W64 a)[k]? = some ((C3 a)[k - 1]):=by
     rw [A3v h0]
     obtain ⟨j,rfl⟩ : ∃ j,k = j + 1:=⟨k - 1,by omega⟩
     simp
    obtain ⟨x,hx⟩ : ∃ x,x = (C3 a)[k - 1]:=⟨_,rfl⟩
    rw [← hx] at hu
    have Hx:=Lib.hid hx
    have Hu:=Lib.hid hu
    clear hx hu
    have hl1 : (0 : Int) ≤ (k : Int) - 1:=by omega
    have hl2 : 8 * ((k : Int) - 1) ≤ ((B1 a).size : Int):=by rw [Hsz.out];omega
    have hword : ∀ W : World,Calls Tryz.prog 154 #[.string ((B1 a).extract (8 * (k - 1)) (8 * m))] W fun e w'=>e = .returned (.int .u64 (x : Nat)) ∧ A3 W w':=by
     intro W
     rw [Hx.out,← Hsz.out]
     exact A3o a (k - 1) hiu _ (Lib.extract_to_end _ _) W
    have Hword:=Lib.hid hword
    have Hrow:=Lib.hid hrow
    have Hbox:=Lib.hid hbox
    clear hword hrow hbox
    have hz : (T8 a k)[k]? = some 0:=by
     exact B09 _ (by rw [Hlen.out];exact hlt)
    have Hz:=Lib.hid hz
    clear hz
    have hst : ∀ w1 : World,A3 wr w1 → w1.cell? ⟨w.heap.size + 1,k,none⟩ = some (.int .u64 0) ∧ w1.frozen? ⟨w.heap.size + 1,k,none⟩ = false:=fun w1 hb =>
     ⟨(((Hrow.out).grow hb).cell k).trans (by rw [Hz.out];rfl),((Hrow.out).grow hb).frozen k⟩
    have Hst:=Lib.hid hst
    clear hst
    go_wp2_with (go_at_call 154;((with_reducible refine (Hword.out _).mono ?_);rintro e w1 ⟨rfl,hb⟩;obtain ⟨hc1,hf1⟩:=Hst.out w1 hb))
    go_roundw
    case rel =>
     refine ⟨k + 1,by omega,by omega,by go_num,?_,?_,?_⟩
     ·have := (Hrow.out.grow hb).set k x
      have e : (T8 a k).set k x = T8 a (k + 1):=by
       unfold T8
       rw [← B3W _ (by rw [Hlen.out];exact hlt)]
       congr 1
       have := List.getElem?_eq_some_iff.1 Hu.out
       exact this.2.symm
      rw [e] at this
      exact this
     ·exact (Hbox.out.grow hb).far (by simp) _
     ·exact (hG.trans hb).setCell (by simp) _
    case measure=>simp [intOf];omega
   ·obtain rfl : k = m + 1:=by omega
    go_wp2
    go_ret
    exact Hfin.out _ hrow hG
theorem B0t (w : World) : Calls Tryz.prog 126 #[A6 0] w fun e w'=>e = .returned (.slice none 0 0) ∧ A3 w w':=by
 have hE : (B1 0).toList.isEmpty = true:=by rw [L7];exact decide_eq_true B6
 have hZ : (B3 0 == 0) = true:=rfl
 go_enter Tryz.func126,Tryz.ntmps126
 go_wp2
 go_ret
 exact ⟨rfl,A3.alloc _ _⟩
def Own (w u : World) (A : Option Addr) (l : List Nat) : Prop:=l ≠ [] → ∃ b,w.heap.size ≤ b ∧ A = some ⟨b,0,none⟩ ∧ C4 u b l
theorem Own.grow {w u u' : World} {A : Option Addr} {l : List Nat} (hg : A3 u u') (h : Own w u A l) : Own w u' A l:=fun hn=>by
 obtain ⟨b,hb,e,hw⟩:=h hn
 exact ⟨b,hb,e,hw.grow hg⟩
theorem Own.rd {w u : World} {A : Option Addr} {l : List Nat} (h : Own w u A l) : Rd u A l:=fun hn=>by
 obtain ⟨b,hb,e,hw⟩:=h hn
 exact ⟨b,0,e,hw.wds⟩
theorem Own.since {w v u : World} {A : Option Addr} {l : List Nat} (hg : A3 w v) (h : Own v u A l) : Own w u A l:=fun hn=>by
 obtain ⟨b,hb,e,hw⟩:=h hn
 exact ⟨b,Nat.le_trans hg.size hb,e,hw⟩
theorem Y8 (a : Nat) (ha : bl a ≤ 1099511627776) (w : World) :
  Calls Tryz.prog 126 #[A6 a] w fun e w'=>∃ A,e = .returned (.slice A (A7 W64 a).length (A7 W64 a).length) ∧ Own w w' A (A7 W64 a) ∧ A3 w w':=by
 by_cases h0 : a = 0
 ·subst h0
  exact (B0t w).mono fun e w' ⟨he,hg⟩=>⟨none,he,fun h=>absurd rfl h,hg⟩
 ·exact (B5u a ha h0 w).mono fun e w' ⟨b,hb,he,hr,hg⟩=>⟨_,he,fun _=>⟨b,hb,rfl,hr⟩,hg⟩
theorem B5t : (Tryz.prog.info? 203).map (·.size) = some 2:=by kernel_rfl
theorem A8R : (Tryz.prog.info? 5).map (fun i=>(i.zero,i.size,i.bytes)) = some (some (.int .u8 0),1,1):=by kernel_rfl
theorem B0Z (b : Nat) (w : World) (h0 : w.cell? ⟨b,0,none⟩ = some (.pointer (some ⟨b,0,none⟩))) :
  Calls Tryz.prog 197 #[.pointer (some ⟨b,0,none⟩)] w fun e w'=>e = .returned (.tuple #[]) ∧ w' = w:=by
 obtain ⟨j,hj,_⟩:=Option.map_eq_some_iff.1 B5t
 go_enter Tryz.func197,Tryz.ntmps197
 go_wp2
 rw [Lib.run_neq_ptr_same w _ Tryz.underlying201 hj]
 go_wp2
 go_end0
 exact ⟨rfl,rfl⟩
theorem B0m (B b : Nat) (bs : List Value) (c : Int) (w : World) (h : Lib.BuilderAt 203 5 B b (.pointer (some ⟨b,0,none⟩)) bs w) (hlen : bs.length + 1 ≤ 140737488355328) (hBw : B ≤ w.heap.size) :
  Calls Tryz.prog 167 #[.pointer (some ⟨b,0,none⟩),.int .u8 c] w fun e w'=>e = .returned .nilIface ∧ (Lib.BuilderAt 203 5 B b (.pointer (some ⟨b,0,none⟩)) (bs ++ [.int .u8 c]) w' ∧ Below B w w'):=by
 obtain ⟨i0,hi,hz0,hz1,hz2⟩:=info_parts A8R
 obtain ⟨hB,v,hbk,hown,hne⟩:=h
 have c0 : w.cell? ⟨b,0,none⟩ = some (.pointer (some ⟨b,0,none⟩)):=by rw [Lib.cell_of_heap hbk];rfl
 have c1 : w.cell? ⟨b,1,none⟩ = some v:=by rw [Lib.cell_of_heap hbk];rfl
 go_enter Tryz.func167,Tryz.ntmps167
 go_wp2_with (first
  | (go_at_call 197;(refine (B0Z b w c0).mono ?_);rintro e w1 ⟨rfl,rfl⟩)
  | (at_builtin;refine wpList_append_own _ rfl _ _ 182 rfl B 5 i0 (.int .u8 0) 1 1 Tryz.underlying182 hi hz0 hz1 hz2 rfl (by decide) _ _ _ rfl (hown.alloc _) ⟨_,0,none⟩ 1 1 [.int .u8 c] rfl rfl ?c1 ?c2 ?c3 ?c4 ?c5 ?_))
 case c1 =>
  intro j u hj
  match j,hj with
  | 0,hj=>simp at hj;subst hj;simp [Addr.add]
 case c2=>intro u hu;simp at hu;subst hu;rfl
 case c3=>unfold maxLen;omega
 case c4=>omega
 case c5=>simp;omega
 intro v' w2 hown' hgrow _
 have hlt : b < w1.heap.size:=by
  rcases Nat.lt_or_ge b w1.heap.size with h' | h'
  ·exact h'
  ·simp [Array.getElem?_eq_none h'] at hbk
 have hb2 : w2.heap[b]? = some (.cells #[.pointer (some ⟨b,0,none⟩),v] 203 (0,0)):=by
  rw [hgrow.block b (by simp;omega) (fun e=>hne e.symm),Lib.alloc_old w1 _ b hlt]
  exact hbk
 have d0 : w2.cell? ⟨b,0,none⟩ = some (.pointer (some ⟨b,0,none⟩)):=by rw [Lib.cell_of_heap hb2];rfl
 have d1 : w2.cell? ⟨b,1,none⟩ = some v:=by rw [Lib.cell_of_heap hb2];rfl
 have f1 : w2.frozen? ⟨b,1,none⟩ = false:=Lib.frozen_of_heap hb2 1
 obtain ⟨g,cap,rfl⟩ : ∃ g cap,v' = .slice (some ⟨g,0,none⟩) (bs.length + 1) cap:=by
  rcases hown'.2 with ⟨_,h0⟩ | ⟨g,cap,cur,hv,_⟩
  ·omega
  ·exact ⟨g,cap,hv⟩
 go_wp2
 go_ret
 refine ⟨rfl,?_,?_⟩
 ·exact Lib.BuilderAt.put (T:=203) (e:=5) hB hb2 (bs':=bs ++ [.int .u8 c]) (by simpa using hown') (by decide)
 ·exact (((Below.refl B w1).alloc hBw _).grown hgrow (by simp;omega) (fun k hk=>(hown.lt k hk).1)).setCell (p:=⟨b,1,none⟩) hB _
theorem A7y {x : Nat} {l : List Nat} (hx : x < W64) (hl : Dig W64 l) (ht : Q3 l) : B3 (val W64 (x :: l)) = x ∧ C3 (val W64 (x :: l)) = l:=by
 have e1 : val W64 (x :: l) % W64 = x:=by simp only [val];rw [Nat.add_mul_mod_self_left,Nat.mod_eq_of_lt hx]
 have e2 : val W64 (x :: l) / W64 = val W64 l:=by simp only [val];rw [Nat.add_mul_div_left _ _ B6,Nat.div_eq_of_lt hx,Nat.zero_add]
 refine ⟨by unfold B3;rw [e1],?_⟩
 unfold C3
 rw [e2,A3T C7 _ hl ht]
theorem B32 (l : List UInt8) (c : UInt8) : Lib.byteCells l ++ [.int .u8 (c.toNat : Int)] = Lib.byteCells (l ++ [c]):=by
 simp [Lib.byteCells]
theorem A8p (x : Nat) : ∀ (n k : Nat),k < n → (Lib.leBytes n x)[k]? = some ((x / 256 ^ k % 256).toUInt8)
 | 0,_,h=>absurd h (Nat.not_lt_zero _)
 | n + 1,0,_=>by simp [Lib.leBytes]
 | n + 1,k + 1,h=>by
  rw [Lib.leBytes,List.getElem?_cons_succ,A8p (x / 256) n k (by omega),Nat.div_div_eq_div_mul,Nat.pow_succ,Nat.mul_comm]
theorem B5i (A : Option Addr) (l : List Nat) (c : Nat) (w : World) (h : Rd w A l) (hd : Dig W64 l) (hc : l.length ≤ c) (hm : l.length ≤ 34359738368) (hcm : c ≤ 9223372036854775807) (h2 : 2 ≤ (C6 l).length) :
  Calls Tryz.prog 124 #[.slice A l.length c] w fun e w'=>e = .returned (A6 (val W64 l)) ∧ A3 w w':=by
 obtain ⟨x0,y0,m,hl⟩ : ∃ x y m,C6 l = x :: y :: m:=by
  match C6 l,h2 with
  | x :: y :: m,_=>exact ⟨x,y,m,rfl⟩
 obtain ⟨n,hn⟩ : ∃ n,n = m.length:=⟨_,rfl⟩
 have hlen : (C6 l).length = n + 2:=by rw [hl,hn];rfl
 have hle:=A1w l
 obtain ⟨b,off,hA,hw⟩:=h (by rintro rfl;simp [C6] at h2)
 subst hA
 have hw2 : Wds w b off (C6 l):=by rw [A1g];exact hw.take _
 have hbw:=hw.lt
 have Hw:=Lib.hid hw2
 have Hl:=Lib.hid hl
 have Hn:=Lib.hid hn
 have Hd:=Lib.hid hd
 have Hlen:=Lib.hid hlen
 have htrim : ∀ W : World,A3 w W → Calls Tryz.prog 165 #[.slice (some ⟨b,off,none⟩) l.length c] W fun e w'=>e = .returned (.slice (some ⟨b,off,none⟩) (n + 2) c) ∧ W = w':=by
  intro W hg
  have := A3I (some ⟨b,off,none⟩) l c W (h.grow hg) hc (by omega)
  rw [hlen] at this
  exact this
 have Htrim:=Lib.hid htrim
 have hnc : n + 2 ≤ c:=by omega
 have hnm : n + 2 ≤ 34359738368:=by omega
 clear hm
 clear htrim hlen hd hn hl hw2 hw h h2 hle hc
 go_enter Tryz.func124,Tryz.ntmps124
 go_wp2_with (go_at_call 165;((with_reducible refine (Htrim.out _ (A3.alloc _ _)).mono ?_);rintro e w1 ⟨rfl,rfl⟩))
 rw [show (8 * ((n : Int) + 2 - 1)) = ((8 * (n + 1) : Nat) : Int) from by omega]
 refine (Tryz.Builder_Grow_fresh_cap (w.heap.size + 1) (w.heap.size + 1) (8 * (n + 1)) _ (Nat.le_refl _) (by have := Blk.new (w.alloc (.cells #[.int .u64 0,.string ⟨#[]⟩] 35)) 203 #[.pointer none,.slice none 0 0];simpa [Blk] using this) (by simp) (by omega)).mono ?_
 rintro e w1 ⟨rfl,⟨hat,hbel⟩,-⟩
 have hG1 : Below (w.heap.size + 1) (w.alloc (.cells #[.int .u64 0,.string ⟨#[]⟩] 35)) w1:=((Below.refl _ _).alloc (by simp) _).trans hbel
 have Hat:=Lib.hid hat
 have HG1:=Lib.hid hG1
 clear hat hbel hG1
 have hc1 : ¬ c = 1:=by omega
 go_wp2_with fail
 go_loopw [28] (fun i wr=>∃ j : Nat,j ≤ n + 1 ∧ i = .int .i64 j ∧ Lib.BuilderAt 203 5 (w.heap.size + 1) (w.heap.size + 1) (.pointer (some ⟨w.heap.size + 1,0,none⟩)) (Lib.byteCells (((y0 :: m).take j).flatMap (Lib.leBytes 8))) wr ∧ Below (w.heap.size + 1) (w.alloc (.cells #[.int .u64 0,.string ⟨#[]⟩] 35)) wr) (fun i _=>n + 1 - (intOf i).toNat)
 case atStart=>exact ⟨0,by omega,rfl,Hat.out,HG1.out⟩
 case round =>
  obtain ⟨j,hj,rfl,hat,hbel⟩:=hrel
  have Hat2:=Lib.hid hat
  have Hbel2:=Lib.hid hbel
  clear hat hbel Hat HG1 w1
  rcases Nat.lt_or_ge j (n + 1) with hlt | hge
  ·have hjl : j < (y0 :: m).length:=by rw [List.length_cons,← Hn.out];omega
   have hcell : wr.cell? ⟨b,off + 1 + j,none⟩ = some (.int .u64 ((y0 :: m)[j] : Nat)):=by
    rw [Hbel2.out.cell (p:=⟨b,off + 1 + j,none⟩) (by show b < _;omega),World.cell?_alloc_lt _ _ _ (show b < _ from hbw)]
    have := Hw.out.cell (i:=1 + j) (by rw [Hlen.out];omega)
    rw [← Nat.add_assoc] at this
    rw [this]
    have h3 : (C6 l)[1 + j]? = (y0 :: m)[j]?:=by rw [Hl.out,Nat.add_comm];rfl
    rw [List.getElem?_eq_getElem (by rw [Hlen.out];omega),List.getElem?_eq_getElem hjl] at h3
    injection h3 with h3
    rw [h3]
   obtain ⟨x,hx⟩ : ∃ x,x = (y0 :: m)[j]:=⟨_,rfl⟩
   rw [← hx] at hcell
   have hxW : x < 18446744073709551616:=by
    rw [hx]
    refine A0j Hd.out _ ?_
    rw [Hl.out]
    exact List.mem_cons_of_mem _ (List.getElem_mem _)
   have Hx:=Lib.hid hx
   clear hx
   have hdj : decide ((j : Int) < (n : Int) + 1) = true:=by simp;omega
   go_wp2_with fail
   obtain ⟨wo,hwo⟩ : ∃ wo : World,wo = wr:=⟨_,rfl⟩
   go_loopw [32] (fun i wi=>∃ k : Nat,k ≤ 8 ∧ i = .int .i64 k ∧ Lib.BuilderAt 203 5 (w.heap.size + 1) (w.heap.size + 1) (.pointer (some ⟨w.heap.size + 1,0,none⟩)) (Lib.byteCells (((y0 :: m).take j).flatMap (Lib.leBytes 8) ++ (Lib.leBytes 8 x).take k)) wi ∧ Below (w.heap.size + 1) (w.alloc (.cells #[.int .u64 0,.string ⟨#[]⟩] 35)) wi) (fun i _=>8 - (intOf i).toNat)
   case atStart=>exact ⟨0,by omega,rfl,by simpa using Hat2.out,Hbel2.out⟩
   case round =>
    obtain ⟨k,hk,rfl,hat,hbel⟩:=hrel
    have Hat3:=Lib.hid hat
    have Hbel3:=Lib.hid hbel
    clear hat hbel
    rcases Nat.lt_or_ge k 8 with hk8 | hk8
    ·have hlb : (Lib.byteCells (((y0 :: m).take j).flatMap (Lib.leBytes 8) ++ (Lib.leBytes 8 x).take k)).length + 1 ≤ 140737488355328:=by
      have e1 : (Lib.byteCells (((y0 :: m).take j).flatMap (Lib.leBytes 8) ++ (Lib.leBytes 8 x).take k)).length = (((y0 :: m).take j).flatMap (Lib.leBytes 8) ++ (Lib.leBytes 8 x).take k).length:=by simp [Lib.byteCells]
      rw [e1,List.length_append,A6f,List.length_take,List.length_take]
      omega
     have hsz:=Hbel3.out.size
     simp only [H8] at hsz
     go_wp2_with fail
     ((with_reducible refine (B0m _ _ _ _ _ Hat3.out hlb hsz).mono ?_);rintro e w2 ⟨rfl,hat4,hbel4⟩)
     have Hat4:=Lib.hid hat4
     have Hbel4:=Lib.hid hbel4
     clear hat4 hbel4 hlb hsz
     go_wp2_with fail
     go_roundw
     case rel =>
      refine ⟨k + 1,by omega,by go_num,?_,Hbel3.out.trans Hbel4.out⟩
      have e2 : ((x : Int) / 2 ^ (8 * k) % 256) = (((x / 256 ^ k % 256).toUInt8.toNat : Nat) : Int):=by
       have h1 : (x / 256 ^ k % 256).toUInt8.toNat = x / 256 ^ k % 256:=by
        simp only [Nat.toUInt8_eq,UInt8.toNat_ofNat']
        omega
       rw [h1,show (256 : Nat) = 2 ^ 8 from rfl,← Nat.pow_mul]
       simp
      have h5:=Hat4.out
      rw [e2,B32,List.append_assoc] at h5
      have e3 : (Lib.leBytes 8 x).take k ++ [(x / 256 ^ k % 256).toUInt8] = (Lib.leBytes 8 x).take (k + 1):=by
       have h6:=A8p x 8 k hk8
       obtain ⟨h7,h8⟩:=List.getElem?_eq_some_iff.1 h6
       rw [List.take_succ_eq_append_getElem h7,h8]
      rw [e3] at h5
      exact h5
     case measure=>simp [intOf];omega
    ·obtain rfl : k = 8:=by omega
     go_wp2_with fail
     go_roundw
     case rel =>
      refine ⟨j + 1,by omega,by go_num,?_,Hbel3.out⟩
      have h5:=Hat3.out
      rw [List.take_of_length_le (l:=Lib.leBytes 8 x) (i:=8) (by rw [A3Q];exact Nat.le_refl _)] at h5
      have e4 : ((y0 :: m).take (j + 1)).flatMap (Lib.leBytes 8) = ((y0 :: m).take j).flatMap (Lib.leBytes 8) ++ Lib.leBytes 8 x:=by
       rw [List.take_succ_eq_append_getElem hjl,List.flatMap_append,Hx.out]
       simp
      rw [e4]
      exact h5
     case measure=>simp [intOf];omega
  ·obtain rfl : j = n + 1:=by omega
   have hbox : Blk wr w.heap.size 35 #[.int .u64 0,.string ⟨#[]⟩]:=(Hbel2.out.block w.heap.size (by omega)).trans (Blk.new w 35 _)
   have hcell : wr.cell? ⟨b,off,none⟩ = some (.int .u64 (x0 : Nat)):=by
    rw [Hbel2.out.cell (p:=⟨b,off,none⟩) (by show b < _;omega),World.cell?_alloc_lt _ _ _ (show b < _ from hbw)]
    have := Hw.out.cell (i:=0) (by rw [Hlen.out];omega)
    rw [Nat.add_zero] at this
    rw [this]
    have h3 : (C6 l)[0]? = some x0:=by rw [Hl.out];rfl
    obtain ⟨h4,h5⟩:=List.getElem?_eq_some_iff.1 h3
    rw [h5]
   have hstr : Calls Tryz.prog 168 #[.pointer (some ⟨w.heap.size + 1,0,none⟩)] wr.drew fun e w'=>e = .returned (.string (B1 (val W64 l))) ∧ Below (w.heap.size + 1) wr w':=by
    have hsz:=Hbel2.out.size
    simp only [H8] at hsz
    have hat:=Hat2.out
    rw [List.take_of_length_le (by rw [List.length_cons,← Hn.out];exact Nat.le_refl _)] at hat
    refine (Tryz.Builder_String_any (w.heap.size + 1) (w.heap.size + 1) _ wr.drew (.inr hat.drew) hsz).mono fun e w' ⟨he,hb⟩=>⟨?_,((Below.refl _ wr).drew).trans hb⟩
    rw [he]
    have h6:=A0j Hd.out
    have h7:=A3w l
    rw [Hl.out] at h6 h7
    have h8:=(A7y (x:=x0) (l:=y0 :: m) (h6 x0 (by simp)) (fun z hz=>h6 z (by simp [hz])) (by
     rcases h7 with h7 | h7
     ·cases h7
     ·exact .inr (by simpa [List.getLast?_cons_cons] using h7))).2
    rw [← Hl.out,A0M] at h8
    unfold B1
    rw [h8]
   have Hstr:=Lib.hid hstr
   have hlo : B3 (val W64 l) = (x0 : Nat):=by
    have h6:=A0j Hd.out
    have h7:=A3w l
    rw [Hl.out] at h6 h7
    have h8:=(A7y (x:=x0) (l:=y0 :: m) (h6 x0 (by simp)) (fun z hz=>h6 z (by simp [hz])) (by
     rcases h7 with h7 | h7
     ·cases h7
     ·exact .inr (by simpa [List.getLast?_cons_cons] using h7))).1
    rw [← Hl.out,A0M] at h8
    exact h8
   have Hlo:=Lib.hid hlo
   clear hstr hlo
   have hidx : (0 : Int) < (n : Int) + 2:=by omega
   go_wp2_with fail
   go_region_held3 (fun w'=>w'.cell? ⟨b,off,none⟩ = some (.int .u64 (x0 : Nat))) (first | exact (hb5.cell (p:=⟨b,off,none⟩) (by show b < _;omega)).trans hcell | exact hcell | exact (World.cell?_setCell_far _ _ _ _ (by show w.heap.size ≠ b;omega)).trans ((World.cell?_setCell_far _ _ _ _ (by show w.heap.size ≠ b;omega)).trans ((hb5.cell (p:=⟨b,off,none⟩) (by show b < _;omega)).trans hcell)))
    (first | (go_at_call 168;(refine Hstr.out.mono ?_);rintro e w5 ⟨rfl,hb5⟩;have hbx5 : Blk w5 w.heap.size 35 #[.int .u64 0,.string ⟨#[]⟩]:=(hb5.block w.heap.size (by omega)).trans hbox;have hq:=hbx5.cell;have hqf:=hbx5.frozen))
   go_wp2_with fail
   have h6:=((hbx5.set_ 0 (.int .u64 (x0 : Nat))).set_ 1 (.string (B1 (val W64 l)))).cell
   simp only [List.setIfInBounds_toArray,List.set_cons_zero,List.set_cons_succ] at h6
   refine bodyPost_ret (v:=.agg #[.int .u64 (x0 : Nat),.string (B1 (val W64 l))]) (by simp [results,Tryz.results124,go_sem,h6]) rfl ⟨?_,?_⟩
   ·rw [A6,Hlo.out]
   ·have h1 : A3 w wr:=((Below.refl w.heap.size w).alloc (Nat.le_refl _) _).trans (Hbel2.out.mono (by omega))
    have h2 : A3 w w5:=Below.trans h1 (hb5.mono (by omega))
    exact (h2.setCell (p:=⟨w.heap.size,0,none⟩) (Nat.le_refl _) _).setCell (p:=⟨w.heap.size,1,none⟩) (Nat.le_refl _) _
theorem B0P (A : Option Addr) (l : List Nat) (c : Nat) (w : World) (h : Rd w A l) (hc : l.length ≤ c) (hcm : c ≤ 9223372036854775807) (h0 : C6 l = []) :
  Calls Tryz.prog 124 #[.slice A l.length c] w fun e w'=>e = .returned (A6 0) ∧ A3 w w':=by
 have htrim : ∀ W : World,A3 w W → Calls Tryz.prog 165 #[.slice A l.length c] W fun e w'=>e = .returned (.slice A 0 c) ∧ W = w':=by
  intro W hg
  have := A3I A l c W (h.grow hg) hc (by omega)
  rw [h0] at this
  exact this
 have Htrim:=Lib.hid htrim
 clear htrim h0 h
 go_enter Tryz.func124,Tryz.ntmps124
 go_wp2_with (go_at_call 165;((with_reducible refine (Htrim.out _ (A3.alloc _ _)).mono ?_);rintro e w1 ⟨rfl,rfl⟩))
 exact bodyPost_ret (v:=.agg #[.int .u64 0,.string ⟨#[]⟩]) (by simp [results,Tryz.results124,go_sem]) rfl ⟨rfl,A3.alloc _ _⟩
theorem B5f (A : Option Addr) (l : List Nat) (c : Nat) (w : World) (h : Rd w A l) (hc : l.length ≤ c) (hcm : c ≤ 9223372036854775807) (x : Nat) (h0 : C6 l = [x]) :
  Calls Tryz.prog 124 #[.slice A l.length c] w fun e w'=>e = .returned (.agg #[.int .u64 (x : Nat),.string ⟨#[]⟩]) ∧ A3 w w':=by
 have htrim : ∀ W : World,A3 w W → Calls Tryz.prog 165 #[.slice A l.length c] W fun e w'=>e = .returned (.slice A 1 c) ∧ W = w':=by
  intro W hg
  have := A3I A l c W (h.grow hg) hc (by omega)
  rw [h0] at this
  exact this
 have hne : l ≠ []:=by rintro rfl;cases h0
 obtain ⟨b,off,hA,hw⟩:=h hne
 have hlt:=hw.lt
 have hcell : w.cell? ⟨b,off,none⟩ = some (.int .u64 (x : Nat)):=by
  have h2 : Wds w b off (C6 l):=by rw [A1g];exact hw.take _
  rw [h0] at h2
  exact h2.cell (i:=0) (by simp)
 subst hA
 have hcell2 : (w.alloc (.cells #[.int .u64 0,.string ⟨#[]⟩] 35)).cell? ⟨b,off,none⟩ = some (.int .u64 (x : Nat)):=(World.cell?_alloc_lt _ _ _ hlt).trans hcell
 have Htrim:=Lib.hid htrim
 clear htrim h0 h hw hne
 go_enter Tryz.func124,Tryz.ntmps124
 go_wp2_with (go_at_call 165;((with_reducible refine (Htrim.out _ (A3.alloc _ _)).mono ?_);rintro e w1 ⟨rfl,rfl⟩))
 exact bodyPost_ret (v:=.agg #[.int .u64 (x : Nat),.string ⟨#[]⟩]) (by simp [results,Tryz.results124,go_sem]) rfl ⟨rfl,A3.alloc _ _⟩
theorem R8 (A : Option Addr) (l : List Nat) (c : Nat) (w : World) (h : Rd w A l) (hd : Dig W64 l) (hc : l.length ≤ c) (hm : l.length ≤ 34359738368) (hcm : c ≤ 9223372036854775807) :
  Calls Tryz.prog 124 #[.slice A l.length c] w fun e w'=>e = .returned (A6 (val W64 l)) ∧ A3 w w':=by
 cases ht : C6 l with
 | nil =>
  have : val W64 l = 0:=by rw [← A0M,ht];rfl
  rw [this]
  exact B0P A l c w h hc hcm ht
 | cons x m =>
  cases m with
  | nil =>
   have hx : x < W64:=A0j hd x (by rw [ht];simp)
   have : val W64 l = x:=by rw [← A0M,ht];simp [val]
   rw [this,A6,J6 hx,A1U hx]
   exact B5f A l c w h hc hcm x ht
  | cons y m=>exact B5i A l c w h hd hc hm hcm (by rw [ht];simp)
end Go.Proofs.YtlkniebmjdoopaaGreatDoor
