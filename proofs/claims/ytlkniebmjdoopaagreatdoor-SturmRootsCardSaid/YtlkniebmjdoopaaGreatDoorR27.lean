/- Contracts and laws. -/
import Derived.Test.YtlkniebmjdoopaaGreatDoorR26
import Derived.Test.YtlkniebmjdoopaaGreatDoorCards
import Derived.Test.YtlkniebmjdoopaaGreatDoorTie
import Derived.WalkKit
import Derived.ProofKit
import Derived.OpenShut
import Derived.Carry
import Derived.ChangeOld
import Derived.ChangeSlices
import Derived.Deep.DeepHandedRow
import Derived.Lib.LaidTab
import Derived.RegionTactic
set_option linter.unusedSimpArgs false
set_option linter.unusedVariables false
set_option maxRecDepth 100000
namespace Go.Proofs.YtlkniebmjdoopaaGreatDoor
open Go.RowKit
def Li (u : World) (A : Option Addr) (l : List Int) : Prop :=
 l ≠ [] → ∃ b off,A = some ⟨b,off,none⟩ ∧ b < u.heap.size ∧ ∀ i x,l[i]? = some x → u.cell? ⟨b,off + i,none⟩ = some (.int .i64 x)
theorem Li.nil (u : World) (A : Option Addr) : Li u A []:=fun h=>absurd rfl h
theorem Li.grow {u u' : World} {A : Option Addr} {l : List Int} (h : Li u A l) (hg : A3 u u') : Li u' A l:=fun hn=>by
 obtain ⟨b,off,e,hb,hc⟩:=h hn
 exact ⟨b,off,e,Nat.lt_of_lt_of_le hb hg.size,fun i x hi=>(hg.cell (p:=⟨b,off + i,none⟩) hb).trans (hc i x hi)⟩
def gi (l : List Int) (i : Nat) : Int:=(l[i]?).getD 0
theorem A73 {l : List Int} {i : Nat} (h : i < l.length) : l[i]? = some (gi l i):=by
 unfold gi;rw [List.getElem?_eq_getElem h];rfl
theorem Li.cell {u : World} {A : Option Addr} {l : List Int} (h : Li u A l) {i : Nat} (hi : i < l.length) : ∃ b off,A = some ⟨b,off,none⟩ ∧ u.cell? ⟨b,off + i,none⟩ = some (.int .i64 (gi l i)):=by
 obtain ⟨b,off,e,hb,hc⟩:=h (fun h0=>by rw [h0] at hi;cases hi)
 exact ⟨b,off,e,hc i _ (A73 hi)⟩
def cnt (t : Nat → Bool) : Nat → Nat
 | 0=>0
 | n + 1=>cnt t n + (if t n then 1 else 0)
def A2w (b2 b3 : Nat) (A B : Option Addr) (m c d : Nat) (l l' : List Int) (W : World) : Prop :=
 Blk W b2 22 #[.slice A m c] ∧ Blk W b3 22 #[.slice B m d] ∧ Li W A l ∧ Li W B l'
theorem A2w.mk {b2 b3 : Nat} {A B : Option Addr} {m c d : Nat} {l l' : List Int} {u : World} (h1 : Blk u b2 22 #[.slice A m c]) (h2 : Blk u b3 22 #[.slice B m d]) (h3 : Li u A l) (h4 : Li u B l') : A2w b2 b3 A B m c d l l' u:=⟨h1,h2,h3,h4⟩
theorem A2w.grow {b2 b3 : Nat} {A B : Option Addr} {m c d : Nat} {l l' : List Int} {u u' : World} (hg : A3 u u') (h : A2w b2 b3 A B m c d l l' u) : A2w b2 b3 A B m c d l l' u':=⟨h.1.grow hg,h.2.1.grow hg,h.2.2.1.grow hg,h.2.2.2.grow hg⟩
end Go.Proofs.YtlkniebmjdoopaaGreatDoor
namespace Go.Proofs.YtlkniebmjdoopaaGreatDoor
open Go.ChangeShapes Go.WideShapes Go.ChangeAt Go.RowKit
theorem B1s : ownKnob Tryz.prog.godebug = none:=by kernel_rfl
theorem B6W : laidOutB Tryz.prog = true:=by kernel_rfl
theorem B26 : Tryz.prog.cellsOf 3 = 1:=by kernel_rfl
theorem A8K {H : Type} {enc : TypeId × Value → H} {W W' : World} (hb : Below W.heap.size W W') : ∀ {ts : List TypeId} {vs : List Value} {ds : List (DataW H)} {ps : List MemPlace},(∀ t ∈ ts,Tryz.prog.readableRec t = true ∧ t < Tryz.prog.types.size) → (∀ x ∈ ps,x.block < W.heap.size) →
  DataW.TrodAll enc Tryz.prog W 0 (fun _=>true) true ts vs ds ps → DataW.TrodAll enc Tryz.prog W' 0 (fun b=>decide (b < W.heap.size)) true ts vs ds ps
 | [],vs,ds,ps,_,_,h=>by
  obtain ⟨rfl,rfl,rfl⟩:=trodAll_nil h
  exact trodAll_mk0
 | t :: ts,vs,ds,ps,ht,hlt,h=>by
  obtain ⟨v,vs1,d,ds1,a,b,rfl,rfl,rfl,h1,h2⟩:=trodAll_cons h
  obtain ⟨r1,r2⟩:=ht t (by simp)
  exact ⟨a,b,Below.trod B6W r1 r2 h1 hb (fun x hx=>hlt x (by simp [hx])),A8K hb (fun t ht'=>ht t (by simp [ht'])) (fun x hx=>hlt x (by simp [hx])) h2,rfl⟩
theorem B2t {H : Type} {enc : TypeId × Value → H} {f : Func} {s : ChangeSpec} {apart : Bool} {W W' : World} {args : Array Value} {ds gs : List (DataW H)} {before : List MemPlace}
  (hW : DataW.Whole enc Tryz.prog f.params.toList s.vars apart W args.toList ds gs before) (hv : s.vars = []) (hf1 : (s.fn H (ds ++ gs)).results = [.lit (.bool true)]) (hf2 : (s.fn H (ds ++ gs)).args = ds) (hf3 : (s.fn H (ds ++ gs)).vars = []) (hr : f.resultTypes = #[4])
  (hp : ∀ t ∈ f.params.toList,Tryz.prog.readableRec t = true ∧ t < Tryz.prog.types.size) (hb : Below W.heap.size W W') : s.post enc Tryz.prog f apart true false false W args (.bool true) W':=by
 have hlt:=hW.lt
 have hW2:=hW
 obtain ⟨p,q,hA,hV,rfl,hz,hn⟩:=hW
 refine ⟨ds,gs,p ++ q,[],p,[],hW2,?_,?_,?_,?_,fun h=>by cases h⟩
 ·rw [hf1,hr]
  exact trodAll_cons_mk (shut_bool Tryz.underlying4 _) trodAll_mk0
 ·rw [hf2]
  exact A8K hb hp (fun x hx=>hlt x (by simp [hx])) hA
 ·rw [hf3,hv]
  rfl
 ·exact hb.frame _
theorem A70 {H : Type} {enc : TypeId × Value → H} {W : World} {base : Nat} {v : Value} {d : DataW H} {p : List MemPlace} (hval : Value.okWide Tryz.prog W .any base 22 v) (h : DataW.Trod enc Tryz.prog W 0 (fun _=>true) true 22 v d p) :
  ∃ (A : Option Addr) (l : List Int) (c : Nat),v = .slice A l.length c ∧ Li W A l ∧ l.length ≤ 9223372036854775807 ∧ ∀ x ∈ l,-9223372036854775808 ≤ x ∧ x ≤ 9223372036854775807:=by
 obtain ⟨a0,len,cap,rfl⟩:=okWide_slice Tryz.underlying22 hval
 obtain ⟨fuel,hf⟩:=h
 rcases open_ints Tryz.underlying22 Tryz.underlying3 B26 hf with ⟨hcs,hx⟩ | ⟨a,len',cap',zs,hcs,_,hl,hm,hz,hx,hcell,hwz⟩
 ·simp [Value.cells] at hcs
  obtain ⟨rfl,rfl,rfl⟩:=hcs
  exact ⟨none,[],0,rfl,Li.nil _ _,by simp,fun x hx=>by cases hx⟩
 ·simp [Value.cells] at hcs
  obtain ⟨rfl,rfl,rfl⟩:=hcs
  simp only [if_true] at hz
  have hlen : (zs.take len).length = len:=by simp;omega
  refine ⟨some a,zs.take len,cap,by rw [hlen],fun hne=>?_,by rw [hlen];unfold maxLen at hm;omega,fun x hx=>bounds_i64 (hwz x (List.mem_of_mem_take hx))⟩
  have h0 : 0 < zs.length:=by
   have : 0 < (zs.take len).length:=List.length_pos_iff.2 hne
   omega
  obtain ⟨b,off,rfl,hc⟩:=ints_at hcell h0
  have hb : b < W.heap.size:=World.block_lt_of_cell? W _ (hc 0 h0)
  refine ⟨b,off,rfl,hb,fun i x hi=>?_⟩
  have hi2 : i < (zs.take len).length:=(List.getElem?_eq_some_iff.1 hi).1
  have hi3 : zs[i]? = some x:=by
   rw [List.getElem?_take] at hi
   split at hi
   ·exact hi
   ·cases hi
  rw [hc i (by rw [hlen] at hi2;omega)]
  simp [List.getD,hi3]
def A61 : List Int:=[0,1,56,2,57,49,28,3,61,58,42,50,38,29,17,4,62,47,59,36,45,43,51,22,53,39,33,30,24,18,12,5,63,55,48,27,60,41,37,16,46,35,44,21,52,32,23,11,54,26,40,15,34,20,31,10,25,14,19,9,13,8,7,6]
theorem B2z : ∀ j,j < 64 → A61.getD j 0 = ((Lib.deBruijn64tab.getD j 0 : Nat) : Int):=by decide
theorem B4X : (Tryz.prog.globals[2]?).map (·.type) = some 236:=by kernel_rfl
theorem B5i : Tryz.prog.cellsOf 236 = 64:=by kernel_rfl
theorem B4u : Tryz.prog.cellsOf 5 = 1:=by kernel_rfl
theorem B6b {W : World} {name : String} (hg : Tryz.prog.globalNamed name = some 2) (h : laidMetH Tryz.prog [(name,Lib.tabData .u8 A61)] W) : Tab W:=fun j hj=>by
 have h1:=(Lib.tabIs_of_head (rest:=[]) hg B4X Tryz.underlying236 Tryz.underlying5 B4u B5i h).cell hg j (by show j < 64;exact hj)
 rw [B2z j hj] at h1
 exact h1
noncomputable def laidWorld (os : Os) : World :=
 { World.holding Tryz.prog os ⟨#[],#[],[]⟩ with heap:=(World.holding Tryz.prog os ⟨#[],#[],[]⟩).heap.modify 2 fun
   | .cells _ t frozen=>.cells (A61.map fun x=>Value.int .u8 x).toArray t frozen
   | o=>o }
end Go.Proofs.YtlkniebmjdoopaaGreatDoor
namespace Go.Proofs.YtlkniebmjdoopaaGreatDoor
open Go.RowKit
abbrev Rw:=Option Addr × Nat × List Int
def A4P (u : World) (A : Option Addr) (rs : List Rw) : Prop :=
 rs ≠ [] → ∃ b off,A = some ⟨b,off,none⟩ ∧ b < u.heap.size ∧ ∀ i r,rs[i]? = some r → u.cell? ⟨b,off + i,none⟩ = some (.slice r.1 r.2.2.length r.2.1) ∧ Li u r.1 r.2.2
theorem A4P.grow {u u' : World} {A : Option Addr} {rs : List Rw} (h : A4P u A rs) (hg : A3 u u') : A4P u' A rs:=fun hn=>by
 obtain ⟨b,off,e,hb,hc⟩:=h hn
 exact ⟨b,off,e,Nat.lt_of_lt_of_le hb hg.size,fun i r hi=>⟨(hg.cell (p:=⟨b,off + i,none⟩) hb).trans (hc i r hi).1,(hc i r hi).2.grow hg⟩⟩
def Y6 (l : List Int) : Array Value:=(l.map fun x=>Value.int .i64 x).toArray
theorem B5U (l : List Int) (i : Nat) : (Y6 l)[i]? = (l[i]?).map fun x=>Value.int .i64 x:=by
 unfold Y6;simp
theorem B6L (l : List Int) (i : Nat) (y : Int) : (Y6 l).setIfInBounds i (.int .i64 y) = Y6 (l.set i y):=by
 unfold Y6
 rw [List.setIfInBounds_toArray,List.map_set]
theorem B65 {u : World} {b : Nat} {l : List Int} (h : Blk u b 3 (Y6 l)) : Li u (some ⟨b,0,none⟩) l:=fun _ =>
 ⟨b,0,rfl,h.lt,fun i x hi=>by rw [Nat.zero_add,h.cell,B5U,hi];rfl⟩
def A1B (l : List Value) : Array Value:=l.toArray
def A09 (l l' : List Int) (r i j : Nat) : Int:=(cnt (fun s=>gi l s == (i : Int) && gi l' s == (j : Int)) r : Nat)
def A0E (l l' : List Int) (r k i : Nat) : List Int:=(List.range k).map (A09 l l' r i)
theorem A8k (l l' : List Int) (r i j : Nat) : A09 l l' (r + 1) i j = A09 l l' r i j + if gi l r = (i : Int) ∧ gi l' r = (j : Int) then 1 else 0:=by
 unfold A09
 simp only [cnt]
 by_cases h : gi l r = (i : Int) ∧ gi l' r = (j : Int)
 ·rw [if_pos h,if_pos (by simp [h.1,h.2])];omega
 ·rw [if_neg h,if_neg (by simpa using h)];omega
theorem B69 (l l' : List Int) (r k i j : Nat) (h1 : gi l r = (i : Int)) (h2 : gi l' r = (j : Int)) : (A0E l l' r k i).set j (A09 l l' r i j + 1) = A0E l l' (r + 1) k i:=by
 unfold A0E
 refine List.ext_getElem (by simp) fun t g1 g2=>?_
 rw [List.getElem_set]
 simp only [List.getElem_map,List.getElem_range,A8k,h1,h2,true_and]
 by_cases e : j = t
 ·subst e;simp
 ·rw [if_neg e,if_neg (by omega)];omega
theorem B3b (l l' : List Int) (r k i : Nat) (h1 : gi l r ≠ (i : Int)) : A0E l l' r k i = A0E l l' (r + 1) k i:=by
 unfold A0E
 refine List.map_congr_left fun t _=>?_
 rw [A8k,if_neg (fun h=>h1 h.1)]
 omega
def A2X (B0 k i : Nat) : Value:=.slice (some ⟨B0 + 1 + i,0,none⟩) k k
def A1R (B0 k i : Nat) : List Value:=(List.range i).map (A2X B0 k) ++ List.replicate (k - i) (.slice none 0 0)
theorem B5h (B0 k : Nat) {i : Nat} (h : i < k) : (A1R B0 k i).set i (A2X B0 k i) = A1R B0 k (i + 1):=by
 unfold A1R
 rw [List.set_append_right _ _ (by simp),List.length_map,List.length_range,Nat.sub_self]
 obtain ⟨m,hm⟩ : ∃ m,k - i = m + 1:=⟨k - i - 1,by omega⟩
 rw [hm,show k - (i + 1) = m by omega,List.range_succ,List.map_append,List.append_assoc]
 rfl
theorem B3u (B0 k : Nat) {i : Nat} (h : i < k) : (A1R B0 k k)[i]? = some (A2X B0 k i):=by
 unfold A1R;simp [h]
theorem B3Z (l : List Value) (i : Nat) : (A1B l)[i]? = l[i]?:=by unfold A1B;simp
theorem B3s (l : List Value) (i : Nat) (v : Value) : (A1B l).setIfInBounds i v = A1B (l.set i v):=by
 unfold A1B;rw [List.setIfInBounds_toArray]
def A5S (B0 k i : Nat) (wr : World) : Prop:=wr.heap.size = B0 + 1 + i ∧ Blk wr B0 22 (A1B (A1R B0 k i)) ∧ ∀ j,j < i → Blk wr (B0 + 1 + j) 3 (Y6 (List.replicate k 0))
def A3O (B0 k : Nat) (l l' : List Int) (r : Nat) (wr : World) : Prop:=Blk wr B0 22 (A1B (A1R B0 k k)) ∧ ∀ j,j < k → Blk wr (B0 + 1 + j) 3 (Y6 (A0E l l' r k j))
theorem A8z (u : World) (p : Addr) (v : Value) : (u.setCell p v).heap.size = u.heap.size:=by simp [World.setCell]
theorem A5S.next {B0 k i : Nat} {wr : World} (h : A5S B0 k i wr) (hi : i < k) : A5S B0 k (i + 1) ((wr.setCell ⟨B0,i,none⟩ (.slice (some ⟨wr.heap.size,0,none⟩) k k)).alloc (.cells (Y6 (List.replicate k 0)) 3)):=by
 obtain ⟨h1,h2,h3⟩:=h
 refine ⟨by rw [I4,A8z,h1];omega,?_,fun j hj=>?_⟩
 ·have := h2.set_ i (.slice (some ⟨wr.heap.size,0,none⟩) k k)
  rw [B3s,h1,show (Value.slice (some ⟨B0 + 1 + i,0,none⟩) k k) = A2X B0 k i from rfl,B5h B0 k hi] at this
  rw [h1]
  exact this.grow (A3.alloc _ _)
 ·rcases Nat.lt_or_ge j i with hlt | hge
  ·exact ((h3 j hlt).far (p:=⟨B0,i,none⟩) (by show B0 + 1 + j ≠ B0;omega) _).grow (A3.alloc _ _)
  ·obtain rfl : j = i:=by omega
   have := Blk.new (wr.setCell ⟨B0,j,none⟩ (.slice (some ⟨wr.heap.size,0,none⟩) k k)) 3 (Y6 (List.replicate k 0))
   rw [A8z,h1] at this
   rw [h1]
   exact this
theorem A3O.next {B0 k : Nat} {l l' : List Int} {r : Nat} {wr : World} (h : A3O B0 k l l' r wr) {p q : Nat} (hp : gi l r = (p : Int)) (hq : gi l' r = (q : Int)) (hpk : p < k) :
  A3O B0 k l l' (r + 1) (wr.setCell ⟨B0 + 1 + p,q,none⟩ (.int .i64 (A09 l l' r p q + 1))):=by
 refine ⟨h.1.far (p:=⟨B0 + 1 + p,q,none⟩) (by show B0 ≠ B0 + 1 + p;omega) _,fun j hj=>?_⟩
 by_cases e : j = p
 ·subst e
  have := (h.2 j hj).set_ q (.int .i64 (A09 l l' r j q + 1))
  rw [B6L,B69 l l' r k j q hp hq] at this
  exact this
 ·rw [← B3b l l' r k j (by rw [hp];omega)]
  exact (h.2 j hj).far (p:=⟨B0 + 1 + p,q,none⟩) (by show B0 + 1 + j ≠ B0 + 1 + p;omega) _
def A7p (B0 k : Nat) (l l' : List Int) (m : Nat) : List Rw:=(List.range k).map fun i=>(some ⟨B0 + 1 + i,0,none⟩,k,A0E l l' m k i)
theorem A3O.rows {B0 k : Nat} {l l' : List Int} {m : Nat} {wr : World} (h : A3O B0 k l l' m wr) : A4P wr (some ⟨B0,0,none⟩) (A7p B0 k l l' m):=fun _ =>
 ⟨B0,0,rfl,h.1.lt,fun i r hi=>by
  unfold A7p at hi
  rw [List.getElem?_map,Option.map_eq_some_iff] at hi
  obtain ⟨j,hj,rfl⟩:=hi
  rw [List.getElem?_eq_some_iff] at hj
  obtain ⟨hj1,hj2⟩:=hj
  simp only [List.length_range] at hj1
  simp only [List.getElem_range] at hj2
  subst hj2
  refine ⟨?_,B65 (h.2 i hj1)⟩
  rw [Nat.zero_add,h.1.cell,B3Z,B3u B0 k hj1]
  simp [A2X,A0E]⟩
end Go.Proofs.YtlkniebmjdoopaaGreatDoor
namespace Go.Proofs.YtlkniebmjdoopaaGreatDoor
def A65 (f : Nat → Int) : Nat → Int
 | 0=>0
 | n + 1=>A65 f n + f n
end Go.Proofs.YtlkniebmjdoopaaGreatDoor
namespace Go.Proofs.YtlkniebmjdoopaaGreatDoor
open Go.RowKit
def Tb (w : World) (bt ot k : Nat) (rb ro rc : Nat → Nat) (T : Nat → Nat → Int) : Prop :=
 bt < w.heap.size ∧ ∀ i,i < k → w.cell? ⟨bt,ot + i,none⟩ = some (.slice (some ⟨rb i,ro i,none⟩) k (rc i)) ∧ rb i < w.heap.size ∧ ∀ j,j < k → w.cell? ⟨rb i,ro i + j,none⟩ = some (.int .i64 (T i j))
theorem Tb.grow {w u : World} {bt ot k : Nat} {rb ro rc : Nat → Nat} {T : Nat → Nat → Int} (h : Tb w bt ot k rb ro rc T) (hg : A3 w u) : Tb u bt ot k rb ro rc T :=
 ⟨Nat.lt_of_lt_of_le h.1 hg.size,fun i hi=>⟨(hg.cell (p:=⟨bt,ot + i,none⟩) h.1).trans (h.2 i hi).1,Nat.lt_of_lt_of_le (h.2 i hi).2.1 hg.size,fun j hj=>(hg.cell (p:=⟨rb i,ro i + j,none⟩) (h.2 i hi).2.1).trans ((h.2 i hi).2.2 j hj)⟩⟩
def qL (q : Rat) : List Value:=[.bool (D2 q.num),.int .u64 (B3 q.num.natAbs),.string (A8 q.num.natAbs),.int .u64 (B3 (H9 q.den)),.string (A8 (H9 q.den))]
theorem B6s (x : Int) (y : Nat) (n d : Int) (s : Nat) (hn : n.natAbs < 2 ^ s) (hd : d.natAbs < 2 ^ s) (hs : 1 ≤ s) : qs (D8 n d) ≤ s:=by
 by_cases h0 : d = 0
 ·subst h0
  unfold D8
  rw [Rat.divInt_zero]
  exact A8h 0 s (by simp;exact Nat.two_pow_pos s) hs
 ·refine Nat.max_le.2 ⟨?_,?_⟩
  ·rw [B1F n d h0,R0]
   exact Nat.le_trans (M5 _ _) (K5.2 hn)
  ·rw [A87 n d h0]
   exact Nat.le_trans (M5 _ _) (K5.2 hd)
def Lq (u : World) (A : Option Addr) (l : List Rat) : Prop :=
 l ≠ [] → ∃ b off,A = some ⟨b,off,none⟩ ∧ b < u.heap.size ∧ ∀ i q,l[i]? = some q → ∀ j v,(qL q)[j]? = some v → u.cell? ⟨b,off + i * 5 + j,none⟩ = some v
theorem Lq.nil (u : World) (A : Option Addr) : Lq u A []:=fun h=>absurd rfl h
theorem Lq.grow {u u' : World} {A : Option Addr} {l : List Rat} (h : Lq u A l) (hg : A3 u u') : Lq u' A l:=fun hn=>by
 obtain ⟨b,off,e,hb,hc⟩:=h hn
 exact ⟨b,off,e,Nat.lt_of_lt_of_le hb hg.size,fun i x hi j v hj=>(hg.cell (p:=⟨b,off + i * 5 + j,none⟩) hb).trans (hc i x hi j v hj)⟩
def gq (l : List Rat) (i : Nat) : Rat:=(l[i]?).getD 0
theorem A0Y {l : List Rat} {i : Nat} (h : i < l.length) : l[i]? = some (gq l i):=by
 unfold gq;rw [List.getElem?_eq_getElem h];rfl
theorem A1U {l : List Rat} {i : Nat} (h : i < l.length) : gq l i ∈ l:=List.mem_of_getElem? (A0Y h)
def Cq (u : World) (b o : Nat) (q : Rat) : Prop:=u.cell? ⟨b,o,none⟩ = some (.bool (D2 q.num)) ∧ u.cell? ⟨b,o + 1,none⟩ = some (.int .u64 (B3 q.num.natAbs)) ∧ u.cell? ⟨b,o + 2,none⟩ = some (.string (A8 q.num.natAbs)) ∧
 u.cell? ⟨b,o + 3,none⟩ = some (.int .u64 (B3 (H9 q.den))) ∧ u.cell? ⟨b,o + 4,none⟩ = some (.string (A8 (H9 q.den)))
theorem Lq.at {u : World} {A : Option Addr} {l : List Rat} (h : Lq u A l) (hne : l ≠ []) : ∃ b off,A = some ⟨b,off,none⟩ ∧ b < u.heap.size ∧ ∀ i,i < l.length → Cq u b (off + i * 5) (gq l i):=by
 obtain ⟨b,off,e,hb,hc⟩:=h hne
 exact ⟨b,off,e,hb,fun i hi=>⟨hc i _ (A0Y hi) 0 _ rfl,hc i _ (A0Y hi) 1 _ rfl,hc i _ (A0Y hi) 2 _ rfl,hc i _ (A0Y hi) 3 _ rfl,hc i _ (A0Y hi) 4 _ rfl⟩⟩
theorem Lq.read {u : World} {b off : Nat} {l : List Rat} (h : Lq u (some ⟨b,off,none⟩) l) {i : Nat} (hi : i < l.length) : Cq u b (off + i * 5) (gq l i):=by
 obtain ⟨b',off',e,_,hc⟩:=h.at (fun h0=>by rw [h0] at hi;cases hi)
 cases e
 exact hc i hi
theorem Lq.addr {u : World} {A : Option Addr} {l : List Rat} (h : Lq u A l) (hl : 0 < l.length) : ∃ b off,A = some ⟨b,off,none⟩:=by
 obtain ⟨b,off,e,_⟩:=h (fun h0=>by rw [h0] at hl;cases hl)
 exact ⟨b,off,e⟩
theorem B1y : qs 0 = 1:=by show max (bl 0) (bl 1) = 1;rw [A0d,A2T.2 rfl];rfl
theorem A9Q (n : Nat) (h : n ≤ 1099511627776) : qs (B1 (n : Nat)) ≤ 41:=by
 refine A8h (n : Int) 41 ?_ (by omega)
 rw [Int.natAbs_natCast]
 omega
def A1V (b2 b3 : Nat) (A B : Option Addr) (m c d : Nat) (l l' : List Rat) (W : World) : Prop :=
 Blk W b2 23 #[.slice A m c] ∧ Blk W b3 23 #[.slice B m d] ∧ Lq W A l ∧ Lq W B l'
theorem A1V.mk {b2 b3 : Nat} {A B : Option Addr} {m c d : Nat} {l l' : List Rat} {u : World} (h1 : Blk u b2 23 #[.slice A m c]) (h2 : Blk u b3 23 #[.slice B m d]) (h3 : Lq u A l) (h4 : Lq u B l') : A1V b2 b3 A B m c d l l' u:=⟨h1,h2,h3,h4⟩
theorem A1V.grow {b2 b3 : Nat} {A B : Option Addr} {m c d : Nat} {l l' : List Rat} {u u' : World} (hg : A3 u u') (h : A1V b2 b3 A B m c d l l' u) : A1V b2 b3 A B m c d l l' u':=⟨h.1.grow hg,h.2.1.grow hg,h.2.2.1.grow hg,h.2.2.2.grow hg⟩
theorem A1V.cells {b2 b3 ba oa bb ob : Nat} {m c d : Nat} {l l' : List Rat} {W : World} (h : A1V b2 b3 (some ⟨ba,oa,none⟩) (some ⟨bb,ob,none⟩) m c d l l' W) {i : Nat} (h1 : i < l.length) (h2 : i < l'.length) :
  (W.cell? ⟨b2,0,none⟩ = some (.slice (some ⟨ba,oa,none⟩) m c) ∧ W.cell? ⟨b3,0,none⟩ = some (.slice (some ⟨bb,ob,none⟩) m d)) ∧ Cq W ba (oa + i * 5) (gq l i) ∧ Cq W bb (ob + i * 5) (gq l' i) :=
 ⟨⟨h.1.cell 0,h.2.1.cell 0⟩,h.2.2.1.read h1,h.2.2.2.read h2⟩
def Lb (u : World) (A : Option Addr) (l : List Bool) : Prop :=
 l ≠ [] → ∃ b off,A = some ⟨b,off,none⟩ ∧ b < u.heap.size ∧ ∀ i x,l[i]? = some x → u.cell? ⟨b,off + i,none⟩ = some (.bool x)
theorem Lb.nil (u : World) (A : Option Addr) : Lb u A []:=fun h=>absurd rfl h
theorem Lb.grow {u u' : World} {A : Option Addr} {l : List Bool} (h : Lb u A l) (hg : A3 u u') : Lb u' A l:=fun hn=>by
 obtain ⟨b,off,e,hb,hc⟩:=h hn
 exact ⟨b,off,e,Nat.lt_of_lt_of_le hb hg.size,fun i x hi=>(hg.cell (p:=⟨b,off + i,none⟩) hb).trans (hc i x hi)⟩
def gb (l : List Bool) (i : Nat) : Bool:=(l[i]?).getD false
theorem B5X {l : List Bool} {i : Nat} (h : i < l.length) : l[i]? = some (gb l i):=by
 unfold gb;rw [List.getElem?_eq_getElem h];rfl
theorem Lb.addr {u : World} {A : Option Addr} {l : List Bool} (h : Lb u A l) (hl : 0 < l.length) : ∃ b off,A = some ⟨b,off,none⟩:=by
 obtain ⟨b,off,e,_⟩:=h (fun h0=>by rw [h0] at hl;cases hl)
 exact ⟨b,off,e⟩
theorem Lb.read {u : World} {b off : Nat} {l : List Bool} (h : Lb u (some ⟨b,off,none⟩) l) {i : Nat} (hi : i < l.length) : u.cell? ⟨b,off + i,none⟩ = some (.bool (gb l i)):=by
 obtain ⟨b',off',e,_,hc⟩:=h (fun h0=>by rw [h0] at hi;cases hi)
 cases e
 exact hc i _ (B5X hi)
def hv (is : List Bool) (l : List Rat) (i j : Nat) : Int:=if gb is i && !gb is j then H4 (gq l i) (gq l j) + 1 else 0
def B7h (is : List Bool) (l : List Rat) (m : Nat) : Int:=A65 (fun a=>A65 (hv is l a) m) m
abbrev Rq:=Option Addr × Nat × List Rat
def Lrq (u : World) (A : Option Addr) (rs : List Rq) : Prop :=
 rs ≠ [] → ∃ b off,A = some ⟨b,off,none⟩ ∧ b < u.heap.size ∧ ∀ i r,rs[i]? = some r → u.cell? ⟨b,off + i,none⟩ = some (.slice r.1 r.2.2.length r.2.1) ∧ Lq u r.1 r.2.2
theorem Lrq.grow {u u' : World} {A : Option Addr} {rs : List Rq} (h : Lrq u A rs) (hg : A3 u u') : Lrq u' A rs:=fun hn=>by
 obtain ⟨b,off,e,hb,hc⟩:=h hn
 exact ⟨b,off,e,Nat.lt_of_lt_of_le hb hg.size,fun i r hi=>⟨(hg.cell (p:=⟨b,off + i,none⟩) hb).trans (hc i r hi).1,(hc i r hi).2.grow hg⟩⟩
theorem Lrq.addr {u : World} {A : Option Addr} {rs : List Rq} (h : Lrq u A rs) (hl : 0 < rs.length) : ∃ b off,A = some ⟨b,off,none⟩:=by
 obtain ⟨b,off,e,_⟩:=h (fun h0=>by rw [h0] at hl;cases hl)
 exact ⟨b,off,e⟩
theorem Lrq.read {u : World} {b off : Nat} {rs : List Rq} (h : Lrq u (some ⟨b,off,none⟩) rs) {i : Nat} {r : Rq} (hi : rs[i]? = some r) : u.cell? ⟨b,off + i,none⟩ = some (.slice r.1 r.2.2.length r.2.1) ∧ Lq u r.1 r.2.2:=by
 obtain ⟨b',off',e,_,hc⟩:=h (fun h0=>by rw [h0] at hi;simp at hi)
 cases e
 exact hc i r hi
end Go.Proofs.YtlkniebmjdoopaaGreatDoor
