/- Contracts and laws. -/
import Derived.Test.YtgpglgbcobeogaaGreatDoorA28
import Derived.Test.YtgpglgbcobeogaaGreatDoorCards
import Derived.Test.YtgpglgbcobeogaaGreatDoorTie
import Derived.WalkKit
import Derived.ProofKit
import Derived.OpenShut
import Derived.Carry
import Derived.ChangeOld
import Derived.ChangeSlices
import Derived.Deep.DeepHandedRow
import Derived.Lib.LaidTab
import Derived.RegionTactic
import Derived.Deep.Grids
set_option linter.unusedSimpArgs false
set_option linter.unusedVariables false
set_option maxRecDepth 100000
namespace Go.Proofs.YtgpglgbcobeogaaGreatDoor
open Go.RowKit
def Li (u : World) (A : Option Addr) (l : List Int) : Prop :=
 l ≠ [] → ∃ b off,A = some ⟨b,off,none⟩ ∧ b < u.heap.size ∧ ∀ i x,l[i]? = some x → u.cell? ⟨b,off + i,none⟩ = some (.int .i64 x)
theorem Li.nil (u : World) (A : Option Addr) : Li u A []:=fun h=>absurd rfl h
theorem Li.grow {u u' : World} {A : Option Addr} {l : List Int} (h : Li u A l) (hg : A4 u u') : Li u' A l:=fun hn=>by
 obtain ⟨b,off,e,hb,hc⟩:=h hn
 exact ⟨b,off,e,Nat.lt_of_lt_of_le hb hg.size,fun i x hi=>(hg.cell (p:=⟨b,off + i,none⟩) hb).trans (hc i x hi)⟩
def gi (l : List Int) (i : Nat) : Int:=(l[i]?).getD 0
theorem A3z {l : List Int} {i : Nat} (h : i < l.length) : l[i]? = some (gi l i):=by
 unfold gi;rw [List.getElem?_eq_getElem h];rfl
theorem Li.cell {u : World} {A : Option Addr} {l : List Int} (h : Li u A l) {i : Nat} (hi : i < l.length) : ∃ b off,A = some ⟨b,off,none⟩ ∧ u.cell? ⟨b,off + i,none⟩ = some (.int .i64 (gi l i)):=by
 obtain ⟨b,off,e,hb,hc⟩:=h (fun h0=>by rw [h0] at hi;cases hi)
 exact ⟨b,off,e,hc i _ (A3z hi)⟩
def cnt (t : Nat → Bool) : Nat → Nat
 | 0=>0
 | n + 1=>cnt t n + (if t n then 1 else 0)
def A2m (b2 b3 : Nat) (A B : Option Addr) (m c d : Nat) (l l' : List Int) (W : World) : Prop :=
 Blk W b2 22 #[.slice A m c] ∧ Blk W b3 22 #[.slice B m d] ∧ Li W A l ∧ Li W B l'
theorem A2m.mk {b2 b3 : Nat} {A B : Option Addr} {m c d : Nat} {l l' : List Int} {u : World} (h1 : Blk u b2 22 #[.slice A m c]) (h2 : Blk u b3 22 #[.slice B m d]) (h3 : Li u A l) (h4 : Li u B l') : A2m b2 b3 A B m c d l l' u:=⟨h1,h2,h3,h4⟩
theorem A2m.grow {b2 b3 : Nat} {A B : Option Addr} {m c d : Nat} {l l' : List Int} {u u' : World} (hg : A4 u u') (h : A2m b2 b3 A B m c d l l' u) : A2m b2 b3 A B m c d l l' u':=⟨h.1.grow hg,h.2.1.grow hg,h.2.2.1.grow hg,h.2.2.2.grow hg⟩
end Go.Proofs.YtgpglgbcobeogaaGreatDoor
namespace Go.Proofs.YtgpglgbcobeogaaGreatDoor
open Go.ChangeShapes Go.WideShapes Go.ChangeAt Go.RowKit
theorem B4U : ownKnob Tryz.prog.godebug = none:=by kernel_rfl
theorem A80 : laidOutB Tryz.prog = true:=by kernel_rfl
theorem A7I : Tryz.prog.cellsOf 3 = 1:=by kernel_rfl
theorem A75 {H : Type} {enc : TypeId × Value → H} {W W' : World} (hb : Below W.heap.size W W') : ∀ {ts : List TypeId} {vs : List Value} {ds : List (DataW H)} {ps : List MemPlace},(∀ t ∈ ts,Tryz.prog.readableRec t = true ∧ t < Tryz.prog.types.size) → (∀ x ∈ ps,x.block < W.heap.size) →
  DataW.TrodAll enc Tryz.prog W 0 (fun _=>true) true ts vs ds ps → DataW.TrodAll enc Tryz.prog W' 0 (fun b=>decide (b < W.heap.size)) true ts vs ds ps
 | [],vs,ds,ps,_,_,h=>by
  obtain ⟨rfl,rfl,rfl⟩:=trodAll_nil h
  exact trodAll_mk0
 | t :: ts,vs,ds,ps,ht,hlt,h=>by
  obtain ⟨v,vs1,d,ds1,a,b,rfl,rfl,rfl,h1,h2⟩:=trodAll_cons h
  obtain ⟨r1,r2⟩:=ht t (by simp)
  exact ⟨a,b,Below.trod A80 r1 r2 h1 hb (fun x hx=>hlt x (by simp [hx])),A75 hb (fun t ht'=>ht t (by simp [ht'])) (fun x hx=>hlt x (by simp [hx])) h2,rfl⟩
theorem B29 {H : Type} {enc : TypeId × Value → H} {f : Func} {s : ChangeSpec} {apart : Bool} {W W' : World} {args : Array Value} {ds gs : List (DataW H)} {before : List MemPlace}
  (hW : DataW.Whole enc Tryz.prog f.params.toList s.vars apart W args.toList ds gs before) (hv : s.vars = []) (hf1 : (s.fn H (ds ++ gs)).results = [.lit (.bool true)]) (hf2 : (s.fn H (ds ++ gs)).args = ds) (hf3 : (s.fn H (ds ++ gs)).vars = []) (hr : f.resultTypes = #[4])
  (hp : ∀ t ∈ f.params.toList,Tryz.prog.readableRec t = true ∧ t < Tryz.prog.types.size) (hb : Below W.heap.size W W') : s.post enc Tryz.prog f apart true false false W args (.bool true) W':=by
 have hlt:=hW.lt
 have hW2:=hW
 obtain ⟨p,q,hA,hV,rfl,hz,hn⟩:=hW
 refine ⟨ds,gs,p ++ q,[],p,[],hW2,?_,?_,?_,?_,fun h=>by cases h⟩
 ·rw [hf1,hr]
  exact trodAll_cons_mk (shut_bool Tryz.underlying4 _) trodAll_mk0
 ·rw [hf2]
  exact A75 hb hp (fun x hx=>hlt x (by simp [hx])) hA
 ·rw [hf3,hv]
  rfl
 ·exact hb.frame _
theorem B4G {H : Type} {enc : TypeId × Value → H} {W : World} {base : Nat} {v : Value} {d : DataW H} {p : List MemPlace} (hval : Value.okWide Tryz.prog W .any base 22 v) (h : DataW.Trod enc Tryz.prog W 0 (fun _=>true) true 22 v d p) :
  ∃ (A : Option Addr) (l : List Int) (c : Nat),v = .slice A l.length c ∧ Li W A l ∧ l.length ≤ 9223372036854775807 ∧ ∀ x ∈ l,-9223372036854775808 ≤ x ∧ x ≤ 9223372036854775807:=by
 obtain ⟨a0,len,cap,rfl⟩:=okWide_slice Tryz.underlying22 hval
 obtain ⟨fuel,hf⟩:=h
 rcases open_ints Tryz.underlying22 Tryz.underlying3 A7I hf with ⟨hcs,hx⟩ | ⟨a,len',cap',zs,hcs,_,hl,hm,hz,hx,hcell,hwz⟩
 ·simp [Value.cells] at hcs
  obtain ⟨rfl,rfl,rfl⟩:=hcs
  exact ⟨none,[],0,rfl,Li.nil _ _,by simp,fun x hx=>by cases hx⟩
 ·simp [Value.cells] at hcs
  obtain ⟨rfl,rfl,rfl⟩:=hcs
  simp only [if_true] at hz
  have hlen : (zs.take len).length = len:=by simp;omega
  refine ⟨some a,zs.take len,cap,by rw [hlen],fun hne=>?_,by rw [hlen];unfold maxLen at hm;omega,fun x hx=>bounds_i64 (hwz x (List.mem_of_mem_take hx))⟩
  have h0 : 0 < zs.length:=by
   have : 0 < (zs.take len).length:=List.length_pos_iff.2 hne
   omega
  obtain ⟨b,off,rfl,hc⟩:=ints_at hcell h0
  have hb : b < W.heap.size:=World.block_lt_of_cell? W _ (hc 0 h0)
  refine ⟨b,off,rfl,hb,fun i x hi=>?_⟩
  have hi2 : i < (zs.take len).length:=(List.getElem?_eq_some_iff.1 hi).1
  have hi3 : zs[i]? = some x:=by
   rw [List.getElem?_take] at hi
   split at hi
   ·exact hi
   ·cases hi
  rw [hc i (by rw [hlen] at hi2;omega)]
  simp [List.getD,hi3]
def A5V : List Int:=[0,1,56,2,57,49,28,3,61,58,42,50,38,29,17,4,62,47,59,36,45,43,51,22,53,39,33,30,24,18,12,5,63,55,48,27,60,41,37,16,46,35,44,21,52,32,23,11,54,26,40,15,34,20,31,10,25,14,19,9,13,8,7,6]
theorem B4X : ∀ j,j < 64 → A5V.getD j 0 = ((Lib.deBruijn64tab.getD j 0 : Nat) : Int):=by decide
theorem B14 : (Tryz.prog.globals[2]?).map (·.type) = some 271:=by kernel_rfl
theorem B2o : Tryz.prog.cellsOf 271 = 64:=by kernel_rfl
theorem B2T : Tryz.prog.cellsOf 5 = 1:=by kernel_rfl
theorem B04 {W : World} {name : String} (hg : Tryz.prog.globalNamed name = some 2) (h : laidMetH Tryz.prog [(name,Lib.tabData .u8 A5V)] W) : Tab W:=fun j hj=>by
 have h1:=(Lib.tabIs_of_head (rest:=[]) hg B14 Tryz.underlying271 Tryz.underlying5 B2T B2o h).cell hg j (by show j < 64;exact hj)
 rw [B4X j hj] at h1
 exact h1
noncomputable def laidWorld (os : Os) : World :=
 { World.holding Tryz.prog os ⟨#[],#[],[]⟩ with heap:=(World.holding Tryz.prog os ⟨#[],#[],[]⟩).heap.modify 2 fun
   | .cells _ t frozen=>.cells (A5V.map fun x=>Value.int .u8 x).toArray t frozen
   | o=>o }
end Go.Proofs.YtgpglgbcobeogaaGreatDoor
namespace Go.Proofs.YtgpglgbcobeogaaGreatDoor
open Go.RowKit
abbrev Rw:=Option Addr × Nat × List Int
def A3a (u : World) (A : Option Addr) (rs : List Rw) : Prop :=
 rs ≠ [] → ∃ b off,A = some ⟨b,off,none⟩ ∧ b < u.heap.size ∧ ∀ i r,rs[i]? = some r → u.cell? ⟨b,off + i,none⟩ = some (.slice r.1 r.2.2.length r.2.1) ∧ Li u r.1 r.2.2
theorem A3a.grow {u u' : World} {A : Option Addr} {rs : List Rw} (h : A3a u A rs) (hg : A4 u u') : A3a u' A rs:=fun hn=>by
 obtain ⟨b,off,e,hb,hc⟩:=h hn
 exact ⟨b,off,e,Nat.lt_of_lt_of_le hb hg.size,fun i r hi=>⟨(hg.cell (p:=⟨b,off + i,none⟩) hb).trans (hc i r hi).1,(hc i r hi).2.grow hg⟩⟩
def O8 (l : List Int) : Array Value:=(l.map fun x=>Value.int .i64 x).toArray
theorem A4J (l : List Int) (i : Nat) : (O8 l)[i]? = (l[i]?).map fun x=>Value.int .i64 x:=by
 unfold O8;simp
theorem A7D (l : List Int) (i : Nat) (y : Int) : (O8 l).setIfInBounds i (.int .i64 y) = O8 (l.set i y):=by
 unfold O8
 rw [List.setIfInBounds_toArray,List.map_set]
theorem B0a {u : World} {b : Nat} {l : List Int} (h : Blk u b 3 (O8 l)) : Li u (some ⟨b,0,none⟩) l:=fun _ =>
 ⟨b,0,rfl,h.lt,fun i x hi=>by rw [Nat.zero_add,h.cell,A4J,hi];rfl⟩
theorem A8t : (Tryz.prog.info? 3).map (fun i=>(i.zero,i.size,i.bytes)) = some (some (.int .i64 0),1,8):=by kernel_rfl
theorem B3O (n : Nat) : madeCells (Value.int .i64 0).cells (n * 1) = O8 (List.replicate n 0):=by
 unfold O8 madeCells
 refine Array.ext (by simp) fun i h1 h2=>?_
 simp [Value.cells,Nat.mod_one]
theorem B2L (n : Nat) (hn : n ≤ 1099511627776) (x : Int) (hx : x = n) (W : World) : (Instr.makeSlice 22 (.int .i64 x) (.int .i64 x)).run Tryz.prog W =
  .ok (.slice (some ⟨W.heap.size,0,none⟩) n n) (W.alloc (.cells (O8 (List.replicate n 0)) 3)):=by
 obtain ⟨i0,hi0,hz0,hz1,hz2⟩:=info_parts A8t
 have hr:=run_make (P:=Tryz.prog) W 22 3 i0 (.int .i64 0) Tryz.underlying22 hi0 hz0 .i64 .i64 n n (by omega) (by omega) (by rw [hz2];omega) (by omega)
 rw [hx]
 rw [hr,hz1]
 simp only [Int.toNat_natCast]
 rw [B3O]
def A1M (l : List Value) : Array Value:=l.toArray
def A1B (l l' : List Int) (r i j : Nat) : Int:=(cnt (fun s=>gi l s == (i : Int) && gi l' s == (j : Int)) r : Nat)
def A0k (l l' : List Int) (r k i : Nat) : List Int:=(List.range k).map (A1B l l' r i)
theorem A7f (l l' : List Int) (r i j : Nat) : A1B l l' (r + 1) i j = A1B l l' r i j + if gi l r = (i : Int) ∧ gi l' r = (j : Int) then 1 else 0:=by
 unfold A1B
 simp only [cnt]
 by_cases h : gi l r = (i : Int) ∧ gi l' r = (j : Int)
 ·rw [if_pos h,if_pos (by simp [h.1,h.2])];omega
 ·rw [if_neg h,if_neg (by simpa using h)];omega
theorem B2F (l l' : List Int) (r k i j : Nat) (h1 : gi l r = (i : Int)) (h2 : gi l' r = (j : Int)) : (A0k l l' r k i).set j (A1B l l' r i j + 1) = A0k l l' (r + 1) k i:=by
 unfold A0k
 refine List.ext_getElem (by simp) fun t g1 g2=>?_
 rw [List.getElem_set]
 simp only [List.getElem_map,List.getElem_range,A7f,h1,h2,true_and]
 by_cases e : j = t
 ·subst e;simp
 ·rw [if_neg e,if_neg (by omega)];omega
theorem B2w (l l' : List Int) (r k i : Nat) (h1 : gi l r ≠ (i : Int)) : A0k l l' r k i = A0k l l' (r + 1) k i:=by
 unfold A0k
 refine List.map_congr_left fun t _=>?_
 rw [A7f,if_neg (fun h=>h1 h.1)]
 omega
def A2V (B0 k i : Nat) : Value:=.slice (some ⟨B0 + 1 + i,0,none⟩) k k
def A1A (B0 k i : Nat) : List Value:=(List.range i).map (A2V B0 k) ++ List.replicate (k - i) (.slice none 0 0)
theorem A8s (B0 k : Nat) {i : Nat} (h : i < k) : (A1A B0 k i).set i (A2V B0 k i) = A1A B0 k (i + 1):=by
 unfold A1A
 rw [List.set_append_right _ _ (by simp),List.length_map,List.length_range,Nat.sub_self]
 obtain ⟨m,hm⟩ : ∃ m,k - i = m + 1:=⟨k - i - 1,by omega⟩
 rw [hm,show k - (i + 1) = m by omega,List.range_succ,List.map_append,List.append_assoc]
 rfl
theorem B2a (B0 k : Nat) {i : Nat} (h : i < k) : (A1A B0 k k)[i]? = some (A2V B0 k i):=by
 unfold A1A;simp [h]
theorem B0h (l : List Value) (i : Nat) : (A1M l)[i]? = l[i]?:=by unfold A1M;simp
theorem B00 (l : List Value) (i : Nat) (v : Value) : (A1M l).setIfInBounds i v = A1M (l.set i v):=by
 unfold A1M;rw [List.setIfInBounds_toArray]
def A4z (B0 k i : Nat) (wr : World) : Prop:=wr.heap.size = B0 + 1 + i ∧ Blk wr B0 22 (A1M (A1A B0 k i)) ∧ ∀ j,j < i → Blk wr (B0 + 1 + j) 3 (O8 (List.replicate k 0))
def A2l (B0 k : Nat) (l l' : List Int) (r : Nat) (wr : World) : Prop:=Blk wr B0 22 (A1M (A1A B0 k k)) ∧ ∀ j,j < k → Blk wr (B0 + 1 + j) 3 (O8 (A0k l l' r k j))
theorem A6S (u : World) (p : Addr) (v : Value) : (u.setCell p v).heap.size = u.heap.size:=by simp [World.setCell]
theorem A4z.next {B0 k i : Nat} {wr : World} (h : A4z B0 k i wr) (hi : i < k) : A4z B0 k (i + 1) ((wr.setCell ⟨B0,i,none⟩ (.slice (some ⟨wr.heap.size,0,none⟩) k k)).alloc (.cells (O8 (List.replicate k 0)) 3)):=by
 obtain ⟨h1,h2,h3⟩:=h
 refine ⟨by rw [I2,A6S,h1];omega,?_,fun j hj=>?_⟩
 ·have := h2.set_ i (.slice (some ⟨wr.heap.size,0,none⟩) k k)
  rw [B00,h1,show (Value.slice (some ⟨B0 + 1 + i,0,none⟩) k k) = A2V B0 k i from rfl,A8s B0 k hi] at this
  rw [h1]
  exact this.grow (A4.alloc _ _)
 ·rcases Nat.lt_or_ge j i with hlt | hge
  ·exact ((h3 j hlt).far (p:=⟨B0,i,none⟩) (by show B0 + 1 + j ≠ B0;omega) _).grow (A4.alloc _ _)
  ·obtain rfl : j = i:=by omega
   have := Blk.new (wr.setCell ⟨B0,j,none⟩ (.slice (some ⟨wr.heap.size,0,none⟩) k k)) 3 (O8 (List.replicate k 0))
   rw [A6S,h1] at this
   rw [h1]
   exact this
theorem A2l.next {B0 k : Nat} {l l' : List Int} {r : Nat} {wr : World} (h : A2l B0 k l l' r wr) {p q : Nat} (hp : gi l r = (p : Int)) (hq : gi l' r = (q : Int)) (hpk : p < k) :
  A2l B0 k l l' (r + 1) (wr.setCell ⟨B0 + 1 + p,q,none⟩ (.int .i64 (A1B l l' r p q + 1))):=by
 refine ⟨h.1.far (p:=⟨B0 + 1 + p,q,none⟩) (by show B0 ≠ B0 + 1 + p;omega) _,fun j hj=>?_⟩
 by_cases e : j = p
 ·subst e
  have := (h.2 j hj).set_ q (.int .i64 (A1B l l' r j q + 1))
  rw [A7D,B2F l l' r k j q hp hq] at this
  exact this
 ·rw [← B2w l l' r k j (by rw [hp];omega)]
  exact (h.2 j hj).far (p:=⟨B0 + 1 + p,q,none⟩) (by show B0 + 1 + j ≠ B0 + 1 + p;omega) _
def A7V (B0 k : Nat) (l l' : List Int) (m : Nat) : List Rw:=(List.range k).map fun i=>(some ⟨B0 + 1 + i,0,none⟩,k,A0k l l' m k i)
theorem A2l.rows {B0 k : Nat} {l l' : List Int} {m : Nat} {wr : World} (h : A2l B0 k l l' m wr) : A3a wr (some ⟨B0,0,none⟩) (A7V B0 k l l' m):=fun _ =>
 ⟨B0,0,rfl,h.1.lt,fun i r hi=>by
  unfold A7V at hi
  rw [List.getElem?_map,Option.map_eq_some_iff] at hi
  obtain ⟨j,hj,rfl⟩:=hi
  rw [List.getElem?_eq_some_iff] at hj
  obtain ⟨hj1,hj2⟩:=hj
  simp only [List.length_range] at hj1
  simp only [List.getElem_range] at hj2
  subst hj2
  refine ⟨?_,B0a (h.2 i hj1)⟩
  rw [Nat.zero_add,h.1.cell,B0h,B2a B0 k hj1]
  simp [A2V,A0k]⟩
end Go.Proofs.YtgpglgbcobeogaaGreatDoor
namespace Go.Proofs.YtgpglgbcobeogaaGreatDoor
def A4k (f : Nat → Int) : Nat → Int
 | 0=>0
 | n + 1=>A4k f n + f n
section
variable {k : Nat} {T : Nat → Nat → Int} {i j : Nat}
end
end Go.Proofs.YtgpglgbcobeogaaGreatDoor
namespace Go.Proofs.YtgpglgbcobeogaaGreatDoor
open Go.RowKit
def Tb (w : World) (bt ot k : Nat) (rb ro rc : Nat → Nat) (T : Nat → Nat → Int) : Prop :=
 bt < w.heap.size ∧ ∀ i,i < k → w.cell? ⟨bt,ot + i,none⟩ = some (.slice (some ⟨rb i,ro i,none⟩) k (rc i)) ∧ rb i < w.heap.size ∧ ∀ j,j < k → w.cell? ⟨rb i,ro i + j,none⟩ = some (.int .i64 (T i j))
theorem Tb.grow {w u : World} {bt ot k : Nat} {rb ro rc : Nat → Nat} {T : Nat → Nat → Int} (h : Tb w bt ot k rb ro rc T) (hg : A4 w u) : Tb u bt ot k rb ro rc T :=
 ⟨Nat.lt_of_lt_of_le h.1 hg.size,fun i hi=>⟨(hg.cell (p:=⟨bt,ot + i,none⟩) h.1).trans (h.2 i hi).1,Nat.lt_of_lt_of_le (h.2 i hi).2.1 hg.size,fun j hj=>(hg.cell (p:=⟨rb i,ro i + j,none⟩) (h.2 i hi).2.1).trans ((h.2 i hi).2.2 j hj)⟩⟩
def qL (q : Rat) : List Value:=[.bool (E4 q.num),.int .u64 (B7 q.num.natAbs),.string (B5 q.num.natAbs),.int .u64 (B7 (J6 q.den)),.string (B5 (J6 q.den))]
theorem B1w (x : Int) (y : Nat) (n d : Int) (s : Nat) (hn : n.natAbs < 2 ^ s) (hd : d.natAbs < 2 ^ s) (hs : 1 ≤ s) : qs (G5 n d) ≤ s:=by
 by_cases h0 : d = 0
 ·subst h0
  unfold G5
  rw [Rat.divInt_zero]
  exact A7y 0 s (by simp;exact Nat.two_pow_pos s) hs
 ·refine Nat.max_le.2 ⟨?_,?_⟩
  ·rw [A6A n d h0,O2]
   exact Nat.le_trans (M9 _ _) (O4.2 hn)
  ·rw [A8M n d h0]
   exact Nat.le_trans (M9 _ _) (O4.2 hd)
def Lq (u : World) (A : Option Addr) (l : List Rat) : Prop :=
 l ≠ [] → ∃ b off,A = some ⟨b,off,none⟩ ∧ b < u.heap.size ∧ ∀ i q,l[i]? = some q → ∀ j v,(qL q)[j]? = some v → u.cell? ⟨b,off + i * 5 + j,none⟩ = some v
theorem Lq.nil (u : World) (A : Option Addr) : Lq u A []:=fun h=>absurd rfl h
theorem Lq.grow {u u' : World} {A : Option Addr} {l : List Rat} (h : Lq u A l) (hg : A4 u u') : Lq u' A l:=fun hn=>by
 obtain ⟨b,off,e,hb,hc⟩:=h hn
 exact ⟨b,off,e,Nat.lt_of_lt_of_le hb hg.size,fun i x hi j v hj=>(hg.cell (p:=⟨b,off + i * 5 + j,none⟩) hb).trans (hc i x hi j v hj)⟩
def gq (l : List Rat) (i : Nat) : Rat:=(l[i]?).getD 0
theorem A0X {l : List Rat} {i : Nat} (h : i < l.length) : l[i]? = some (gq l i):=by
 unfold gq;rw [List.getElem?_eq_getElem h];rfl
theorem A4w {l : List Rat} {i : Nat} (h : i < l.length) : gq l i ∈ l:=List.mem_of_getElem? (A0X h)
def Cq (u : World) (b o : Nat) (q : Rat) : Prop:=u.cell? ⟨b,o,none⟩ = some (.bool (E4 q.num)) ∧ u.cell? ⟨b,o + 1,none⟩ = some (.int .u64 (B7 q.num.natAbs)) ∧ u.cell? ⟨b,o + 2,none⟩ = some (.string (B5 q.num.natAbs)) ∧
 u.cell? ⟨b,o + 3,none⟩ = some (.int .u64 (B7 (J6 q.den))) ∧ u.cell? ⟨b,o + 4,none⟩ = some (.string (B5 (J6 q.den)))
theorem Lq.at {u : World} {A : Option Addr} {l : List Rat} (h : Lq u A l) (hne : l ≠ []) : ∃ b off,A = some ⟨b,off,none⟩ ∧ b < u.heap.size ∧ ∀ i,i < l.length → Cq u b (off + i * 5) (gq l i):=by
 obtain ⟨b,off,e,hb,hc⟩:=h hne
 exact ⟨b,off,e,hb,fun i hi=>⟨hc i _ (A0X hi) 0 _ rfl,hc i _ (A0X hi) 1 _ rfl,hc i _ (A0X hi) 2 _ rfl,hc i _ (A0X hi) 3 _ rfl,hc i _ (A0X hi) 4 _ rfl⟩⟩
theorem Lq.read {u : World} {b off : Nat} {l : List Rat} (h : Lq u (some ⟨b,off,none⟩) l) {i : Nat} (hi : i < l.length) : Cq u b (off + i * 5) (gq l i):=by
 obtain ⟨b',off',e,_,hc⟩:=h.at (fun h0=>by rw [h0] at hi;cases hi)
 cases e
 exact hc i hi
theorem Lq.addr {u : World} {A : Option Addr} {l : List Rat} (h : Lq u A l) (hl : 0 < l.length) : ∃ b off,A = some ⟨b,off,none⟩:=by
 obtain ⟨b,off,e,_⟩:=h (fun h0=>by rw [h0] at hl;cases hl)
 exact ⟨b,off,e⟩
def A1l (f : Nat → Rat) : Nat → Rat
 | 0=>0
 | n + 1=>G9 (A1l f n) (f n)
theorem A1Y : qs 0 = 1:=by show max (bl 0) (bl 1) = 1;rw [A0Y,A2d.2 rfl];rfl
theorem A7k (f : Nat → Rat) (s n : Nat) (h : ∀ i,i < n → qs (f i) ≤ s) : ∀ j,j ≤ n → qs (A1l f j) ≤ j * (s + 1) + 1
 | 0,_=>by rw [A1l,A1Y];omega
 | j + 1,hj=>by
  have ih:=A7k f s n h j (by omega)
  have h1:=A20 (A1l f j) (f j)
  have h2:=h j (by omega)
  show qs (A1l f j + f j) ≤ _
  rw [Nat.add_mul]
  omega
theorem A8v (n : Nat) (h : n ≤ 1099511627776) : qs (C5 (n : Nat)) ≤ 41:=by
 refine A7y (n : Int) 41 ?_ (by omega)
 rw [Int.natAbs_natCast]
 omega
def A1R (b2 b3 : Nat) (A B : Option Addr) (m c d : Nat) (l l' : List Rat) (W : World) : Prop :=
 Blk W b2 35 #[.slice A m c] ∧ Blk W b3 35 #[.slice B m d] ∧ Lq W A l ∧ Lq W B l'
theorem A1R.mk {b2 b3 : Nat} {A B : Option Addr} {m c d : Nat} {l l' : List Rat} {u : World} (h1 : Blk u b2 35 #[.slice A m c]) (h2 : Blk u b3 35 #[.slice B m d]) (h3 : Lq u A l) (h4 : Lq u B l') : A1R b2 b3 A B m c d l l' u:=⟨h1,h2,h3,h4⟩
theorem A1R.grow {b2 b3 : Nat} {A B : Option Addr} {m c d : Nat} {l l' : List Rat} {u u' : World} (hg : A4 u u') (h : A1R b2 b3 A B m c d l l' u) : A1R b2 b3 A B m c d l l' u':=⟨h.1.grow hg,h.2.1.grow hg,h.2.2.1.grow hg,h.2.2.2.grow hg⟩
theorem A1R.cells {b2 b3 ba oa bb ob : Nat} {m c d : Nat} {l l' : List Rat} {W : World} (h : A1R b2 b3 (some ⟨ba,oa,none⟩) (some ⟨bb,ob,none⟩) m c d l l' W) {i : Nat} (h1 : i < l.length) (h2 : i < l'.length) :
  (W.cell? ⟨b2,0,none⟩ = some (.slice (some ⟨ba,oa,none⟩) m c) ∧ W.cell? ⟨b3,0,none⟩ = some (.slice (some ⟨bb,ob,none⟩) m d)) ∧ Cq W ba (oa + i * 5) (gq l i) ∧ Cq W bb (ob + i * 5) (gq l' i) :=
 ⟨⟨h.1.cell 0,h.2.1.cell 0⟩,h.2.2.1.read h1,h.2.2.2.read h2⟩
def Lb (u : World) (A : Option Addr) (l : List Bool) : Prop :=
 l ≠ [] → ∃ b off,A = some ⟨b,off,none⟩ ∧ b < u.heap.size ∧ ∀ i x,l[i]? = some x → u.cell? ⟨b,off + i,none⟩ = some (.bool x)
theorem Lb.nil (u : World) (A : Option Addr) : Lb u A []:=fun h=>absurd rfl h
theorem Lb.grow {u u' : World} {A : Option Addr} {l : List Bool} (h : Lb u A l) (hg : A4 u u') : Lb u' A l:=fun hn=>by
 obtain ⟨b,off,e,hb,hc⟩:=h hn
 exact ⟨b,off,e,Nat.lt_of_lt_of_le hb hg.size,fun i x hi=>(hg.cell (p:=⟨b,off + i,none⟩) hb).trans (hc i x hi)⟩
def gb (l : List Bool) (i : Nat) : Bool:=(l[i]?).getD false
theorem B0S {l : List Bool} {i : Nat} (h : i < l.length) : l[i]? = some (gb l i):=by
 unfold gb;rw [List.getElem?_eq_getElem h];rfl
theorem Lb.addr {u : World} {A : Option Addr} {l : List Bool} (h : Lb u A l) (hl : 0 < l.length) : ∃ b off,A = some ⟨b,off,none⟩:=by
 obtain ⟨b,off,e,_⟩:=h (fun h0=>by rw [h0] at hl;cases hl)
 exact ⟨b,off,e⟩
theorem Lb.read {u : World} {b off : Nat} {l : List Bool} (h : Lb u (some ⟨b,off,none⟩) l) {i : Nat} (hi : i < l.length) : u.cell? ⟨b,off + i,none⟩ = some (.bool (gb l i)):=by
 obtain ⟨b',off',e,_,hc⟩:=h (fun h0=>by rw [h0] at hi;cases hi)
 cases e
 exact hc i _ (B0S hi)
def hv (is : List Bool) (l : List Rat) (i j : Nat) : Int:=if gb is i && !gb is j then G6 (gq l i) (gq l j) + 1 else 0
def B4k (is : List Bool) (l : List Rat) (m : Nat) : Int:=A4k (fun a=>A4k (hv is l a) m) m
abbrev A3Z : Array Value:=#[.bool false,.int .u64 0,.string ⟨#[]⟩,.int .u64 0,.string ⟨#[]⟩]
abbrev Rq:=Option Addr × Nat × List Rat
def Lrq (u : World) (A : Option Addr) (rs : List Rq) : Prop :=
 rs ≠ [] → ∃ b off,A = some ⟨b,off,none⟩ ∧ b < u.heap.size ∧ ∀ i r,rs[i]? = some r → u.cell? ⟨b,off + i,none⟩ = some (.slice r.1 r.2.2.length r.2.1) ∧ Lq u r.1 r.2.2
theorem Lrq.grow {u u' : World} {A : Option Addr} {rs : List Rq} (h : Lrq u A rs) (hg : A4 u u') : Lrq u' A rs:=fun hn=>by
 obtain ⟨b,off,e,hb,hc⟩:=h hn
 exact ⟨b,off,e,Nat.lt_of_lt_of_le hb hg.size,fun i r hi=>⟨(hg.cell (p:=⟨b,off + i,none⟩) hb).trans (hc i r hi).1,(hc i r hi).2.grow hg⟩⟩
theorem Lrq.addr {u : World} {A : Option Addr} {rs : List Rq} (h : Lrq u A rs) (hl : 0 < rs.length) : ∃ b off,A = some ⟨b,off,none⟩:=by
 obtain ⟨b,off,e,_⟩:=h (fun h0=>by rw [h0] at hl;cases hl)
 exact ⟨b,off,e⟩
theorem Lrq.read {u : World} {b off : Nat} {rs : List Rq} (h : Lrq u (some ⟨b,off,none⟩) rs) {i : Nat} {r : Rq} (hi : rs[i]? = some r) : u.cell? ⟨b,off + i,none⟩ = some (.slice r.1 r.2.2.length r.2.1) ∧ Lq u r.1 r.2.2:=by
 obtain ⟨b',off',e,_,hc⟩:=h (fun h0=>by rw [h0] at hi;simp at hi)
 cases e
 exact hc i r hi
end Go.Proofs.YtgpglgbcobeogaaGreatDoor
namespace Go.Proofs.YtgpglgbcobeogaaGreatDoor
open Go.ChangeShapes Go.WideShapes Go.ChangeAt Go.RowKit
theorem B3L {H : Type} {enc : TypeId × Value → H} {W : World} {base : Nat} {v : Value} {d : DataW H} {p : List MemPlace} (hval : Value.okWide Tryz.prog W .any base 22 v) (h : DataW.Trod enc Tryz.prog W 0 (fun _=>true) true 22 v d p) :
  ∃ (A : Option Addr) (l : List Int) (c : Nat),v = .slice A l.length c ∧ Li W A l ∧ l.length ≤ 9223372036854775807 ∧ (∀ x ∈ l,-9223372036854775808 ≤ x ∧ x ≤ 9223372036854775807) ∧ l.length ≤ c:=by
 obtain ⟨a0,len,cap,rfl⟩:=okWide_slice Tryz.underlying22 hval
 obtain ⟨fuel,hf⟩:=h
 rcases open_ints Tryz.underlying22 Tryz.underlying3 A7I hf with ⟨hcs,hx⟩ | ⟨a,len',cap',zs,hcs,_,hl,hm,hz,hx,hcell,hwz⟩
 ·simp [Value.cells] at hcs
  obtain ⟨rfl,rfl,rfl⟩:=hcs
  exact ⟨none,[],0,rfl,Li.nil _ _,by simp,(fun x hx=>by cases hx),by simp⟩
 ·simp [Value.cells] at hcs
  obtain ⟨rfl,rfl,rfl⟩:=hcs
  simp only [if_true] at hz
  have hlen : (zs.take len).length = len:=by simp;omega
  refine ⟨some a,zs.take len,cap,by rw [hlen],fun hne=>?_,by rw [hlen];unfold maxLen at hm;omega,(fun x hx=>bounds_i64 (hwz x (List.mem_of_mem_take hx))),by rw [hlen];exact hl⟩
  have h0 : 0 < zs.length:=by
   have : 0 < (zs.take len).length:=List.length_pos_iff.2 hne
   omega
  obtain ⟨b,off,rfl,hc⟩:=ints_at hcell h0
  have hb : b < W.heap.size:=World.block_lt_of_cell? W _ (hc 0 h0)
  refine ⟨b,off,rfl,hb,fun i x hi=>?_⟩
  have hi2 : i < (zs.take len).length:=(List.getElem?_eq_some_iff.1 hi).1
  have hi3 : zs[i]? = some x:=by
   rw [List.getElem?_take] at hi
   split at hi
   ·exact hi
   ·cases hi
  rw [hc i (by rw [hlen] at hi2;omega)]
  simp [List.getD,hi3]
end Go.Proofs.YtgpglgbcobeogaaGreatDoor
