/- Contracts and laws. -/
import Derived.Test.YtlkniebmjdoopaaGreatDoorK28
import Derived.RegionTactic
import Derived.Shelf.SlLaysF0
import Derived.Shelf.SlLaysF
import Derived.Shelf.SlLaysE0
import Derived.Shelf.SlGeneric
import Derived.Ground.SlsfProg
import Derived.Ground.SlgnProg
import Derived.Test.YtlkniebmjdoopaaGreatDoorProg
import Derived.Calls
import Derived.Sort.Grow
import Derived.Deep.Draws
import Derived.Shelf.SlSortCmp.WholeK
import Derived.Shelf.SlicesE.Clone
set_option linter.unusedSimpArgs false
set_option linter.unusedVariables false
set_option maxHeartbeats 2000000
set_option maxRecDepth 100000
namespace Go.Proofs.YtlkniebmjdoopaaGreatDoor
open Go.RowKit
def A2D (B0 k i : Nat) : Value:=.slice (some ⟨B0 + 1 + i,0,none⟩) k k
def A0o (B0 k i : Nat) : List Value:=(List.range i).map (A2D B0 k) ++ List.replicate (k - i) (.slice none 0 0)
theorem B3T (B0 k : Nat) {i : Nat} (h : i < k) : (A0o B0 k i).set i (A2D B0 k i) = A0o B0 k (i + 1):=by
 unfold A0o
 rw [List.set_append_right _ _ (by simp),List.length_map,List.length_range,Nat.sub_self]
 obtain ⟨m,hm⟩ : ∃ m,k - i = m + 1:=⟨k - i - 1,by omega⟩
 rw [hm,show k - (i + 1) = m by omega,List.range_succ,List.map_append,List.append_assoc]
 rfl
theorem B2b (B0 k : Nat) {i : Nat} (h : i < k) : (A0o B0 k k)[i]? = some (A2D B0 k i):=by
 unfold A0o;simp [h]
theorem B0N (l : List Value) (i : Nat) : (A00 l)[i]? = l[i]?:=by unfold A00;simp
theorem B3A (l : List Value) (i : Nat) (v : Value) : (A00 l).setIfInBounds i v = A00 (l.set i v):=by
 unfold A00;rw [List.setIfInBounds_toArray]
def A5K (B0 k i : Nat) (wr : World) : Prop:=wr.heap.size = B0 + 1 + i ∧ Blk wr B0 22 (A00 (A0o B0 k i)) ∧ ∀ j,j < i → Blk wr (B0 + 1 + j) 3 (X4 (List.replicate k 0))
def A2p (B0 k : Nat) (l l' : List Int) (r : Nat) (wr : World) : Prop:=Blk wr B0 22 (A00 (A0o B0 k k)) ∧ ∀ j,j < k → Blk wr (B0 + 1 + j) 3 (X4 (Z3 l l' r k j))
theorem A93 (u : World) (p : Addr) (v : Value) : (u.setCell p v).heap.size = u.heap.size:=by simp [World.setCell]
theorem A5K.next {B0 k i : Nat} {wr : World} (h : A5K B0 k i wr) (hi : i < k) : A5K B0 k (i + 1) ((wr.setCell ⟨B0,i,none⟩ (.slice (some ⟨wr.heap.size,0,none⟩) k k)).alloc (.cells (X4 (List.replicate k 0)) 3)):=by
 obtain ⟨h1,h2,h3⟩:=h
 refine ⟨by rw [H8,A93,h1];omega,?_,fun j hj=>?_⟩
 ·have := h2.set_ i (.slice (some ⟨wr.heap.size,0,none⟩) k k)
  rw [B3A,h1,show (Value.slice (some ⟨B0 + 1 + i,0,none⟩) k k) = A2D B0 k i from rfl,B3T B0 k hi] at this
  rw [h1]
  exact this.grow (A3.alloc _ _)
 ·rcases Nat.lt_or_ge j i with hlt | hge
  ·exact ((h3 j hlt).far (p:=⟨B0,i,none⟩) (by show B0 + 1 + j ≠ B0;omega) _).grow (A3.alloc _ _)
  ·obtain rfl : j = i:=by omega
   have := Blk.new (wr.setCell ⟨B0,j,none⟩ (.slice (some ⟨wr.heap.size,0,none⟩) k k)) 3 (X4 (List.replicate k 0))
   rw [A93,h1] at this
   rw [h1]
   exact this
theorem A2p.next {B0 k : Nat} {l l' : List Int} {r : Nat} {wr : World} (h : A2p B0 k l l' r wr) {p q : Nat} (hp : gi l r = (p : Int)) (hq : gi l' r = (q : Int)) (hpk : p < k) :
  A2p B0 k l l' (r + 1) (wr.setCell ⟨B0 + 1 + p,q,none⟩ (.int .i64 (A0z l l' r p q + 1))):=by
 refine ⟨h.1.far (p:=⟨B0 + 1 + p,q,none⟩) (by show B0 ≠ B0 + 1 + p;omega) _,fun j hj=>?_⟩
 by_cases e : j = p
 ·subst e
  have := (h.2 j hj).set_ q (.int .i64 (A0z l l' r j q + 1))
  rw [B3I,B3n l l' r k j q hp hq] at this
  exact this
 ·rw [← B1L l l' r k j (by rw [hp];omega)]
  exact (h.2 j hj).far (p:=⟨B0 + 1 + p,q,none⟩) (by show B0 + 1 + j ≠ B0 + 1 + p;omega) _
def A99 (B0 k : Nat) (l l' : List Int) (m : Nat) : List Rw:=(List.range k).map fun i=>(some ⟨B0 + 1 + i,0,none⟩,k,Z3 l l' m k i)
theorem A2p.rows {B0 k : Nat} {l l' : List Int} {m : Nat} {wr : World} (h : A2p B0 k l l' m wr) : A3V wr (some ⟨B0,0,none⟩) (A99 B0 k l l' m):=fun _ =>
 ⟨B0,0,rfl,h.1.lt,fun i r hi=>by
  unfold A99 at hi
  rw [List.getElem?_map,Option.map_eq_some_iff] at hi
  obtain ⟨j,hj,rfl⟩:=hi
  rw [List.getElem?_eq_some_iff] at hj
  obtain ⟨hj1,hj2⟩:=hj
  simp only [List.length_range] at hj1
  simp only [List.getElem_range] at hj2
  subst hj2
  refine ⟨?_,B0O (h.2 i hj1)⟩
  rw [Nat.zero_add,h.1.cell,B0N,B2b B0 k hj1]
  simp [A2D,Z3]⟩
end Go.Proofs.YtlkniebmjdoopaaGreatDoor
namespace Go.Proofs.YtlkniebmjdoopaaGreatDoor
def A5P (f : Nat → Int) : Nat → Int
 | 0=>0
 | n + 1=>A5P f n + f n
end Go.Proofs.YtlkniebmjdoopaaGreatDoor
namespace Go.Proofs.YtlkniebmjdoopaaGreatDoor
open Go.RowKit
def Tb (w : World) (bt ot k : Nat) (rb ro rc : Nat → Nat) (T : Nat → Nat → Int) : Prop :=
 bt < w.heap.size ∧ ∀ i,i < k → w.cell? ⟨bt,ot + i,none⟩ = some (.slice (some ⟨rb i,ro i,none⟩) k (rc i)) ∧ rb i < w.heap.size ∧ ∀ j,j < k → w.cell? ⟨rb i,ro i + j,none⟩ = some (.int .i64 (T i j))
theorem Tb.grow {w u : World} {bt ot k : Nat} {rb ro rc : Nat → Nat} {T : Nat → Nat → Int} (h : Tb w bt ot k rb ro rc T) (hg : A3 w u) : Tb u bt ot k rb ro rc T :=
 ⟨Nat.lt_of_lt_of_le h.1 hg.size,fun i hi=>⟨(hg.cell (p:=⟨bt,ot + i,none⟩) h.1).trans (h.2 i hi).1,Nat.lt_of_lt_of_le (h.2 i hi).2.1 hg.size,fun j hj=>(hg.cell (p:=⟨rb i,ro i + j,none⟩) (h.2 i hi).2.1).trans ((h.2 i hi).2.2 j hj)⟩⟩
def qL (q : Rat) : List Value:=[.bool (D1 q.num),.int .u64 (B3 q.num.natAbs),.string (B1 q.num.natAbs),.int .u64 (B3 (G3 q.den)),.string (B1 (G3 q.den))]
def Lq (u : World) (A : Option Addr) (l : List Rat) : Prop :=
 l ≠ [] → ∃ b off,A = some ⟨b,off,none⟩ ∧ b < u.heap.size ∧ ∀ i q,l[i]? = some q → ∀ j v,(qL q)[j]? = some v → u.cell? ⟨b,off + i * 5 + j,none⟩ = some v
theorem Lq.nil (u : World) (A : Option Addr) : Lq u A []:=fun h=>absurd rfl h
theorem Lq.grow {u u' : World} {A : Option Addr} {l : List Rat} (h : Lq u A l) (hg : A3 u u') : Lq u' A l:=fun hn=>by
 obtain ⟨b,off,e,hb,hc⟩:=h hn
 exact ⟨b,off,e,Nat.lt_of_lt_of_le hb hg.size,fun i x hi j v hj=>(hg.cell (p:=⟨b,off + i * 5 + j,none⟩) hb).trans (hc i x hi j v hj)⟩
def gq (l : List Rat) (i : Nat) : Rat:=(l[i]?).getD 0
theorem A0J {l : List Rat} {i : Nat} (h : i < l.length) : l[i]? = some (gq l i):=by
 unfold gq;rw [List.getElem?_eq_getElem h];rfl
theorem A39 {l : List Rat} {i : Nat} (h : i < l.length) : gq l i ∈ l:=List.mem_of_getElem? (A0J h)
def Cq (u : World) (b o : Nat) (q : Rat) : Prop:=u.cell? ⟨b,o,none⟩ = some (.bool (D1 q.num)) ∧ u.cell? ⟨b,o + 1,none⟩ = some (.int .u64 (B3 q.num.natAbs)) ∧ u.cell? ⟨b,o + 2,none⟩ = some (.string (B1 q.num.natAbs)) ∧
 u.cell? ⟨b,o + 3,none⟩ = some (.int .u64 (B3 (G3 q.den))) ∧ u.cell? ⟨b,o + 4,none⟩ = some (.string (B1 (G3 q.den)))
theorem Lq.at {u : World} {A : Option Addr} {l : List Rat} (h : Lq u A l) (hne : l ≠ []) : ∃ b off,A = some ⟨b,off,none⟩ ∧ b < u.heap.size ∧ ∀ i,i < l.length → Cq u b (off + i * 5) (gq l i):=by
 obtain ⟨b,off,e,hb,hc⟩:=h hne
 exact ⟨b,off,e,hb,fun i hi=>⟨hc i _ (A0J hi) 0 _ rfl,hc i _ (A0J hi) 1 _ rfl,hc i _ (A0J hi) 2 _ rfl,hc i _ (A0J hi) 3 _ rfl,hc i _ (A0J hi) 4 _ rfl⟩⟩
theorem Lq.read {u : World} {b off : Nat} {l : List Rat} (h : Lq u (some ⟨b,off,none⟩) l) {i : Nat} (hi : i < l.length) : Cq u b (off + i * 5) (gq l i):=by
 obtain ⟨b',off',e,_,hc⟩:=h.at (fun h0=>by rw [h0] at hi;cases hi)
 cases e
 exact hc i hi
theorem Lq.addr {u : World} {A : Option Addr} {l : List Rat} (h : Lq u A l) (hl : 0 < l.length) : ∃ b off,A = some ⟨b,off,none⟩:=by
 obtain ⟨b,off,e,_⟩:=h (fun h0=>by rw [h0] at hl;cases hl)
 exact ⟨b,off,e⟩
theorem A5t : qs 0 = 1:=by show max (bl 0) (bl 1) = 1;rw [Y9,A26.2 rfl];rfl
theorem A9s (n : Nat) (h : n ≤ 1099511627776) : qs (A8 (n : Nat)) ≤ 41:=by
 refine B3P (n : Int) 41 ?_ (by omega)
 rw [Int.natAbs_natCast]
 omega
def A0y (b2 b3 : Nat) (A B : Option Addr) (m c d : Nat) (l l' : List Rat) (W : World) : Prop :=
 Blk W b2 23 #[.slice A m c] ∧ Blk W b3 23 #[.slice B m d] ∧ Lq W A l ∧ Lq W B l'
theorem A0y.mk {b2 b3 : Nat} {A B : Option Addr} {m c d : Nat} {l l' : List Rat} {u : World} (h1 : Blk u b2 23 #[.slice A m c]) (h2 : Blk u b3 23 #[.slice B m d]) (h3 : Lq u A l) (h4 : Lq u B l') : A0y b2 b3 A B m c d l l' u:=⟨h1,h2,h3,h4⟩
theorem A0y.grow {b2 b3 : Nat} {A B : Option Addr} {m c d : Nat} {l l' : List Rat} {u u' : World} (hg : A3 u u') (h : A0y b2 b3 A B m c d l l' u) : A0y b2 b3 A B m c d l l' u':=⟨h.1.grow hg,h.2.1.grow hg,h.2.2.1.grow hg,h.2.2.2.grow hg⟩
theorem A0y.cells {b2 b3 ba oa bb ob : Nat} {m c d : Nat} {l l' : List Rat} {W : World} (h : A0y b2 b3 (some ⟨ba,oa,none⟩) (some ⟨bb,ob,none⟩) m c d l l' W) {i : Nat} (h1 : i < l.length) (h2 : i < l'.length) :
  (W.cell? ⟨b2,0,none⟩ = some (.slice (some ⟨ba,oa,none⟩) m c) ∧ W.cell? ⟨b3,0,none⟩ = some (.slice (some ⟨bb,ob,none⟩) m d)) ∧ Cq W ba (oa + i * 5) (gq l i) ∧ Cq W bb (ob + i * 5) (gq l' i) :=
 ⟨⟨h.1.cell 0,h.2.1.cell 0⟩,h.2.2.1.read h1,h.2.2.2.read h2⟩
theorem Rz.a {u : World} {p : Az} {q : Rat} (h : Rz u p q) : Rn u p.1 q.num.natAbs:=h.1
theorem Rz.b {u : World} {p : Az} {q : Rat} (h : Rz u p q) : Rn u p.2 q.den:=h.2
theorem Rz.put {u u' : World} {p : Az} {q : Rat} (h : Rz u p q) {bl : List (Nat × TypeId × Array Value)} (hB : Bx u bl) (k : Nat) {b : Nat} {t : TypeId} {cs : Array Value} (hk : bl[k]? = some (b,t,cs)) (ht : t ≠ 176) (i : Nat) (vs : List Value) (hu : E9 u b i vs = u') : Rz u' p q:=⟨h.1.put hB k hk ht i vs hu,h.2.put hB k hk ht i vs hu⟩
theorem Rz.own {u w' : World} {B : Nat} {e : TypeId} {size n : Nat} {v : Value} {xs : List Value} {o : Obj} {p : Az} {q : Rat} (hl : Rz u p q) (h : u.ownsRow B e size v n xs) (ht : e ≠ 176) (hg : (u.alloc o).grownBy w' v.ownBlock) : Rz w' p q:=⟨hl.1.own h ht hg,hl.2.own h ht hg⟩
def zL (p : Az) (q : Rat) : List Value:=[.bool (D1 q.num),.slice p.1.1 (ln q.num.natAbs) p.1.2,.slice p.2.1 (ln q.den) p.2.2]
def Cz (u : World) (b i : Nat) (p : Az) (q : Rat) : Prop :=
 u.cell? ⟨b,i,none⟩ = some (.bool (D1 q.num)) ∧ u.cell? ⟨b,i + 1,none⟩ = some (.slice p.1.1 (ln q.num.natAbs) p.1.2) ∧ u.cell? ⟨b,i + 2,none⟩ = some (.slice p.2.1 (ln q.den) p.2.2)
def Lz (u : World) (A : Option Addr) (l : List Rat) : Prop :=
 l ≠ [] → ∃ b off,A = some ⟨b,off,none⟩ ∧ b < u.heap.size ∧ ∀ i,i < l.length → ∃ p : Az,Rz u p (gq l i) ∧ Cz u b (off + i * 3) p (gq l i)
theorem Cz.grow {u u' : World} {b i : Nat} {p : Az} {q : Rat} (h : Cz u b i p q) (hb : b < u.heap.size) (hg : A3 u u') : Cz u' b i p q :=
 ⟨(hg.cell (p:=⟨b,i,none⟩) hb).trans h.1,(hg.cell (p:=⟨b,i + 1,none⟩) hb).trans h.2.1,(hg.cell (p:=⟨b,i + 2,none⟩) hb).trans h.2.2⟩
theorem Lz.grow {u u' : World} {A : Option Addr} {l : List Rat} (h : Lz u A l) (hg : A3 u u') : Lz u' A l:=fun hn=>by
 obtain ⟨b,off,e,hb,hc⟩:=h hn
 refine ⟨b,off,e,Nat.lt_of_lt_of_le hb hg.size,fun i hi=>?_⟩
 obtain ⟨p,h1,h2⟩:=hc i hi
 exact ⟨p,h1.grow hg,h2.grow hb hg⟩
theorem Lz.nil (u : World) (A : Option Addr) : Lz u A []:=fun h=>absurd rfl h
theorem Lz.addr {u : World} {A : Option Addr} {l : List Rat} (h : Lz u A l) (hl : 0 < l.length) : ∃ b off,A = some ⟨b,off,none⟩:=by
 obtain ⟨b,off,e,_⟩:=h (fun h0=>by rw [h0] at hl;cases hl)
 exact ⟨b,off,e⟩
theorem Lz.read {u : World} {b off : Nat} {l : List Rat} (h : Lz u (some ⟨b,off,none⟩) l) {i : Nat} (hi : i < l.length) : ∃ p : Az,∀ W,A3 u W → Rz W p (gq l i) ∧ Cz W b (off + i * 3) p (gq l i):=by
 obtain ⟨b',off',e,hb,hc⟩:=h (fun h0=>by rw [h0] at hi;cases hi)
 cases e
 obtain ⟨p,h1,h2⟩:=hc i hi
 exact ⟨p,fun W hg=>⟨h1.grow hg,h2.grow hb hg⟩⟩
abbrev Zr:=Az × Rat
def zrL (r : Zr) : List Value:=zL r.1 r.2
def H4 (u : World) (ps : List Zr) : Prop:=∀ r ∈ ps,Rz u r.1 r.2
theorem H4.nil (u : World) : H4 u []:=fun _ h=>by cases h
theorem H4.grow {u u' : World} {ps : List Zr} (h : H4 u ps) (hg : A3 u u') : H4 u' ps:=fun r hr=>(h r hr).grow hg
theorem H4.put {u u' : World} {ps : List Zr} (h : H4 u ps) {bl : List (Nat × TypeId × Array Value)} (hB : Bx u bl) (k : Nat) {b : Nat} {t : TypeId} {cs : Array Value} (hk : bl[k]? = some (b,t,cs)) (ht : t ≠ 176) (i : Nat) (vs : List Value) (hu : E9 u b i vs = u') : H4 u' ps:=fun r hr=>(h r hr).put hB k hk ht i vs hu
theorem H4.own {u w' : World} {B : Nat} {e : TypeId} {size n : Nat} {v : Value} {xs : List Value} {o : Obj} {ps : List Zr} (hl : H4 u ps) (h : u.ownsRow B e size v n xs) (ht : e ≠ 176) (hg : (u.alloc o).grownBy w' v.ownBlock) : H4 w' ps:=fun r hr=>(hl r hr).own h ht hg
theorem A3L (r : Zr) : (zrL r).length = 3:=rfl
theorem B0g (l : List Zr) {i : Nat} {r : Zr} (hi : l[i]? = some r) {j : Nat} (hj : j < 3) : (l.flatMap zrL)[i * 3 + j]? = (zrL r)[j]?:=by
 induction l generalizing i with
 | nil=>simp at hi
 | cons x l ih =>
  rw [List.flatMap_cons]
  cases i with
  | zero =>
   simp at hi
   subst hi
   rw [List.getElem?_append_left (by rw [A3L];omega)]
   simp
  | succ i =>
   rw [List.getElem?_append_right (by rw [A3L];omega),A3L,show (i + 1) * 3 + j - 3 = i * 3 + j by omega]
   exact ih (by simpa using hi)
theorem A7a (l : List Zr) : (l.flatMap zrL).length = 3 * l.length:=by
 induction l with
 | nil=>rfl
 | cons x l ih=>simp [List.flatMap_cons,A3L,ih];omega
theorem A2u {u : World} {B n : Nat} {v : Value} {ps : List Zr} (h : u.ownsRow B 66 3 v n (ps.flatMap zrL)) (ha : H4 u ps) : ∃ A c,v = .slice A n c ∧ (∀ b off,A = some ⟨b,off,none⟩ → B ≤ b) ∧ c ≤ maxLen ∧ Lz u A (ps.map (·.2)) ∧ n = ps.length:=by
 have hn : n = ps.length:=by have := h.1;rw [A7a] at this;omega
 obtain ⟨_,h | ⟨g,cap,cur,rfl,hb,hh,hn',hc,hs,ht⟩⟩:=h
 ·obtain ⟨rfl,h0⟩:=h
  exact ⟨none,0,by rw [h0],(fun b off e=>by cases e),by unfold maxLen;omega,fun hne=>absurd (by rw [List.eq_nil_of_length_eq_zero (l:=ps) (by omega)];rfl) hne,hn⟩
 ·refine ⟨_,cap,rfl,(fun b off e=>by cases e;exact hb),hc,fun _=>⟨g,0,rfl,Q8 hh,fun i hi=>?_⟩,hn⟩
  have hil : i < ps.length:=by simpa using hi
  obtain ⟨r,hr⟩ : ∃ r,ps[i]? = some r:=⟨_,List.getElem?_eq_getElem hil⟩
  have hq : gq (ps.map (·.2)) i = r.2:=by unfold gq;rw [List.getElem?_map,hr];rfl
  rw [hq]
  refine ⟨r.1,ha r (List.mem_of_getElem? hr),?_⟩
  have key : ∀ j v,j < 3 → (zrL r)[j]? = some v → u.cell? ⟨g,0 + i * 3 + j,none⟩ = some v:=fun j v hj hv=>by
   rw [cell_of_row u g _ cur 66 (0,0) hh,Nat.zero_add]
   have h1 : (cur.toList.take (n * 3))[i * 3 + j]? = some v:=by rw [ht,B0g ps hr hj,hv]
   rw [List.getElem?_take,if_pos (by omega)] at h1
   simpa using h1
  exact ⟨key 0 _ (by omega) rfl,key 1 _ (by omega) rfl,key 2 _ (by omega) rfl⟩
theorem A10 (l : List Rat) : (l.flatMap qL).length = 5 * l.length:=by
 induction l with
 | nil=>rfl
 | cons x l ih=>simp [List.flatMap_cons,qL,ih];omega
theorem A2a (l : List Rat) {i : Nat} {q : Rat} (hi : l[i]? = some q) {j : Nat} (hj : j < 5) : (l.flatMap qL)[i * 5 + j]? = (qL q)[j]?:=by
 induction l generalizing i with
 | nil=>simp at hi
 | cons x l ih =>
  rw [List.flatMap_cons]
  cases i with
  | zero =>
   simp at hi
   subst hi
   rw [List.getElem?_append_left (by simp [qL];omega)]
   simp
  | succ i =>
   rw [List.getElem?_append_right (by simp [qL];omega),show (qL x).length = 5 from rfl,show (i + 1) * 5 + j - 5 = i * 5 + j by omega]
   exact ih (by simpa using hi)
theorem Z8 {u : World} {B n : Nat} {v : Value} {l : List Rat} (h : u.ownsRow B 39 5 v n (l.flatMap qL)) : ∃ A c,v = .slice A n c ∧ n ≤ c ∧ c ≤ maxLen ∧ Lq u A l ∧ n = l.length:=by
 have hn : n = l.length:=by have := h.1;rw [A10] at this;omega
 obtain ⟨_,h | ⟨g,cap,cur,rfl,hb,hh,hn',hc,hs,ht⟩⟩:=h
 ·obtain ⟨rfl,h0⟩:=h
  exact ⟨none,0,by rw [h0],by omega,by unfold maxLen;omega,fun hne=>absurd (List.eq_nil_of_length_eq_zero (by omega)) hne,hn⟩
 ·refine ⟨_,cap,rfl,hn',hc,fun _=>⟨g,0,rfl,Q8 hh,fun i q hi j v hj=>?_⟩,hn⟩
  have hil : i < l.length:=(List.getElem?_eq_some_iff.1 hi).1
  have hj5 : j < 5:=(List.getElem?_eq_some_iff.1 hj).1
  rw [cell_of_row u g _ cur 39 (0,0) hh,Nat.zero_add]
  have h1 : (cur.toList.take (n * 5))[i * 5 + j]? = some v:=by rw [ht,A2a l hi hj5,hj]
  rw [List.getElem?_take,if_pos (by omega)] at h1
  simpa using h1
theorem B65 (n m : Int) (hm : 0 < m) (hm2 : m ≤ 9223372036854775807) (w : World) : Calls Tryz.prog 31 #[.int .i64 n,.int .i64 m] w fun e w'=>e = .returned (.int .i64 (A4I n m)) ∧ A3 w w' :=
 (B2F n m hm hm2 w).mono fun e w' ⟨h,hw⟩=>⟨h,hw ▸ A3.refl _⟩
theorem B1V (A : Option Addr) (l : List Rat) (c n : Nat) (hn : n = l.length) (hm : n ≤ 1048576) (hs : ∀ x ∈ l,qs x ≤ BIG) (w : World) (h : Lz w A l) (HT : Tab w) :
  Calls Tryz.prog 8 #[.slice A n c] w fun e w'=>∃ v : Value,e = .returned v ∧ w'.ownsRow w.heap.size 39 5 v n (l.flatMap qL) ∧ A3 w w':=by
 have H:=Lib.hid h
 have Hn:=Lib.hid hn
 have Hs:=Lib.hid hs
 clear h hn hs
 go_enter Tryz.func8,Tryz.ntmps8
 refine en0 ?_
 intro u hG hB hF
 refine r0T ?_
 refine wp_seq ?_
 refine r0T ?_
 refine wp_block ?_
 clear hB hF
 go_loopw [4,3] (fun s0 s1 wr=>∃ (i : Nat),i ≤ n ∧ s0 = .int .i64 i ∧ wr.ownsRow w.heap.size 39 5 s1 i ((l.take i).flatMap qL) ∧ A3 w wr) (fun s0 _ _=>n - (intOf s0).toNat)
 case atStart=>exact ⟨0,Nat.zero_le _,rfl,World.ownsRow_nil _ _ _ _,hG⟩
 case round =>
  clear hG
  obtain ⟨i,hi,rfl,ho,hG⟩:=hrel
  obtain ⟨u,rfl⟩ : ∃ x,x = wr:=⟨_,rfl⟩
  have hB:=Bx.nil u
  have hF:=Fr.nil w
  have Ho:=Lib.hid ho
  clear ho
  rcases Nat.lt_or_ge i n with hlt | hge
  ·have hdec : decide ((i : Int) < (n : Int)) = true:=by simp;omega
   have hil : i < l.length:=by rw [← Hn.out];exact hlt
   have hsu : l.take (i + 1) = l.take i ++ [gq l i]:=by
    rw [List.take_succ_eq_append_getElem hil]
    unfold gq
    rw [List.getElem?_eq_getElem hil]
    rfl
   obtain ⟨ba,oa,rfl⟩:=H.out.addr (by omega)
   obtain ⟨p,hrd⟩:=(H.out).read hil
   have z:=Hs.out _ (A39 hil)
   obtain ⟨Q,hQ⟩ : ∃ Q,Q = gq l i:=⟨_,rfl⟩
   rw [← hQ] at hsu z
   simp only [← hQ] at hrd
   have Hsu:=Lib.hid hsu
   have Hrd:=Lib.hid hrd
   clear hsu hrd hQ hil
   refine wp_seq ?_
   refine r0T ?_
   refine wp_cond_true (rfl) ?_
   refine wp_skip ?_
   refine A4 ?_
   refine wp_seq ?_
   refine wp_block ?_
   refine A03 (w:=w) A5 6 [0,0,0,0,0,1] (by kernel_rfl) (by simp only [List.drop_succ_cons,List.drop_zero];exact rfl) (fun _=>True) noG hB hG trivial ?_
   intro K L hN hL
   simp only [List.zip_cons_cons,List.zip_nil_left]
   repeat first | refine gya ?_ | refine gyr ?_ | refine gna ?_ | refine gyb (by (rintro v ⟨hgu,hB,hG,-⟩ N hN;have r:=hB.r;simp only [BxR] at r;obtain ⟨-,hc1,hc2,hc3⟩:=Hrd.out v hG;go_simp;exact hN)) ?_
   refine gmd (C:=fun v ⟨hgu,hB,hG,_⟩=>B5Q p.1 p.2 Q _ (Hrd.out _ hG).1.a (Hrd.out _ hG).1.b z (HT.grow hG)) ?_
   refine K8 ?_
   rintro v ⟨hgu,hB1,hG1,-⟩
   have ROWn:=Lib.hid (F3 Ho.out hgu)
   clear Ho
   have Ho:=ROWn
   clear ROWn
   clear hB hG
   have hB:=hB1
   have hG:=hG1
   clear hB1 hG1
   refine hL _ _ ?_
   clear hL L hgu
   obtain ⟨u,rfl⟩ : ∃ x,x = v:=⟨_,rfl⟩
   refine A2J A5a w.heap.size _ _ _ _ (qL Q) rfl rfl (A94 Q u) rfl (fun _=>rfl) (fun _=>rfl) (fun _ _=>rfl) Ho.out (by omega) (by omega) hG.sz fun p v' w' g1 g2 g3=>?_
   have hBn:=Bx.nil w'
   have hGn:=A2K Ho.out hG g2
   clear Ho hB hG
   have Ho:=Lib.hid g1
   have hB:=hBn
   have hG:=hGn
   clear g1 g2 g3 hBn hGn
   obtain ⟨u,rfl⟩ : ∃ x,x = w':=⟨_,rfl⟩
   simp only [Act.put,List.setIfInBounds_toArray,List.set_cons_succ,List.set_cons_zero]
   refine NoK.norm (hN _ _ ?_)
   clear hN K
   refine F0 ?_
   refine A4 ?_
   refine r0E ?_
   refine A4 ?_
   go_roundw
   case rel=>exact ⟨i + 1,by omega,by go_num,by have := Ho.out;rw [Hsu.out,List.flatMap_append];simpa using this,hG⟩
   case measure=>simp [intOf];omega
  ·obtain rfl : n = i:=by omega
   have hdec : decide ((n : Int) < (n : Int)) = false:=by simp
   have ho2:=Ho.out
   rw [List.take_of_length_le (Nat.le_of_eq Hn.out.symm)] at ho2
   have HL:=Lib.hid ho2
   clear ho2
   refine wp_seq ?_
   refine r0T ?_
   refine wp_cond_false (rfl) ?_
   refine wp_exit ?_
   refine D7 ?_
   refine D7 ?_
   refine G8 ?_
   refine A4 ?_
   refine r0T ?_
   refine rt Tryz.results8 ?_
   exact ⟨_,rfl,HL.out,hG⟩
def Lb (u : World) (A : Option Addr) (l : List Bool) : Prop :=
 l ≠ [] → ∃ b off,A = some ⟨b,off,none⟩ ∧ b < u.heap.size ∧ ∀ i x,l[i]? = some x → u.cell? ⟨b,off + i,none⟩ = some (.bool x)
theorem Lb.nil (u : World) (A : Option Addr) : Lb u A []:=fun h=>absurd rfl h
theorem Lb.grow {u u' : World} {A : Option Addr} {l : List Bool} (h : Lb u A l) (hg : A3 u u') : Lb u' A l:=fun hn=>by
 obtain ⟨b,off,e,hb,hc⟩:=h hn
 exact ⟨b,off,e,Nat.lt_of_lt_of_le hb hg.size,fun i x hi=>(hg.cell (p:=⟨b,off + i,none⟩) hb).trans (hc i x hi)⟩
def gb (l : List Bool) (i : Nat) : Bool:=(l[i]?).getD false
theorem B0h {l : List Bool} {i : Nat} (h : i < l.length) : l[i]? = some (gb l i):=by
 unfold gb;rw [List.getElem?_eq_getElem h];rfl
theorem Lb.addr {u : World} {A : Option Addr} {l : List Bool} (h : Lb u A l) (hl : 0 < l.length) : ∃ b off,A = some ⟨b,off,none⟩:=by
 obtain ⟨b,off,e,_⟩:=h (fun h0=>by rw [h0] at hl;cases hl)
 exact ⟨b,off,e⟩
theorem Lb.read {u : World} {b off : Nat} {l : List Bool} (h : Lb u (some ⟨b,off,none⟩) l) {i : Nat} (hi : i < l.length) : u.cell? ⟨b,off + i,none⟩ = some (.bool (gb l i)):=by
 obtain ⟨b',off',e,_,hc⟩:=h (fun h0=>by rw [h0] at hi;cases hi)
 cases e
 exact hc i _ (B0h hi)
def hv (is : List Bool) (l : List Rat) (i j : Nat) : Int:=if gb is i && !gb is j then K6 (gq l i) (gq l j) + 1 else 0
def B64 (is : List Bool) (l : List Rat) (m : Nat) : Int:=A5P (fun a=>A5P (hv is l a) m) m
abbrev Rq:=Option Addr × Nat × List Rat
def Lrq (u : World) (A : Option Addr) (rs : List Rq) : Prop :=
 rs ≠ [] → ∃ b off,A = some ⟨b,off,none⟩ ∧ b < u.heap.size ∧ ∀ i r,rs[i]? = some r → u.cell? ⟨b,off + i,none⟩ = some (.slice r.1 r.2.2.length r.2.1) ∧ Lq u r.1 r.2.2
theorem Lrq.grow {u u' : World} {A : Option Addr} {rs : List Rq} (h : Lrq u A rs) (hg : A3 u u') : Lrq u' A rs:=fun hn=>by
 obtain ⟨b,off,e,hb,hc⟩:=h hn
 exact ⟨b,off,e,Nat.lt_of_lt_of_le hb hg.size,fun i r hi=>⟨(hg.cell (p:=⟨b,off + i,none⟩) hb).trans (hc i r hi).1,(hc i r hi).2.grow hg⟩⟩
theorem Lrq.addr {u : World} {A : Option Addr} {rs : List Rq} (h : Lrq u A rs) (hl : 0 < rs.length) : ∃ b off,A = some ⟨b,off,none⟩:=by
 obtain ⟨b,off,e,_⟩:=h (fun h0=>by rw [h0] at hl;cases hl)
 exact ⟨b,off,e⟩
theorem Lrq.read {u : World} {b off : Nat} {rs : List Rq} (h : Lrq u (some ⟨b,off,none⟩) rs) {i : Nat} {r : Rq} (hi : rs[i]? = some r) : u.cell? ⟨b,off + i,none⟩ = some (.slice r.1 r.2.2.length r.2.1) ∧ Lq u r.1 r.2.2:=by
 obtain ⟨b',off',e,_,hc⟩:=h (fun h0=>by rw [h0] at hi;simp at hi)
 cases e
 exact hc i r hi
end Go.Proofs.YtlkniebmjdoopaaGreatDoor
namespace Go.Proofs
open Go.Shelf
def Tryz.cloneQ_ren : Go.Shelf.Ren:=⟨fun | 41=>107 | n=>n,fun | 22=>23 | 23=>39 | 4=>4 | n=>n,fun | n=>n⟩
theorem Tryz.cloneQ : Go.Proofs.SlLaysE0.n41 Tryz.prog Tryz.cloneQ_ren:={
 mixed:=by kernel_rfl
 f41:=⟨Tryz.f107.name,by decide,Tryz.func107.trans (congrArg some (by kernel_rfl))⟩
 t4:=Tryz.underlying4
 a4:=Tryz.isAgg4
 z4:=Tryz.sizeOf4
 v4:=Tryz.zeroValue4
 t22:=Tryz.underlying23
 a22:=Tryz.isAgg23
 z22:=Tryz.sizeOf23
 v22:=Tryz.zeroValue23 }
end Go.Proofs
namespace Go.Proofs.YtlkniebmjdoopaaGreatDoor
open Go
def Nd (n : Nat) : Stepped → Prop
 | .next m=>n ≤ m.world.drawn
 | _=>True
theorem Nd.weak {n k : Nat} (h : n ≤ k) : ∀ {s : Stepped},Nd k s → Nd n s
 | .next _,e=>Nat.le_trans h e
 | .ended _ _,_=>trivial
def Md (n : Nat) : _root_.Go.Move → Prop
 | .goroutine m _=>n ≤ m.world.drawn
 | .machine s _=>Nd n s
theorem Md.weak {n k : Nat} (h : n ≤ k) : ∀ {s : _root_.Go.Move},Md k s → Md n s
 | .goroutine _ _,e=>Nat.le_trans h e
 | .machine _ _,e=>Nd.weak h e
open Go.RowKit
end Go.Proofs.YtlkniebmjdoopaaGreatDoor
namespace Go.Proofs.YtlkniebmjdoopaaGreatDoor
open Go Go.RowKit Go.Sort Go.Shelf
abbrev Bq (s : Nat):={x : Rat // qs x ≤ s + qs 0}
instance (s : Nat) : Inhabited (Bq s):=⟨⟨0,Nat.le_add_left _ _⟩⟩
end Go.Proofs.YtlkniebmjdoopaaGreatDoor
