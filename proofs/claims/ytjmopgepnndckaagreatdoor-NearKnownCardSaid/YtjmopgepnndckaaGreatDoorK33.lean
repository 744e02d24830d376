/- Contracts and laws. -/
import Derived.Test.YtjmopgepnndckaaGreatDoorK32
import Derived.RegionTactic
set_option linter.unusedSimpArgs false
set_option linter.unusedVariables false
set_option maxHeartbeats 1000000
set_option maxRecDepth 100000
namespace Go.Proofs.YtjmopgepnndckaaGreatDoor
open Go.RowKit
abbrev Rw:=Option Addr × Nat × List Int
def A2c (u : World) (A : Option Addr) (rs : List Rw) : Prop :=
 rs ≠ [] → ∃ b off,A = some ⟨b,off,none⟩ ∧ b < u.heap.size ∧ ∀ i r,rs[i]? = some r → u.cell? ⟨b,off + i,none⟩ = some (.slice r.1 r.2.2.length r.2.1) ∧ Li u r.1 r.2.2
theorem A2c.grow {u u' : World} {A : Option Addr} {rs : List Rw} (h : A2c u A rs) (hg : A3 u u') : A2c u' A rs:=fun hn=>by
 obtain ⟨b,off,e,hb,hc⟩:=h hn
 exact ⟨b,off,e,Nat.lt_of_lt_of_le hb hg.size,fun i r hi=>⟨(hg.cell (p:=⟨b,off + i,none⟩) hb).trans (hc i r hi).1,(hc i r hi).2.grow hg⟩⟩
def G8 (l : List Int) : Array Value:=(l.map fun x=>Value.int .i64 x).toArray
theorem A4E (l : List Int) (i : Nat) : (G8 l)[i]? = (l[i]?).map fun x=>Value.int .i64 x:=by
 unfold G8;simp
theorem A7T (l : List Int) (i : Nat) (y : Int) : (G8 l).setIfInBounds i (.int .i64 y) = G8 (l.set i y):=by
 unfold G8
 rw [List.setIfInBounds_toArray,List.map_set]
theorem B2S {u : World} {b : Nat} {l : List Int} (h : Blk u b 3 (G8 l)) : Li u (some ⟨b,0,none⟩) l:=fun _ =>
 ⟨b,0,rfl,h.lt,fun i x hi=>by rw [Nat.zero_add,h.cell,A4E,hi];rfl⟩
theorem A8Z : (Tryz.prog.info? 3).map (fun i=>(i.zero,i.size,i.bytes)) = some (some (.int .i64 0),1,8):=by kernel_rfl
theorem A9G (n : Nat) : madeCells (Value.int .i64 0).cells (n * 1) = G8 (List.replicate n 0):=by
 unfold G8 madeCells
 refine Array.ext (by simp) fun i h1 h2=>?_
 simp [Value.cells,Nat.mod_one]
theorem B0T (n : Nat) (hn : n ≤ 1099511627776) (x : Int) (hx : x = n) (W : World) : (Instr.makeSlice 22 (.int .i64 x) (.int .i64 x)).run Tryz.prog W =
  .ok (.slice (some ⟨W.heap.size,0,none⟩) n n) (W.alloc (.cells (G8 (List.replicate n 0)) 3)):=by
 obtain ⟨i0,hi0,hz0,hz1,hz2⟩:=info_parts A8Z
 have hr:=run_make (P:=Tryz.prog) W 22 3 i0 (.int .i64 0) Tryz.underlying22 hi0 hz0 .i64 .i64 n n (by omega) (by omega) (by rw [hz2];omega) (by omega)
 rw [hx]
 rw [hr,hz1]
 simp only [Int.toNat_natCast]
 rw [A9G]
def A0R (l : List Value) : Array Value:=l.toArray
def A0I (l l' : List Int) (r i j : Nat) : Int:=(cnt (fun s=>gi l s == (i : Int) && gi l' s == (j : Int)) r : Nat)
def W8 (l l' : List Int) (r k i : Nat) : List Int:=(List.range k).map (A0I l l' r i)
theorem A5q (l l' : List Int) (r i j : Nat) : A0I l l' (r + 1) i j = A0I l l' r i j + if gi l r = (i : Int) ∧ gi l' r = (j : Int) then 1 else 0:=by
 unfold A0I
 simp only [cnt]
 by_cases h : gi l r = (i : Int) ∧ gi l' r = (j : Int)
 ·rw [if_pos h,if_pos (by simp [h.1,h.2])];omega
 ·rw [if_neg h,if_neg (by simpa using h)];omega
theorem A9v (l l' : List Int) (r k i j : Nat) (h1 : gi l r = (i : Int)) (h2 : gi l' r = (j : Int)) : (W8 l l' r k i).set j (A0I l l' r i j + 1) = W8 l l' (r + 1) k i:=by
 unfold W8
 refine List.ext_getElem (by simp) fun t g1 g2=>?_
 rw [List.getElem_set]
 simp only [List.getElem_map,List.getElem_range,A5q,h1,h2,true_and]
 by_cases e : j = t
 ·subst e;simp
 ·rw [if_neg e,if_neg (by omega)];omega
theorem B2Q (l l' : List Int) (r k i : Nat) (h1 : gi l r ≠ (i : Int)) : W8 l l' r k i = W8 l l' (r + 1) k i:=by
 unfold W8
 refine List.map_congr_left fun t _=>?_
 rw [A5q,if_neg (fun h=>h1 h.1)]
 omega
def A1a (B0 k i : Nat) : Value:=.slice (some ⟨B0 + 1 + i,0,none⟩) k k
def A0C (B0 k i : Nat) : List Value:=(List.range i).map (A1a B0 k) ++ List.replicate (k - i) (.slice none 0 0)
theorem B0O (B0 k : Nat) {i : Nat} (h : i < k) : (A0C B0 k i).set i (A1a B0 k i) = A0C B0 k (i + 1):=by
 unfold A0C
 rw [List.set_append_right _ _ (by simp),List.length_map,List.length_range,Nat.sub_self]
 obtain ⟨m,hm⟩ : ∃ m,k - i = m + 1:=⟨k - i - 1,by omega⟩
 rw [hm,show k - (i + 1) = m by omega,List.range_succ,List.map_append,List.append_assoc]
 rfl
theorem B27 (B0 k : Nat) {i : Nat} (h : i < k) : (A0C B0 k k)[i]? = some (A1a B0 k i):=by
 unfold A0C;simp [h]
theorem A8o (l : List Value) (i : Nat) : (A0R l)[i]? = l[i]?:=by unfold A0R;simp
theorem B1a (l : List Value) (i : Nat) (v : Value) : (A0R l).setIfInBounds i v = A0R (l.set i v):=by
 unfold A0R;rw [List.setIfInBounds_toArray]
def A4a (B0 k i : Nat) (wr : World) : Prop:=wr.heap.size = B0 + 1 + i ∧ Blk wr B0 22 (A0R (A0C B0 k i)) ∧ ∀ j,j < i → Blk wr (B0 + 1 + j) 3 (G8 (List.replicate k 0))
def A1S (B0 k : Nat) (l l' : List Int) (r : Nat) (wr : World) : Prop:=Blk wr B0 22 (A0R (A0C B0 k k)) ∧ ∀ j,j < k → Blk wr (B0 + 1 + j) 3 (G8 (W8 l l' r k j))
theorem A6Z (u : World) (p : Addr) (v : Value) : (u.setCell p v).heap.size = u.heap.size:=by simp [World.setCell]
theorem A4a.next {B0 k i : Nat} {wr : World} (h : A4a B0 k i wr) (hi : i < k) : A4a B0 k (i + 1) ((wr.setCell ⟨B0,i,none⟩ (.slice (some ⟨wr.heap.size,0,none⟩) k k)).alloc (.cells (G8 (List.replicate k 0)) 3)):=by
 obtain ⟨h1,h2,h3⟩:=h
 refine ⟨by rw [E9,A6Z,h1];omega,?_,fun j hj=>?_⟩
 ·have := h2.set_ i (.slice (some ⟨wr.heap.size,0,none⟩) k k)
  rw [B1a,h1,show (Value.slice (some ⟨B0 + 1 + i,0,none⟩) k k) = A1a B0 k i from rfl,B0O B0 k hi] at this
  rw [h1]
  exact this.grow (A3.alloc _ _)
 ·rcases Nat.lt_or_ge j i with hlt | hge
  ·exact ((h3 j hlt).far (p:=⟨B0,i,none⟩) (by show B0 + 1 + j ≠ B0;omega) _).grow (A3.alloc _ _)
  ·obtain rfl : j = i:=by omega
   have := Blk.new (wr.setCell ⟨B0,j,none⟩ (.slice (some ⟨wr.heap.size,0,none⟩) k k)) 3 (G8 (List.replicate k 0))
   rw [A6Z,h1] at this
   rw [h1]
   exact this
theorem A1S.next {B0 k : Nat} {l l' : List Int} {r : Nat} {wr : World} (h : A1S B0 k l l' r wr) {p q : Nat} (hp : gi l r = (p : Int)) (hq : gi l' r = (q : Int)) (hpk : p < k) :
  A1S B0 k l l' (r + 1) (wr.setCell ⟨B0 + 1 + p,q,none⟩ (.int .i64 (A0I l l' r p q + 1))):=by
 refine ⟨h.1.far (p:=⟨B0 + 1 + p,q,none⟩) (by show B0 ≠ B0 + 1 + p;omega) _,fun j hj=>?_⟩
 by_cases e : j = p
 ·subst e
  have := (h.2 j hj).set_ q (.int .i64 (A0I l l' r j q + 1))
  rw [A7T,A9v l l' r k j q hp hq] at this
  exact this
 ·rw [← B2Q l l' r k j (by rw [hp];omega)]
  exact (h.2 j hj).far (p:=⟨B0 + 1 + p,q,none⟩) (by show B0 + 1 + j ≠ B0 + 1 + p;omega) _
def A6U (B0 k : Nat) (l l' : List Int) (m : Nat) : List Rw:=(List.range k).map fun i=>(some ⟨B0 + 1 + i,0,none⟩,k,W8 l l' m k i)
theorem A1S.rows {B0 k : Nat} {l l' : List Int} {m : Nat} {wr : World} (h : A1S B0 k l l' m wr) : A2c wr (some ⟨B0,0,none⟩) (A6U B0 k l l' m):=fun _ =>
 ⟨B0,0,rfl,h.1.lt,fun i r hi=>by
  unfold A6U at hi
  rw [List.getElem?_map,Option.map_eq_some_iff] at hi
  obtain ⟨j,hj,rfl⟩:=hi
  rw [List.getElem?_eq_some_iff] at hj
  obtain ⟨hj1,hj2⟩:=hj
  simp only [List.length_range] at hj1
  simp only [List.getElem_range] at hj2
  subst hj2
  refine ⟨?_,B2S (h.2 i hj1)⟩
  rw [Nat.zero_add,h.1.cell,A8o,B27 B0 k hj1]
  simp [A1a,W8]⟩
end Go.Proofs.YtjmopgepnndckaaGreatDoor
namespace Go.Proofs.YtjmopgepnndckaaGreatDoor
def A3W (f : Nat → Int) : Nat → Int
 | 0=>0
 | n + 1=>A3W f n + f n
section
variable {k : Nat} {T : Nat → Nat → Int} {i j : Nat}
end
end Go.Proofs.YtjmopgepnndckaaGreatDoor
namespace Go.Proofs.YtjmopgepnndckaaGreatDoor
open Go.RowKit
def Tb (w : World) (bt ot k : Nat) (rb ro rc : Nat → Nat) (T : Nat → Nat → Int) : Prop :=
 bt < w.heap.size ∧ ∀ i,i < k → w.cell? ⟨bt,ot + i,none⟩ = some (.slice (some ⟨rb i,ro i,none⟩) k (rc i)) ∧ rb i < w.heap.size ∧ ∀ j,j < k → w.cell? ⟨rb i,ro i + j,none⟩ = some (.int .i64 (T i j))
theorem Tb.grow {w u : World} {bt ot k : Nat} {rb ro rc : Nat → Nat} {T : Nat → Nat → Int} (h : Tb w bt ot k rb ro rc T) (hg : A3 w u) : Tb u bt ot k rb ro rc T :=
 ⟨Nat.lt_of_lt_of_le h.1 hg.size,fun i hi=>⟨(hg.cell (p:=⟨bt,ot + i,none⟩) h.1).trans (h.2 i hi).1,Nat.lt_of_lt_of_le (h.2 i hi).2.1 hg.size,fun j hj=>(hg.cell (p:=⟨rb i,ro i + j,none⟩) (h.2 i hi).2.1).trans ((h.2 i hi).2.2 j hj)⟩⟩
def qL (q : Rat) : List Value:=[.bool (C1 q.num),.int .u64 (B1 q.num.natAbs),.string (A8 q.num.natAbs),.int .u64 (B1 (D9 q.den)),.string (A8 (D9 q.den))]
theorem A3Q (x : Int) (y : Nat) (n d : Int) (s : Nat) (hn : n.natAbs < 2 ^ s) (hd : d.natAbs < 2 ^ s) (hs : 1 ≤ s) : qs (D3 n d) ≤ s:=by
 by_cases h0 : d = 0
 ·subst h0
  unfold D3
  rw [Rat.divInt_zero]
  exact A6d 0 s (by simp;exact Nat.two_pow_pos s) hs
 ·refine Nat.max_le.2 ⟨?_,?_⟩
  ·rw [A5K n d h0,Y1]
   exact Nat.le_trans (I4 _ _) (K4.2 hn)
  ·rw [A6J n d h0]
   exact Nat.le_trans (I4 _ _) (K4.2 hd)
def Lq (u : World) (A : Option Addr) (l : List Rat) : Prop :=
 l ≠ [] → ∃ b off,A = some ⟨b,off,none⟩ ∧ b < u.heap.size ∧ ∀ i q,l[i]? = some q → ∀ j v,(qL q)[j]? = some v → u.cell? ⟨b,off + i * 5 + j,none⟩ = some v
theorem Lq.nil (u : World) (A : Option Addr) : Lq u A []:=fun h=>absurd rfl h
theorem Lq.grow {u u' : World} {A : Option Addr} {l : List Rat} (h : Lq u A l) (hg : A3 u u') : Lq u' A l:=fun hn=>by
 obtain ⟨b,off,e,hb,hc⟩:=h hn
 exact ⟨b,off,e,Nat.lt_of_lt_of_le hb hg.size,fun i x hi j v hj=>(hg.cell (p:=⟨b,off + i * 5 + j,none⟩) hb).trans (hc i x hi j v hj)⟩
def gq (l : List Rat) (i : Nat) : Rat:=(l[i]?).getD 0
theorem A0u {l : List Rat} {i : Nat} (h : i < l.length) : l[i]? = some (gq l i):=by
 unfold gq;rw [List.getElem?_eq_getElem h];rfl
theorem V8 {l : List Rat} {i : Nat} (h : i < l.length) : gq l i ∈ l:=List.mem_of_getElem? (A0u h)
def Cq (u : World) (b o : Nat) (q : Rat) : Prop:=u.cell? ⟨b,o,none⟩ = some (.bool (C1 q.num)) ∧ u.cell? ⟨b,o + 1,none⟩ = some (.int .u64 (B1 q.num.natAbs)) ∧ u.cell? ⟨b,o + 2,none⟩ = some (.string (A8 q.num.natAbs)) ∧
 u.cell? ⟨b,o + 3,none⟩ = some (.int .u64 (B1 (D9 q.den))) ∧ u.cell? ⟨b,o + 4,none⟩ = some (.string (A8 (D9 q.den)))
theorem Lq.at {u : World} {A : Option Addr} {l : List Rat} (h : Lq u A l) (hne : l ≠ []) : ∃ b off,A = some ⟨b,off,none⟩ ∧ b < u.heap.size ∧ ∀ i,i < l.length → Cq u b (off + i * 5) (gq l i):=by
 obtain ⟨b,off,e,hb,hc⟩:=h hne
 exact ⟨b,off,e,hb,fun i hi=>⟨hc i _ (A0u hi) 0 _ rfl,hc i _ (A0u hi) 1 _ rfl,hc i _ (A0u hi) 2 _ rfl,hc i _ (A0u hi) 3 _ rfl,hc i _ (A0u hi) 4 _ rfl⟩⟩
theorem Lq.read {u : World} {b off : Nat} {l : List Rat} (h : Lq u (some ⟨b,off,none⟩) l) {i : Nat} (hi : i < l.length) : Cq u b (off + i * 5) (gq l i):=by
 obtain ⟨b',off',e,_,hc⟩:=h.at (fun h0=>by rw [h0] at hi;cases hi)
 cases e
 exact hc i hi
theorem Lq.addr {u : World} {A : Option Addr} {l : List Rat} (h : Lq u A l) (hl : 0 < l.length) : ∃ b off,A = some ⟨b,off,none⟩:=by
 obtain ⟨b,off,e,_⟩:=h (fun h0=>by rw [h0] at hl;cases hl)
 exact ⟨b,off,e⟩
def G7 (f : Nat → Rat) : Nat → Rat
 | 0=>0
 | n + 1=>J5 (G7 f n) (f n)
theorem A22 : qs 0 = 1:=by show max (bl 0) (bl 1) = 1;rw [Z6,A2V.2 rfl];rfl
theorem A3V (f : Nat → Rat) (s n : Nat) (h : ∀ i,i < n → qs (f i) ≤ s) : ∀ j,j ≤ n → qs (G7 f j) ≤ j * (s + 1) + 1
 | 0,_=>by rw [G7,A22];omega
 | j + 1,hj=>by
  have ih:=A3V f s n h j (by omega)
  have h1:=A5e (G7 f j) (f j)
  have h2:=h j (by omega)
  show qs (G7 f j + f j) ≤ _
  rw [Nat.add_mul]
  omega
theorem T3 (n : Nat) (h : n ≤ 1099511627776) : qs (B3 (n : Nat)) ≤ 41:=by
 refine A6d (n : Int) 41 ?_ (by omega)
 rw [Int.natAbs_natCast]
 omega
def A0B (b2 b3 : Nat) (A B : Option Addr) (m c d : Nat) (l l' : List Rat) (W : World) : Prop :=
 Blk W b2 35 #[.slice A m c] ∧ Blk W b3 35 #[.slice B m d] ∧ Lq W A l ∧ Lq W B l'
theorem A0B.mk {b2 b3 : Nat} {A B : Option Addr} {m c d : Nat} {l l' : List Rat} {u : World} (h1 : Blk u b2 35 #[.slice A m c]) (h2 : Blk u b3 35 #[.slice B m d]) (h3 : Lq u A l) (h4 : Lq u B l') : A0B b2 b3 A B m c d l l' u:=⟨h1,h2,h3,h4⟩
theorem A0B.grow {b2 b3 : Nat} {A B : Option Addr} {m c d : Nat} {l l' : List Rat} {u u' : World} (hg : A3 u u') (h : A0B b2 b3 A B m c d l l' u) : A0B b2 b3 A B m c d l l' u':=⟨h.1.grow hg,h.2.1.grow hg,h.2.2.1.grow hg,h.2.2.2.grow hg⟩
theorem A0B.cells {b2 b3 ba oa bb ob : Nat} {m c d : Nat} {l l' : List Rat} {W : World} (h : A0B b2 b3 (some ⟨ba,oa,none⟩) (some ⟨bb,ob,none⟩) m c d l l' W) {i : Nat} (h1 : i < l.length) (h2 : i < l'.length) :
  (W.cell? ⟨b2,0,none⟩ = some (.slice (some ⟨ba,oa,none⟩) m c) ∧ W.cell? ⟨b3,0,none⟩ = some (.slice (some ⟨bb,ob,none⟩) m d)) ∧ Cq W ba (oa + i * 5) (gq l i) ∧ Cq W bb (ob + i * 5) (gq l' i) :=
 ⟨⟨h.1.cell 0,h.2.1.cell 0⟩,h.2.2.1.read h1,h.2.2.2.read h2⟩
theorem B03 (A : Option Addr) (l : List Rat) (c n : Nat) (hn : n = l.length) (hm : n ≤ 1099511627776) (s M : Nat) (hs : ∀ x ∈ l,qs x ≤ s) (hM : ∀ j,j ≤ n → qs (G7 (gq l) j) ≤ M) (hB : M + s + 100 ≤ BIG) (w : World) (h : Lq w A l) (HT : Tab w) :
  Calls Tryz.prog 94 #[.slice A n c] w fun e w'=>e = .returned (qV (G7 (gq l) n)) ∧ A3 w w':=by
 have H:=Lib.hid h
 have Hs:=Lib.hid hs
 have HM:=Lib.hid hM
 have Hn:=Lib.hid hn
 clear h hs hM hn
 go_enter Tryz.func94,Tryz.ntmps94
 refine en1 ?_
 intro u hG b2 hB hF
 refine wp_seq (rsE A6 [2] hB hG fun L hL=>?_)
 refine gaa (K9 _ _ _ _ _) fun b3 hb3 hn3=>?_
 replace hF:=hF.n1 [] hB hG hb3 hn3
 refine geT hL ?_
 clear hB hG hL L
 rintro u ⟨⟨-,hB,hG,-⟩,h3⟩
 replace hB:=hB.cons' h3
 clear h3
 clear hb3 hn3
 refine wp_seq ?_
 refine r0T ?_
 refine wp_block ?_
 go_loopw [8] (fun s0 wr=>∃ (j : Nat) (S : Rat),j ≤ n ∧ s0 = .int .i64 j ∧ (S = G7 (gq l) j) ∧ Bx wr [(b3,49,#[.bool (C1 S.num),.int .u64 (B1 S.num.natAbs),.string (A8 S.num.natAbs),.int .u64 (B1 (D9 S.den)),.string (A8 (D9 S.den))]),(b2,49,#[.bool false,.int .u64 0,.string ⟨#[]⟩,.int .u64 0,.string ⟨#[]⟩])] ∧ A3 w wr) (fun s0 _=>n - (intOf s0).toNat)
 case atStart=>exact ⟨0,0,Nat.zero_le _,rfl,rfl,hB,hG⟩
 case round =>
  clear hB hG
  obtain ⟨j,S,hj,rfl,hrel0,hB,hG⟩:=hrel
  obtain ⟨u,rfl⟩ : ∃ x,x = wr:=⟨_,rfl⟩
  have H0:=Lib.hid hrel0
  clear hrel0
  rcases Nat.lt_or_ge j n with hlt0 | hge0
  ·have hdec : decide ((j : Int) < (n : Int)) = true:=by simp;omega
   have hjl : j < l.length:=by rw [← Hn.out];exact hlt0
   have z1:=HM.out j (by omega)
   have z2:=Hs.out _ (V8 hjl)
   have hnx : G7 (gq l) (j + 1) = J5 (G7 (gq l) j) (gq l j):=rfl
   rw [← H0.out] at z1 hnx
   obtain ⟨ba,oa,rfl⟩:=H.out.addr (by omega)
   have hcl : ∀ W,A3 w W → Cq W ba (oa + j * 5) (gq l j):=fun W hg=>(H.out.grow hg).read hjl
   obtain ⟨F,hFj⟩ : ∃ F,F = gq l j:=⟨_,rfl⟩
   rw [← hFj] at z2 hnx
   simp only [← hFj] at hcl
   have Hcl:=Lib.hid hcl
   have Hnx:=Lib.hid hnx
   clear hcl hnx hFj hjl
   refine r0T ?_
   refine wp_seq ?_
   refine wp_cond_true (rfl) ?_
   refine wp_skip ?_
   refine A4 ?_
   refine wp_seq ?_
   refine wp_block ?_
   refine wp_seq (rsC A6 [0,0,2] hB hG fun K L hN hL=>?_)
   repeat first | refine gya ?_ | refine gyr ?_ | refine gna ?_ | refine gyb (by (rintro v ⟨hgu,hB,hG,-⟩ N hN;have r:=hB.r;simp only [BxR] at r;obtain ⟨q1,q2,q3,q4,q5⟩:=Hcl.out v hG;go_simp;exact hN)) ?_
   refine gaa (K9 _ _ _ _ _) fun b5 hb5 hn5=>?_
   replace hF:=hF.n1 [] hB hG hb5 hn5
   refine geC hL ?_
   clear hB hG hL L
   rintro u ⟨⟨-,hB,hG,-⟩,h5⟩
   replace hB:=hB.cons' h5
   clear h5
   clear hb5 hn5
   refine gtT ?_
   clear hN K
   refine st hB hF hG 0 0 [_,_,_,_,_] ?_
   clear hB hG
   intro u hB hG
   refine rsC A6 [0,0,1] hB hG fun K L hN hL=>?_
   repeat first | refine gya ?_ | refine gyr ?_ | refine gna ?_ | refine gyb (by (rintro v ⟨hgu,hB,hG,-⟩ N hN;have r:=hB.r;simp only [BxR] at r;obtain ⟨q1,q2,q3,q4,q5⟩:=Hcl.out v hG;go_simp;exact hN)) ?_
   refine gmd (C:=fun v ⟨hgu,hB,hG,_⟩=>A4K _ _ _ (by omega) (HT.grow hG)) ?_
   refine geC hL ?_
   clear hB hG hL L
   rintro u ⟨-,hB,hG,-⟩
   refine gt ?_
   clear hN K
   refine st hB hF hG 1 0 [_,_,_,_,_] ?_
   clear hB hG
   intro u hB hG
   refine E7 ?_
   refine A4 ?_
   refine r0E ?_
   refine A4 ?_
   go_roundw
   case rel=>exact ⟨j + 1,J5 S F,by omega,by go_num,Hnx.out.symm,hB.tail,hG⟩
   case measure=>simp [intOf];omega
  ·obtain rfl : n = j:=by omega
   have hdec : decide ((n : Int) < (n : Int)) = false:=by simp
   skip
   refine r0T ?_
   refine wp_seq ?_
   refine wp_cond_false (rfl) ?_
   refine wp_exit ?_
   refine C9 ?_
   refine C9 ?_
   refine G6 ?_
   refine A4 ?_
   refine r0T ?_
   refine st hB hF hG 1 0 [_,_,_,_,_] ?_
   clear hB hG
   intro u hB hG
   refine rt Tryz.results94 ?_
   exact ⟨A6L (by rw [H0.out]),hG⟩
def A1A (l : List Rat) (n : Nat) : Rat:=Z3 (G7 (gq l) n) (B3 n)
theorem B0B (A : Option Addr) (l : List Rat) (c n : Nat) (hn : n = l.length) (hn0 : 0 < n) (hm : n ≤ 1099511627776) (s : Nat) (hs : ∀ x ∈ l,qs x ≤ s) (hB : n * (s + 1) + s + 200 ≤ BIG) (w : World) (h : Lq w A l) (HT : Tab w) :
  Calls Tryz.prog 56 #[.slice A n c] w fun e w'=>e = .returned (.tuple #[qV (A1A l n),.bool true]) ∧ A3 w w':=by
 have hsz:=A3V (gq l) s n (fun i hi=>hs _ (V8 (by omega)))
 have hsz2 : ∀ j,j ≤ n → qs (G7 (gq l) j) ≤ n * (s + 1) + 1:=fun j hj=>Nat.le_trans (hsz j hj) (Nat.add_le_add_right (Nat.mul_le_mul_right _ hj) 1)
 have hsum : ∀ W,A3 w W → Calls Tryz.prog 94 #[.slice A n c] W fun e w'=>e = .returned (qV (G7 (gq l) n)) ∧ A3 W w':=fun W hg=>B03 A l c n hn hm s (n * (s + 1) + 1) hs hsz2 (by omega) W (h.grow hg) (HT.grow hg)
 have z1:=hsz2 n (Nat.le_refl _)
 have z2:=T3 n hm
 have hnz : nzq (B3 (n : Nat)) = true:=decide_eq_true (fun h0=>by
  have h1:=A5m (n : Int)
  rw [h0] at h1
  have : (0 : Rat).num = 0:=rfl
  omega)
 obtain ⟨S,hS⟩ : ∃ S,S = G7 (gq l) n:=⟨_,rfl⟩
 have hqm : A1A l n = Z3 S (B3 n):=by rw [hS];rfl
 rw [← hS] at hsum z1
 rw [hqm,← hnz]
 have Hsum:=Lib.hid hsum
 clear hsum hsz hsz2 hS hqm hs h hn hnz
 go_enter Tryz.func56,Tryz.ntmps56
 refine en1 ?_
 intro u hG b2 hB hF
 refine wp_seq (rsC A6 [0,1,0,0,1,1,0,0] hB hG fun K L hN hL=>?_)
 refine gs ?_
 refine gmd (C:=fun v ⟨hgu,hB,hG,_⟩=>Hsum.out _ hG) ?_
 refine gs ?_
 refine gmw (C:=fun v=>Q3 _ (by omega) (by omega) _) ?_
 refine gmd (C:=fun v ⟨hgu,hB,hG,_⟩=>B1g _ _ _ (by omega) (HT.grow hG)) ?_
 refine gs ?_
 refine geC hL ?_
 clear hB hG hL L
 rintro u ⟨-,hB,hG,-⟩
 refine gtT ?_
 clear hN K
 refine st hB hF hG 0 0 [_,_,_,_,_] ?_
 clear hB hG
 intro u hB hG
 refine rt Tryz.results56 ?_
 exact ⟨rfl,hG⟩
end Go.Proofs.YtjmopgepnndckaaGreatDoor
