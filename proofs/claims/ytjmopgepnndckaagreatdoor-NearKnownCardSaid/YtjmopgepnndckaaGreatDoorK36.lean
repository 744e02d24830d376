/- Contracts and laws. -/
import Derived.Test.YtjmopgepnndckaaGreatDoorK35
import Derived.Deep.Onto
import Derived.Deep.Grids
set_option linter.unusedSimpArgs false
set_option linter.unusedVariables false
namespace Go.Proofs.YtjmopgepnndckaaGreatDoor
open Go.RowKit
abbrev Y5 (q : Rat) : Array Value:=#[.bool (C1 q.num),.int .u64 (B1 q.num.natAbs),.string (A8 q.num.natAbs),.int .u64 (B1 (D9 q.den)),.string (A8 (D9 q.den))]
def A1k (b2 b8 : Nat) (A : Option Addr) (m c : Nat) (l : List Rat) (q : Rat) (W : World) : Prop :=
 Blk W b2 35 #[.slice A m c] ∧ Blk W b8 49 (Y5 q) ∧ Lq W A l
theorem A1k.mk {b2 b8 : Nat} {A : Option Addr} {m c : Nat} {l : List Rat} {q : Rat} {u : World} (h1 : Blk u b2 35 #[.slice A m c]) (h2 : Blk u b8 49 (Y5 q)) (h3 : Lq u A l) : A1k b2 b8 A m c l q u:=⟨h1,h2,h3⟩
theorem A1k.grow {b2 b8 : Nat} {A : Option Addr} {m c : Nat} {l : List Rat} {q : Rat} {u u' : World} (hg : A3 u u') (h : A1k b2 b8 A m c l q u) : A1k b2 b8 A m c l q u':=⟨h.1.grow hg,h.2.1.grow hg,h.2.2.grow hg⟩
def Lb (u : World) (A : Option Addr) (l : List Bool) : Prop :=
 l ≠ [] → ∃ b off,A = some ⟨b,off,none⟩ ∧ b < u.heap.size ∧ ∀ i x,l[i]? = some x → u.cell? ⟨b,off + i,none⟩ = some (.bool x)
theorem Lb.nil (u : World) (A : Option Addr) : Lb u A []:=fun h=>absurd rfl h
theorem Lb.grow {u u' : World} {A : Option Addr} {l : List Bool} (h : Lb u A l) (hg : A3 u u') : Lb u' A l:=fun hn=>by
 obtain ⟨b,off,e,hb,hc⟩:=h hn
 exact ⟨b,off,e,Nat.lt_of_lt_of_le hb hg.size,fun i x hi=>(hg.cell (p:=⟨b,off + i,none⟩) hb).trans (hc i x hi)⟩
def gb (l : List Bool) (i : Nat) : Bool:=(l[i]?).getD false
theorem B4H {l : List Bool} {i : Nat} (h : i < l.length) : l[i]? = some (gb l i):=by
 unfold gb;rw [List.getElem?_eq_getElem h];rfl
theorem Lb.addr {u : World} {A : Option Addr} {l : List Bool} (h : Lb u A l) (hl : 0 < l.length) : ∃ b off,A = some ⟨b,off,none⟩:=by
 obtain ⟨b,off,e,_⟩:=h (fun h0=>by rw [h0] at hl;cases hl)
 exact ⟨b,off,e⟩
theorem Lb.read {u : World} {b off : Nat} {l : List Bool} (h : Lb u (some ⟨b,off,none⟩) l) {i : Nat} (hi : i < l.length) : u.cell? ⟨b,off + i,none⟩ = some (.bool (gb l i)):=by
 obtain ⟨b',off',e,_,hc⟩:=h (fun h0=>by rw [h0] at hi;cases hi)
 cases e
 exact hc i _ (B4H hi)
def A1B (b2 : Nat) (A : Option Addr) (m c : Nat) (l : List Bool) (W : World) : Prop:=Blk W b2 127 #[.slice A m c] ∧ Lb W A l
theorem A1B.mk {b2 : Nat} {A : Option Addr} {m c : Nat} {l : List Bool} {u : World} (h1 : Blk u b2 127 #[.slice A m c]) (h2 : Lb u A l) : A1B b2 A m c l u:=⟨h1,h2⟩
theorem A1B.grow {b2 : Nat} {A : Option Addr} {m c : Nat} {l : List Bool} {u u' : World} (hg : A3 u u') (h : A1B b2 A m c l u) : A1B b2 A m c l u':=⟨h.1.grow hg,h.2.grow hg⟩
def hv (is : List Bool) (l : List Rat) (i j : Nat) : Int:=if gb is i && !gb is j then E2 (gq l i) (gq l j) + 1 else 0
def B4U (is : List Bool) (l : List Rat) (m : Nat) : Int:=A3W (fun a=>A3W (hv is l a) m) m
abbrev A66 : Array Value:=#[.bool false,.int .u64 0,.string ⟨#[]⟩,.int .u64 0,.string ⟨#[]⟩]
abbrev Rq:=Option Addr × Nat × List Rat
def Lrq (u : World) (A : Option Addr) (rs : List Rq) : Prop :=
 rs ≠ [] → ∃ b off,A = some ⟨b,off,none⟩ ∧ b < u.heap.size ∧ ∀ i r,rs[i]? = some r → u.cell? ⟨b,off + i,none⟩ = some (.slice r.1 r.2.2.length r.2.1) ∧ Lq u r.1 r.2.2
theorem Lrq.grow {u u' : World} {A : Option Addr} {rs : List Rq} (h : Lrq u A rs) (hg : A3 u u') : Lrq u' A rs:=fun hn=>by
 obtain ⟨b,off,e,hb,hc⟩:=h hn
 exact ⟨b,off,e,Nat.lt_of_lt_of_le hb hg.size,fun i r hi=>⟨(hg.cell (p:=⟨b,off + i,none⟩) hb).trans (hc i r hi).1,(hc i r hi).2.grow hg⟩⟩
theorem Lrq.addr {u : World} {A : Option Addr} {rs : List Rq} (h : Lrq u A rs) (hl : 0 < rs.length) : ∃ b off,A = some ⟨b,off,none⟩:=by
 obtain ⟨b,off,e,_⟩:=h (fun h0=>by rw [h0] at hl;cases hl)
 exact ⟨b,off,e⟩
theorem Lrq.read {u : World} {b off : Nat} {rs : List Rq} (h : Lrq u (some ⟨b,off,none⟩) rs) {i : Nat} {r : Rq} (hi : rs[i]? = some r) : u.cell? ⟨b,off + i,none⟩ = some (.slice r.1 r.2.2.length r.2.1) ∧ Lq u r.1 r.2.2:=by
 obtain ⟨b',off',e,_,hc⟩:=h (fun h0=>by rw [h0] at hi;simp at hi)
 cases e
 exact hc i r hi
end Go.Proofs.YtjmopgepnndckaaGreatDoor
namespace Go.Proofs.YtjmopgepnndckaaGreatDoor
open Go Go.RowKit
def A1I {V : Type} : List V → Nat → List V → List V
 | xs,_,[]=>xs
 | xs,i,v :: vs=>A1I (xs.set i v) (i + 1) vs
theorem A7W {V : Type} : ∀ (vs ys fa fb : List V),ys.length = vs.length → A1I (fa ++ (ys ++ fb)) fa.length vs = fa ++ (vs ++ fb)
 | [],ys,fa,fb,h=>by
  obtain rfl : ys = []:=List.length_eq_zero_iff.1 h
  rfl
 | v :: vs,[],fa,fb,h=>by cases h
 | v :: vs,y :: ys,fa,fb,h=>by
  show A1I ((fa ++ (y :: ys ++ fb)).set fa.length v) (fa.length + 1) vs = _
  have e : (fa ++ (y :: ys ++ fb)).set fa.length v = (fa ++ [v]) ++ (ys ++ fb):=by
   simp [List.set_append_right]
  rw [e,show fa.length + 1 = (fa ++ [v]).length by simp,A7W vs ys _ fb (by simpa using h)]
  simp
theorem U8 {V α : Type} {enc : α → List V} {size : Nat} (he : ∀ x,(enc x).length = size) : ∀ ps : List α,(ps.flatMap enc).length = ps.length * size
 | []=>by simp
 | p :: ps=>by rw [List.flatMap_cons,List.length_append,U8 he ps,he,List.length_cons,Nat.add_mul];omega
theorem B4M {V α : Type} {enc : α → List V} {size : Nat} (he : ∀ x,(enc x).length = size) (ps : List α) (k : Nat) (z : α) (hk : k < ps.length) : A1I (ps.flatMap enc) (k * size) (enc z) = (ps.set k z).flatMap enc:=by
 have e : ps = ps.take k ++ (ps[k] :: ps.drop (k + 1)):=by rw [← List.drop_eq_getElem_cons hk,List.take_append_drop]
 have e2 : ps.set k z = ps.take k ++ (z :: ps.drop (k + 1)):=by
  rw [List.set_eq_take_append_cons_drop,if_pos hk]
 rw [e2]
 conv=>lhs;rw [e]
 rw [List.flatMap_append,List.flatMap_cons,List.flatMap_append,List.flatMap_cons]
 have hl : ((ps.take k).flatMap enc).length = k * size:=by rw [U8 he,List.length_take,Nat.min_eq_left (by omega)]
 have := A7W (enc z) (enc ps[k]) ((ps.take k).flatMap enc) ((ps.drop (k + 1)).flatMap enc) (by rw [he,he])
 rw [hl] at this
 exact this
theorem A2l {V α : Type} {enc : α → List V} {size : Nat} (he : ∀ x,(enc x).length = size) (ps : List α) (k j : Nat) (hk : k < ps.length) (hj : j < size) : (ps.flatMap enc)[k * size + j]? = (enc ps[k])[j]?:=by
 have e : ps = ps.take k ++ (ps[k] :: ps.drop (k + 1)):=by rw [← List.drop_eq_getElem_cons hk,List.take_append_drop]
 have hl : ((ps.take k).flatMap enc).length = k * size:=by rw [U8 he,List.length_take,Nat.min_eq_left (by omega)]
 conv=>lhs;rw [e]
 rw [List.flatMap_append,List.flatMap_cons,List.getElem?_append_right (by omega),hl,Nat.add_sub_cancel_left,List.getElem?_append_left (by rw [he];exact hj)]
theorem A48 {u u1 u2 : World} {r : Option Nat} (h : u.grownBy u1 r) (h' : u1.grownBy u2 r) : u.grownBy u2 r:=by
 obtain ⟨a1,a2,a3,a4,a5⟩:=h
 obtain ⟨b1,b2,b3,b4,b5⟩:=h'
 exact ⟨b1.trans a1,b2.trans a2,b3.trans a3,Nat.le_trans a4 b4,fun k hk hr=>(b5 k (Nat.lt_of_lt_of_le hk a4) hr).trans (a5 k hk hr)⟩
theorem A7d {B : Nat} {e : TypeId} {size g cap n : Nat} : ∀ (vs : List Value) (i : Nat) (u : World) (xs : List Value),u.ownsRow B e size (.slice (some ⟨g,0,none⟩) n cap) n xs →
  (E1 u g i vs).ownsRow B e size (.slice (some ⟨g,0,none⟩) n cap) n (A1I xs i vs) ∧ u.grownBy (E1 u g i vs) (some g)
 | [],i,u,xs,h=>⟨h,⟨rfl,rfl,rfl,Nat.le_refl _,fun _ _ _=>rfl⟩⟩
 | v :: vs,i,u,xs,h=>by
  obtain ⟨h1,h2⟩:=h.stored i v
  obtain ⟨h3,h4⟩:=A7d vs (i + 1) _ _ h1
  exact ⟨h3,A48 h2 h4⟩
theorem A4O {α : Type} {enc : α → List Value} {B : Nat} {e : TypeId} {size g cap n : Nat} (he : ∀ x,(enc x).length = size) {u : World} {ps : List α} (h : u.ownsRow B e size (.slice (some ⟨g,0,none⟩) n cap) n (ps.flatMap enc)) (k : Nat) (z : α) (hk : k < ps.length) :
  (E1 u g (k * size) (enc z)).ownsRow B e size (.slice (some ⟨g,0,none⟩) n cap) n ((ps.set k z).flatMap enc) ∧ u.grownBy (E1 u g (k * size) (enc z)) (some g):=by
 have := A7d (enc z) (k * size) u _ h
 rw [B4M he ps k z hk] at this
 exact this
theorem N2 {α : Type} {enc : α → List Value} {B : Nat} {e : TypeId} {size g cap n : Nat} (he : ∀ x,(enc x).length = size) {u : World} {ps : List α} (h : u.ownsRow B e size (.slice (some ⟨g,0,none⟩) n cap) n (ps.flatMap enc)) (hn : n = ps.length) (k j : Nat) (hk : k < ps.length) (hj : j < size) :
  u.cell? ⟨g,k * size + j,none⟩ = (enc ps[k])[j]?:=by
 have hlt : k * size + j < n * size:=by
  have : k * size + size ≤ ps.length * size:=by rw [← Nat.succ_mul];exact Nat.mul_le_mul_right _ hk
  rw [hn];omega
 rw [h.cellAt (k * size + j) hlt,A2l he ps k j hk hj]
def A1V (v v2 : Value) : Prop:=∀ g,v.ownBlock = some g → v2.ownBlock = some g → False
theorem A1V.symm {v v2 : Value} (h : A1V v v2) : A1V v2 v:=fun g h1 h2=>h g h2 h1
def J8 {α : Type} (ps : List α) (k : Nat) (y : α) : List α:=ps.take k ++ y :: ps.drop k
theorem A7w {α : Type} (ps : List α) (k : Nat) (y : α) (hk : k ≤ ps.length) : (J8 ps k y).length = ps.length + 1:=by
 unfold J8;rw [List.length_append,List.length_cons,List.length_take,List.length_drop];omega
theorem A9Y {α : Type} (ps : List α) (k : Nat) (y : α) : (J8 ps k y).Perm (y :: ps):=by
 unfold J8
 refine List.perm_middle.trans ?_
 rw [List.take_append_drop]
theorem A8t {α : Type} (ps : List α) (k : Nat) (y z : α) (hk : k ≤ ps.length) : (J8 ps k y).set k z = J8 ps k z:=by
 unfold J8
 have : (ps.take k).length = k:=by rw [List.length_take];omega
 rw [List.set_append_right _ _ (by omega),this,Nat.sub_self,List.set_cons_zero]
theorem A7t {α : Type} {R : α → α → Prop} (ht : ∀ {a b c},R a b → R b c → R a c) (ps : List α) (k : Nat) (y : α) (hk : k ≤ ps.length) (hs : ps.Pairwise R) (h1 : ∀ j (h : j < ps.length),k ≤ j → R y ps[j]) (h2 : ∀ j (h : j < ps.length),j + 1 = k → R ps[j] y) : (J8 ps k y).Pairwise R:=by
 have h3 : ∀ j (h : j < ps.length),j < k → R ps[j] y:=fun j h hjk=>by
  by_cases e : j + 1 = k
  ·exact h2 j h e
  ·have hp:=List.pairwise_iff_getElem.1 hs j (k - 1) h (by omega) (by omega)
   exact ht hp (h2 (k - 1) (by omega) (by omega))
 unfold J8
 rw [List.pairwise_append,List.pairwise_cons]
 refine ⟨hs.take,⟨fun x hx=>?_,hs.drop⟩,fun a ha b hb=>?_⟩
 ·obtain ⟨j,hj,rfl⟩:=List.getElem_of_mem hx
  rw [List.length_drop] at hj
  rw [List.getElem_drop]
  exact h1 _ _ (by omega)
 ·obtain ⟨i,hi,rfl⟩:=List.getElem_of_mem ha
  rw [List.length_take] at hi
  rw [List.getElem_take]
  have hi1 : i < k:=by omega
  have hi2 : i < ps.length:=by omega
  rcases List.mem_cons.1 hb with rfl | hb
  ·exact h3 i hi2 hi1
  ·obtain ⟨j,hj,rfl⟩:=List.getElem_of_mem hb
   rw [List.length_drop] at hj
   rw [List.getElem_drop]
   exact List.pairwise_iff_getElem.1 hs i (k + j) hi2 (by omega) (by omega)
theorem A4w {u w' : World} {B : Nat} {e : TypeId} {size n : Nat} {v : Value} {xs : List Value} {x : Ax} {a : Nat} (hl : Rn u x a) (h : u.ownsRow B e size v n xs) (ht : e ≠ 162) (hg : u.grownBy w' v.ownBlock) : Rn w' x a:=⟨fun hne=>by
 obtain ⟨b,off,cs,fr,e1,hb,hc⟩:=hl.1 hne
 refine ⟨b,off,cs,fr,e1,?_,hc⟩
 refine (hg.block b (M9 hb) fun hxe=>?_).trans hb
 obtain ⟨_,h | ⟨g,cap,cur,rfl,hb',hh,hn,hc',hs,ht2⟩⟩:=h
 ·rw [h.1] at hxe;cases hxe
 ·have h1 : b = g:=Option.some.inj hxe
  rw [h1,hh] at hb
  injection hb with hb
  injection hb with _ h3 _
  exact ht h3,hl.2⟩
theorem A9T {u w' : World} {B : Nat} {e : TypeId} {size n : Nat} {v : Value} {xs : List Value} {p : Az} {q : Rat} (hl : Rz u p q) (h : u.ownsRow B e size v n xs) (ht : e ≠ 162) (hg : u.grownBy w' v.ownBlock) : Rz w' p q:=⟨A4w hl.1 h ht hg,A4w hl.2 h ht hg⟩
theorem B3L {u w' : World} {B : Nat} {e : TypeId} {size n : Nat} {v : Value} {xs : List Value} {ps : List Zr} (hl : I7 u ps) (h : u.ownsRow B e size v n xs) (ht : e ≠ 162) (hg : u.grownBy w' v.ownBlock) : I7 w' ps:=fun r hr=>A9T (hl r hr) h ht hg
theorem A1s {u : World} {B : Nat} {e : TypeId} {size n : Nat} {v : Value} {xs : List Value} (h : u.ownsRow B e size v n xs) (h0 : 0 < n) : ∃ g cap,v = .slice (some ⟨g,0,none⟩) n cap ∧ B ≤ g ∧ n ≤ cap:=by
 obtain ⟨_,h | ⟨g,cap,cur,rfl,hb',hh,hn,hc',hs,ht2⟩⟩:=h
 ·omega
 ·exact ⟨g,cap,rfl,hb',hn⟩
theorem A1d {u : World} {B B' : Nat} {e e' : TypeId} {s s' : Nat} {v v' : Value} {n n' : Nat} {xs xs' : List Value} (h : u.ownsRow B e s v n xs) (h' : u.ownsRow B' e' s' v' n' xs') (hne : e ≠ e') : A1V v v':=fun g h1 h2=>by
 obtain ⟨_,h | ⟨g1,cap,cur,rfl,hb,hh,hn,hc,hs,ht⟩⟩:=h
 ·rw [h.1] at h1;cases h1
 ·obtain ⟨_,h' | ⟨g2,cap',cur',rfl,hb',hh',hn',hc',hs',ht'⟩⟩:=h'
  ·rw [h'.1] at h2;cases h2
  ·have e1 : g = g1:=Option.some.inj h1.symm
   have e2 : g = g2:=Option.some.inj h2.symm
   rw [← e1] at hh
   rw [← e2,hh] at hh'
   injection hh' with hh'
   injection hh' with _ h3 _
   exact hne h3
theorem A61 {w u u' : World} {e : TypeId} {size n : Nat} {v : Value} {xs : List Value} (h : u.ownsRow w.heap.size e size v n xs) (hG : A3 w u) (hg : u.grownBy u' v.ownBlock) : A3 w u':=hG.grown hg fun k hk=>(h.lt k hk).1
theorem B1P {ops : Array Oper} {a : Act} {u : World} {K : Act → World → Prop} {d2 : Option Nat} {s z : Operand} {t2 : TypeId} {p2 : String} {f2 : Array Edge} {rest : List Oper} {T e : TypeId} {size bytes : Nat} (hE : EI T e size bytes)
  (B : Nat) (v : Value) (n : Nat) (xs : List Value) (b : Nat) (ys : List Value) (hy : ys.length = size) (h1 : (ys.all fun y=>y.oneCell') = true) (hblk : Blk u b e ys.toArray)
  (hs : a.eval s = v) (hz : a.eval z = .slice (some ⟨b,0,none⟩) 1 1)
  (hown : u.ownsRow B e size v n xs) (hl : n + 1 ≤ 1099511627776) (hl2 : (n + 1) * bytes ≤ 140737488355328) (hB : B ≤ u.heap.size)
  (h : ∀ v' w',w'.ownsRow B e size v' (n + 1) (xs ++ ys) → u.grownBy w' v.ownBlock → (v'.ownBlock = v.ownBlock ∨ v'.ownBlock = some u.heap.size) → wpList Tryz.prog ops (NoK K) rest (a.put d2 v') w') :
  wpList Tryz.prog ops (NoK K) (⟨d2,.call { callee:=.builtin .append,args:=#[s,z],argTypes:=#[T,T] },t2,p2,f2,none⟩ :: rest) a u:=by
 obtain ⟨hund,⟨i0,z0,hi0,hz0,hz1,hz2,hz3⟩,hpos⟩:=hE
 refine wpList_append_own_at u (a:=a) (Q:=NoK K) rfl s z T rfl B e i0 z0 size bytes hund hi0 hz0 hz1 hz2 hz3 hpos v n xs hs hown ⟨b,0,none⟩ 1 1 ys hz (by rw [hy];omega) ?_ (fun y hy=>List.all_eq_true.1 h1 y hy) (by unfold maxLen;omega) hl2 hB fun v' w' g1 g2 _ g4=>h v' w' g1 g2 g4
 intro j y hj
 rw [Go.WideShapes.add_plain,Nat.zero_add,Blk.cell hblk j,List.getElem?_toArray]
 exact hj
end Go.Proofs.YtjmopgepnndckaaGreatDoor
namespace Go.Proofs.YtjmopgepnndckaaGreatDoor
open Go.RowKit
def A00 (b3 b4 b5 b8 : Nat) (A B : Option Addr) (m c d : Nat) (l l' : List Rat) (a : Rat) (W : World) : Prop :=
 Blk W b3 35 #[.slice A m c] ∧ Blk W b4 35 #[.slice B m d] ∧ Blk W b5 49 (Y5 a) ∧ Blk W b8 49 (Y5 (B3 1)) ∧ Lq W A l ∧ Lq W B l'
theorem A00.mk {b3 b4 b5 b8 : Nat} {A B : Option Addr} {m c d : Nat} {l l' : List Rat} {a : Rat} {u : World} (h1 : Blk u b3 35 #[.slice A m c]) (h2 : Blk u b4 35 #[.slice B m d]) (h3 : Blk u b5 49 (Y5 a)) (h4 : Blk u b8 49 (Y5 (B3 1))) (h5 : Lq u A l) (h6 : Lq u B l') : A00 b3 b4 b5 b8 A B m c d l l' a u:=⟨h1,h2,h3,h4,h5,h6⟩
theorem A00.grow {b3 b4 b5 b8 : Nat} {A B : Option Addr} {m c d : Nat} {l l' : List Rat} {a : Rat} {u u' : World} (hg : A3 u u') (h : A00 b3 b4 b5 b8 A B m c d l l' a u) : A00 b3 b4 b5 b8 A B m c d l l' a u' :=
 ⟨h.1.grow hg,h.2.1.grow hg,h.2.2.1.grow hg,h.2.2.2.1.grow hg,h.2.2.2.2.1.grow hg,h.2.2.2.2.2.grow hg⟩
def LzX (u : World) (bs : List Nat) (A : Option Addr) (l : List Rat) : Prop:=Lz u A l ∧ (∀ b off,A = some ⟨b,off,none⟩ → b ∉ bs) ∧ 0 < l.length
theorem LzX.a {u : World} {bs : List Nat} {A : Option Addr} {l : List Rat} (h : LzX u bs A l) : Lz u A l:=h.1
theorem LzX.grow {u u' : World} {bs : List Nat} {A : Option Addr} {l : List Rat} (h : LzX u bs A l) (hg : A3 u u') : LzX u' bs A l:=⟨h.1.grow hg,h.2⟩
theorem Cz.far {u : World} {b i : Nat} {p : Az} {q : Rat} (h : Cz u b i p q) {a : Addr} (ha : b ≠ a.block) (v : Value) : Cz (u.setCell a v) b i p q:=by
 have key : ∀ j,(u.setCell a v).cell? ⟨b,j,none⟩ = u.cell? ⟨b,j,none⟩:=fun j=>World.cell?_of_block (Below.heap_setCell u a v b ha)
 exact ⟨(key _).trans h.1,(key _).trans h.2.1,(key _).trans h.2.2⟩
theorem LzX.put {u u' : World} {bs : List Nat} {A : Option Addr} {l : List Rat} (h : LzX u bs A l) {bl : List (Nat × TypeId × Array Value)} (hB : Bx u bl) (k : Nat) {b : Nat} {t : TypeId} {cs : Array Value} (hk : bl[k]? = some (b,t,cs)) (ht : b ∈ bs ∧ t ≠ 162) (i : Nat) (vs : List Value) (hu : E1 u b i vs = u') : LzX u' bs A l:=by
 refine ⟨fun hn=>?_,h.2⟩
 obtain ⟨ba,oa,e,hb,hc⟩:=h.1 hn
 have hne : ba ≠ b:=fun e'=>h.2.1 ba oa e (e' ▸ ht.1)
 have hsz : ∀ (vs : List Value) (i : Nat) (u : World),(E1 u b i vs).heap.size = u.heap.size:=by
  intro vs
  induction vs with
  | nil=>exact fun _ _=>rfl
  | cons v vs ih=>exact fun i u=>(ih (i + 1) (u.setCell ⟨b,i,none⟩ v)).trans (by simp [World.setCell])
 have hcz : ∀ (vs : List Value) (i : Nat) (u : World) (j : Nat) (p : Az) (q : Rat),Cz u ba j p q → Cz (E1 u b i vs) ba j p q:=by
  intro vs
  induction vs with
  | nil=>exact fun _ _ _ _ _ h=>h
  | cons v vs ih=>exact fun i u j p q h=>ih (i + 1) (u.setCell ⟨b,i,none⟩ v) j p q (h.far (a:=⟨b,i,none⟩) hne v)
 refine ⟨ba,oa,e,by rw [← hu,hsz];exact hb,fun j hj=>?_⟩
 obtain ⟨p,h1,h2⟩:=hc j hj
 exact ⟨p,h1.put hB k hk ht.2 i vs hu,by rw [← hu];exact hcz vs i u _ p _ h2⟩
theorem LzX.lt {u : World} {bs : List Nat} {A : Option Addr} {l : List Rat} (h : LzX u bs A l) : ∀ b off,A = some ⟨b,off,none⟩ → b < u.heap.size:=fun b off e=>by
 obtain ⟨b',off',e',hb,_⟩:=h.1 (fun h0=>by have := h.2.2;rw [h0] at this;cases this)
 rw [e] at e'
 cases e'
 exact hb
theorem LzX.more {v : World} {n b : Nat} {bs : List Nat} {A : Option Addr} {l : List Rat} (h : LzX v bs A l) (hlt : ∀ b off,A = some ⟨b,off,none⟩ → b < n) (hb : n ≤ b) : LzX v (b :: bs) A l :=
 ⟨h.1,fun b' off e hm=>by
  rcases List.mem_cons.1 hm with rfl | hm
  ·have := hlt b' off e;omega
  ·exact h.2.1 b' off e hm,h.2.2⟩
theorem LzX.addr {u : World} {bs : List Nat} {A : Option Addr} {l : List Rat} (h : LzX u bs A l) : ∃ b off,A = some ⟨b,off,none⟩:=h.1.addr h.2.2
theorem Li.at {u : World} {A : Option Addr} {l : List Int} {i : Nat} (h : Li u A l) (hi : i < l.length) : ∃ b off,A = some ⟨b,off,none⟩ ∧ ∀ W,A3 u W → W.cell? ⟨b,off + i,none⟩ = some (.int .i64 (gi l i)):=by
 obtain ⟨b,off,e,-⟩:=h.cell hi
 refine ⟨b,off,e,fun W hg=>?_⟩
 obtain ⟨b',o',e',hc⟩:=(h.grow hg).cell hi
 rw [e] at e'
 cases e'
 exact hc
theorem A8s : EI 22 3 1 8:=A1m (by kernel_rfl) (by kernel_rfl) (by omega)
end Go.Proofs.YtjmopgepnndckaaGreatDoor
namespace Go.Proofs.YtjmopgepnndckaaGreatDoor
open Go Go.RowKit
abbrev Zw:=Ax × List Zr
abbrev zwV (r : Zw) : Value:=.slice r.1.1 r.2.length r.1.2
def Q0 (B : Nat) (W : World) (rws : List Zw) : Prop:=(∀ r ∈ rws,I7 W r.2 ∧ W.ownsRow B 57 3 (zwV r) r.2.length (r.2.flatMap zrL)) ∧ rws.Pairwise (fun a b=>A1V (zwV a) (zwV b))
theorem Q0.nil (B : Nat) (W : World) : Q0 B W []:=⟨fun _ h=>(by cases h),List.Pairwise.nil⟩
theorem Q0.grow {B : Nat} {u u' : World} {rws : List Zw} (h : Q0 B u rws) (hg : A3 u u') : Q0 B u' rws:=⟨fun r hr=>⟨(h.1 r hr).1.grow hg,E5 (h.1 r hr).2 hg⟩,h.2⟩
theorem Q0.own {B0 : Nat} {u w' : World} {B : Nat} {e : TypeId} {size n : Nat} {v : Value} {xs : List Value} {o : Obj} {rws : List Zw} (hl : Q0 B0 u rws) (h : u.ownsRow B e size v n xs) (ht : e ≠ 162 ∧ e ≠ 57) (hg : (u.alloc o).grownBy w' v.ownBlock) : Q0 B0 w' rws:=⟨fun r hr=>⟨(hl.1 r hr).1.own h ht.1 hg,by
 have h2:=(hl.1 r hr).2
 refine (h2.alloc o).kept hg ?_
 cases hb : (zwV r).ownBlock with
 | none=>exact .inl rfl
 | some g=>exact .inr fun e1=>A1d h h2 ht.2 g e1.symm hb⟩,hl.2⟩
def A1x (B k : Nat) (q : List Rat) (x : Zw) (W : World) : Prop:=(x.2.map (·.2) = q ∧ x.2.length = k) ∧ I7 W x.2 ∧ W.ownsRow B 57 3 (zwV x) x.2.length (x.2.flatMap zrL)
theorem A1x.grow {B k : Nat} {q : List Rat} {x : Zw} {u u' : World} (hg : A3 u u') (h : A1x B k q x u) : A1x B k q x u':=⟨h.1,h.2.1.grow hg,E5 h.2.2 hg⟩
theorem Q0.snoc {B k : Nat} {q : List Rat} {u v : World} {rws : List Zw} {x : Zw} (h : Q0 B u rws) (hg : A3 u v) (hB : B ≤ u.heap.size) (h1 : A1x u.heap.size k q x v) : Q0 B v (rws ++ [x]):=by
 refine ⟨fun r hr=>?_,?_⟩
 ·rcases List.mem_append.1 hr with hr | hr
  ·exact (h.grow hg).1 r hr
  ·have : r = x:=by simpa using hr
   subst this
   exact ⟨h1.2.1,h1.2.2.mono hB⟩
 ·rw [List.pairwise_append]
  refine ⟨h.2,by simp,fun a ha b hb=>?_⟩
  have : b = x:=by simpa using hb
  subst this
  intro g e1 e2
  have h3:=((h.1 a ha).2.lt g e1).2
  have h4:=(h1.2.2.lt g e2).1
  omega
def Lrz (u : World) (A : Option Addr) (rs : List Rq) : Prop :=
 rs ≠ [] → ∃ b off,A = some ⟨b,off,none⟩ ∧ b < u.heap.size ∧ ∀ i r,rs[i]? = some r → u.cell? ⟨b,off + i,none⟩ = some (.slice r.1 r.2.2.length r.2.1) ∧ Lz u r.1 r.2.2
theorem Lrz.grow {u u' : World} {A : Option Addr} {rs : List Rq} (h : Lrz u A rs) (hg : A3 u u') : Lrz u' A rs:=fun hn=>by
 obtain ⟨b,off,e,hb,hc⟩:=h hn
 exact ⟨b,off,e,Nat.lt_of_lt_of_le hb hg.size,fun i r hi=>⟨(hg.cell (p:=⟨b,off + i,none⟩) hb).trans (hc i r hi).1,(hc i r hi).2.grow hg⟩⟩
theorem Lrz.addr {u : World} {A : Option Addr} {rs : List Rq} (h : Lrz u A rs) (hl : 0 < rs.length) : ∃ b off,A = some ⟨b,off,none⟩:=by
 obtain ⟨b,off,e,_⟩:=h (fun h0=>by rw [h0] at hl;cases hl)
 exact ⟨b,off,e⟩
theorem Lrz.read {u : World} {b off : Nat} {rs : List Rq} (h : Lrz u (some ⟨b,off,none⟩) rs) {i : Nat} {r : Rq} (hi : rs[i]? = some r) : u.cell? ⟨b,off + i,none⟩ = some (.slice r.1 r.2.2.length r.2.1) ∧ Lz u r.1 r.2.2:=by
 obtain ⟨b',off',e,_,hc⟩:=h (fun h0=>by rw [h0] at hi;simp at hi)
 cases e
 exact hc i r hi
abbrev S7 (r : Rq) : Value:=.slice r.1 r.2.2.length r.2.1
def F6 (B : Nat) (W : World) (rs : List Rq) : Prop:=∀ r ∈ rs,W.ownsRow B 49 5 (S7 r) r.2.2.length (r.2.2.flatMap qL)
theorem F6.nil (B : Nat) (W : World) : F6 B W []:=fun _ h=>by cases h
theorem F6.grow {B : Nat} {u u' : World} {rs : List Rq} (h : F6 B u rs) (hg : A3 u u') : F6 B u' rs:=fun r hr=>E5 (h r hr) hg
theorem F6.own {B0 : Nat} {u w' : World} {B : Nat} {e : TypeId} {size n : Nat} {v : Value} {xs : List Value} {o : Obj} {rs : List Rq} (hl : F6 B0 u rs) (h : u.ownsRow B e size v n xs) (ht : e ≠ 49) (hg : (u.alloc o).grownBy w' v.ownBlock) : F6 B0 w' rs:=fun r hr=>by
 have h2:=hl r hr
 refine (h2.alloc o).kept hg ?_
 cases hb : (S7 r).ownBlock with
 | none=>exact .inl rfl
 | some g=>exact .inr fun e1=>A1d h h2 ht g e1.symm hb
def A0H (B k : Nat) (q : List Rat) (x : Ax) (W : World) : Prop:=q.length = k ∧ W.ownsRow B 49 5 (.slice x.1 k x.2) k (q.flatMap qL)
theorem A0H.grow {B k : Nat} {q : List Rat} {x : Ax} {u u' : World} (hg : A3 u u') (h : A0H B k q x u) : A0H B k q x u':=⟨h.1,E5 h.2 hg⟩
theorem F6.snoc {B k : Nat} {q : List Rat} {v : World} {rs : List Rq} {x : Ax} (h : F6 B v rs) (h1 : A0H B k q x v) : F6 B v (rs ++ [(x.1,x.2,q)]):=fun r hr=>by
 rcases List.mem_append.1 hr with hr | hr
 ·exact h r hr
 ·have : r = (x.1,x.2,q):=by simpa using hr
  subst this
  have h2:=h1.2
  rw [← h1.1] at h2
  exact h2
theorem A7r : EI 33 35 1 24:=A1m (by kernel_rfl) (by kernel_rfl) (by omega)
theorem A5i {u : World} {B n : Nat} {v : Value} {rs : List Rq} (h : u.ownsRow B 35 1 v n (rs.map S7)) (hr : F6 B u rs) : ∃ A c,v = .slice A n c ∧ n ≤ c ∧ Lrq u A rs ∧ n = rs.length:=by
 have hn : n = rs.length:=by have := h.1;simp at this;omega
 subst hn
 obtain ⟨_,h | ⟨g,cap,cur,rfl,hb,hh,hn,hc,hs,ht⟩⟩:=h
 ·obtain ⟨rfl,h0⟩:=h
  exact ⟨none,0,by rw [h0],by omega,fun hne=>absurd (List.eq_nil_of_length_eq_zero h0) hne,rfl⟩
 ·refine ⟨_,cap,rfl,hn,fun _=>⟨g,0,rfl,M9 hh,fun i r hi=>⟨?_,?_⟩⟩,rfl⟩
  ·rw [Nat.zero_add,cell_of_row u g i cur 35 (0,0) hh]
   have hil : i < rs.length:=(List.getElem?_eq_some_iff.1 hi).1
   have h1 : (cur.toList.take (rs.length * 1))[i]? = some (S7 r):=by rw [ht,List.getElem?_map,hi];rfl
   rw [List.getElem?_take,if_pos (by omega)] at h1
   simpa using h1
  ·obtain ⟨A,c,e1,_,_,hL,_⟩:=A5j (hr r (List.mem_of_getElem? hi))
   cases e1
   exact hL
theorem Q0.idx {B : Nat} {W : World} {rws : List Zw} (h : Q0 B W rws) : ∀ (i : Nat) (r : Zw),rws[i]? = some r → I7 W r.2 ∧ W.ownsRow B 57 3 (zwV r) r.2.length (r.2.flatMap zrL):=fun _ r hi=>h.1 r (List.mem_of_getElem? hi)
end Go.Proofs.YtjmopgepnndckaaGreatDoor
namespace Go.Proofs.YtjmopgepnndckaaGreatDoor
open Go.ChangeShapes Go.WideShapes Go.ChangeAt Go.RowKit
end Go.Proofs.YtjmopgepnndckaaGreatDoor
