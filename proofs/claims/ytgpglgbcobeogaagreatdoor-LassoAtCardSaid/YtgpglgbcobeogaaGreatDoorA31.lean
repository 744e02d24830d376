/- Contracts and laws. -/
import Derived.Test.YtgpglgbcobeogaaGreatDoorA30
import Derived.Deep.Onto
set_option linter.unusedSimpArgs false
set_option linter.unusedVariables false
namespace Go.Proofs.YtgpglgbcobeogaaGreatDoor
open Go.RowKit
abbrev A7v (p : Az) (q : Rat) : Array Value:=#[.bool (E4 q.num),.slice p.1.1 (ln q.num.natAbs) p.1.2,.slice p.2.1 (ln q.den) p.2.2]
end Go.Proofs.YtgpglgbcobeogaaGreatDoor
namespace Go.Proofs.YtgpglgbcobeogaaGreatDoor
open Go Go.RowKit
def A2a {V : Type} : List V → Nat → List V → List V
 | xs,_,[]=>xs
 | xs,i,v :: vs=>A2a (xs.set i v) (i + 1) vs
theorem A53 {V : Type} : ∀ (vs ys fa fb : List V),ys.length = vs.length → A2a (fa ++ (ys ++ fb)) fa.length vs = fa ++ (vs ++ fb)
 | [],ys,fa,fb,h=>by
  obtain rfl : ys = []:=List.length_eq_zero_iff.1 h
  rfl
 | v :: vs,[],fa,fb,h=>by cases h
 | v :: vs,y :: ys,fa,fb,h=>by
  show A2a ((fa ++ (y :: ys ++ fb)).set fa.length v) (fa.length + 1) vs = _
  have e : (fa ++ (y :: ys ++ fb)).set fa.length v = (fa ++ [v]) ++ (ys ++ fb):=by
   simp [List.set_append_right]
  rw [e,show fa.length + 1 = (fa ++ [v]).length by simp,A53 vs ys _ fb (by simpa using h)]
  simp
theorem A2t {V α : Type} {enc : α → List V} {size : Nat} (he : ∀ x,(enc x).length = size) : ∀ ps : List α,(ps.flatMap enc).length = ps.length * size
 | []=>by simp
 | p :: ps=>by rw [List.flatMap_cons,List.length_append,A2t he ps,he,List.length_cons,Nat.add_mul];omega
theorem B27 {V α : Type} {enc : α → List V} {size : Nat} (he : ∀ x,(enc x).length = size) (ps : List α) (k : Nat) (z : α) (hk : k < ps.length) : A2a (ps.flatMap enc) (k * size) (enc z) = (ps.set k z).flatMap enc:=by
 have e : ps = ps.take k ++ (ps[k] :: ps.drop (k + 1)):=by rw [← List.drop_eq_getElem_cons hk,List.take_append_drop]
 have e2 : ps.set k z = ps.take k ++ (z :: ps.drop (k + 1)):=by
  rw [List.set_eq_take_append_cons_drop,if_pos hk]
 rw [e2]
 conv=>lhs;rw [e]
 rw [List.flatMap_append,List.flatMap_cons,List.flatMap_append,List.flatMap_cons]
 have hl : ((ps.take k).flatMap enc).length = k * size:=by rw [A2t he,List.length_take,Nat.min_eq_left (by omega)]
 have := A53 (enc z) (enc ps[k]) ((ps.take k).flatMap enc) ((ps.drop (k + 1)).flatMap enc) (by rw [he,he])
 rw [hl] at this
 exact this
theorem A7s {V α : Type} {enc : α → List V} {size : Nat} (he : ∀ x,(enc x).length = size) (ps : List α) (k j : Nat) (hk : k < ps.length) (hj : j < size) : (ps.flatMap enc)[k * size + j]? = (enc ps[k])[j]?:=by
 have e : ps = ps.take k ++ (ps[k] :: ps.drop (k + 1)):=by rw [← List.drop_eq_getElem_cons hk,List.take_append_drop]
 have hl : ((ps.take k).flatMap enc).length = k * size:=by rw [A2t he,List.length_take,Nat.min_eq_left (by omega)]
 conv=>lhs;rw [e]
 rw [List.flatMap_append,List.flatMap_cons,List.getElem?_append_right (by omega),hl,Nat.add_sub_cancel_left,List.getElem?_append_left (by rw [he];exact hj)]
theorem A2U {u u1 u2 : World} {r : Option Nat} (h : u.grownBy u1 r) (h' : u1.grownBy u2 r) : u.grownBy u2 r:=by
 obtain ⟨a1,a2,a3,a4,a5⟩:=h
 obtain ⟨b1,b2,b3,b4,b5⟩:=h'
 exact ⟨b1.trans a1,b2.trans a2,b3.trans a3,Nat.le_trans a4 b4,fun k hk hr=>(b5 k (Nat.lt_of_lt_of_le hk a4) hr).trans (a5 k hk hr)⟩
theorem A6G {B : Nat} {e : TypeId} {size g cap n : Nat} : ∀ (vs : List Value) (i : Nat) (u : World) (xs : List Value),u.ownsRow B e size (.slice (some ⟨g,0,none⟩) n cap) n xs →
  (D5 u g i vs).ownsRow B e size (.slice (some ⟨g,0,none⟩) n cap) n (A2a xs i vs) ∧ u.grownBy (D5 u g i vs) (some g)
 | [],i,u,xs,h=>⟨h,⟨rfl,rfl,rfl,Nat.le_refl _,fun _ _ _=>rfl⟩⟩
 | v :: vs,i,u,xs,h=>by
  obtain ⟨h1,h2⟩:=h.stored i v
  obtain ⟨h3,h4⟩:=A6G vs (i + 1) _ _ h1
  exact ⟨h3,A2U h2 h4⟩
theorem P6 {α : Type} {enc : α → List Value} {B : Nat} {e : TypeId} {size g cap n : Nat} (he : ∀ x,(enc x).length = size) {u : World} {ps : List α} (h : u.ownsRow B e size (.slice (some ⟨g,0,none⟩) n cap) n (ps.flatMap enc)) (k : Nat) (z : α) (hk : k < ps.length) :
  (D5 u g (k * size) (enc z)).ownsRow B e size (.slice (some ⟨g,0,none⟩) n cap) n ((ps.set k z).flatMap enc) ∧ u.grownBy (D5 u g (k * size) (enc z)) (some g):=by
 have := A6G (enc z) (k * size) u _ h
 rw [B27 he ps k z hk] at this
 exact this
theorem Y9 {α : Type} {enc : α → List Value} {B : Nat} {e : TypeId} {size g cap n : Nat} (he : ∀ x,(enc x).length = size) {u : World} {ps : List α} (h : u.ownsRow B e size (.slice (some ⟨g,0,none⟩) n cap) n (ps.flatMap enc)) (hn : n = ps.length) (k j : Nat) (hk : k < ps.length) (hj : j < size) :
  u.cell? ⟨g,k * size + j,none⟩ = (enc ps[k])[j]?:=by
 have hlt : k * size + j < n * size:=by
  have : k * size + size ≤ ps.length * size:=by rw [← Nat.succ_mul];exact Nat.mul_le_mul_right _ hk
  rw [hn];omega
 rw [h.cellAt (k * size + j) hlt,A7s he ps k j hk hj]
def P8 (v v2 : Value) : Prop:=∀ g,v.ownBlock = some g → v2.ownBlock = some g → False
theorem P8.symm {v v2 : Value} (h : P8 v v2) : P8 v2 v:=fun g h1 h2=>h g h2 h1
theorem A0L {u : World} {B : Nat} {e : TypeId} {size n : Nat} {v : Value} {xs : List Value} (h : u.ownsRow B e size v n xs) (h0 : 0 < n) : ∃ g cap,v = .slice (some ⟨g,0,none⟩) n cap ∧ B ≤ g ∧ n ≤ cap:=by
 obtain ⟨_,h | ⟨g,cap,cur,rfl,hb',hh,hn,hc',hs,ht2⟩⟩:=h
 ·omega
 ·exact ⟨g,cap,rfl,hb',hn⟩
theorem N2 {u : World} {B B' : Nat} {e e' : TypeId} {s s' : Nat} {v v' : Value} {n n' : Nat} {xs xs' : List Value} (h : u.ownsRow B e s v n xs) (h' : u.ownsRow B' e' s' v' n' xs') (hne : e ≠ e') : P8 v v':=fun g h1 h2=>by
 obtain ⟨_,h | ⟨g1,cap,cur,rfl,hb,hh,hn,hc,hs,ht⟩⟩:=h
 ·rw [h.1] at h1;cases h1
 ·obtain ⟨_,h' | ⟨g2,cap',cur',rfl,hb',hh',hn',hc',hs',ht'⟩⟩:=h'
  ·rw [h'.1] at h2;cases h2
  ·have e1 : g = g1:=Option.some.inj h1.symm
   have e2 : g = g2:=Option.some.inj h2.symm
   rw [← e1] at hh
   rw [← e2,hh] at hh'
   injection hh' with hh'
   injection hh' with _ h3 _
   exact hne h3
theorem O9 {w u u' : World} {e : TypeId} {size n : Nat} {v : Value} {xs : List Value} (h : u.ownsRow w.heap.size e size v n xs) (hG : A4 w u) (hg : u.grownBy u' v.ownBlock) : A4 w u':=hG.grown hg fun k hk=>(h.lt k hk).1
theorem B03 {ops : Array Oper} {a : Act} {u : World} {K : Act → World → Prop} {d2 : Option Nat} {s z : Operand} {t2 : TypeId} {p2 : String} {f2 : Array Edge} {rest : List Oper} {T e : TypeId} {size bytes : Nat} (hE : EI T e size bytes)
  (B : Nat) (v : Value) (n : Nat) (xs : List Value) (b : Nat) (ys : List Value) (hy : ys.length = size) (h1 : (ys.all fun y=>y.oneCell') = true) (hblk : Blk u b e ys.toArray)
  (hs : a.eval s = v) (hz : a.eval z = .slice (some ⟨b,0,none⟩) 1 1)
  (hown : u.ownsRow B e size v n xs) (hl : n + 1 ≤ 1099511627776) (hl2 : (n + 1) * bytes ≤ 140737488355328) (hB : B ≤ u.heap.size)
  (h : ∀ v' w',w'.ownsRow B e size v' (n + 1) (xs ++ ys) → u.grownBy w' v.ownBlock → (v'.ownBlock = v.ownBlock ∨ v'.ownBlock = some u.heap.size) → wpList Tryz.prog ops (NoK K) rest (a.put d2 v') w') :
  wpList Tryz.prog ops (NoK K) (⟨d2,.call { callee:=.builtin .append,args:=#[s,z],argTypes:=#[T,T] },t2,p2,f2,none⟩ :: rest) a u:=by
 obtain ⟨hund,⟨i0,z0,hi0,hz0,hz1,hz2,hz3⟩,hpos⟩:=hE
 refine wpList_append_own_at u (a:=a) (Q:=NoK K) rfl s z T rfl B e i0 z0 size bytes hund hi0 hz0 hz1 hz2 hz3 hpos v n xs hs hown ⟨b,0,none⟩ 1 1 ys hz (by rw [hy];omega) ?_ (fun y hy=>List.all_eq_true.1 h1 y hy) (by unfold maxLen;omega) hl2 hB fun v' w' g1 g2 _ g4=>h v' w' g1 g2 g4
 intro j y hj
 rw [Go.WideShapes.add_plain,Nat.zero_add,Blk.cell hblk j,List.getElem?_toArray]
 exact hj
end Go.Proofs.YtgpglgbcobeogaaGreatDoor
namespace Go.Proofs.YtgpglgbcobeogaaGreatDoor
open Go.RowKit
abbrev Q6 (q : Rat) : Array Value:=#[.bool (E4 q.num),.int .u64 (B7 q.num.natAbs),.string (B5 q.num.natAbs),.int .u64 (B7 (J6 q.den)),.string (B5 (J6 q.den))]
def A2W (b2 b8 : Nat) (A : Option Addr) (m c : Nat) (l : List Rat) (q : Rat) (W : World) : Prop :=
 Blk W b2 35 #[.slice A m c] ∧ Blk W b8 48 (Q6 q) ∧ Lq W A l
theorem A2W.mk {b2 b8 : Nat} {A : Option Addr} {m c : Nat} {l : List Rat} {q : Rat} {u : World} (h1 : Blk u b2 35 #[.slice A m c]) (h2 : Blk u b8 48 (Q6 q)) (h3 : Lq u A l) : A2W b2 b8 A m c l q u:=⟨h1,h2,h3⟩
theorem A2W.grow {b2 b8 : Nat} {A : Option Addr} {m c : Nat} {l : List Rat} {q : Rat} {u u' : World} (hg : A4 u u') (h : A2W b2 b8 A m c l q u) : A2W b2 b8 A m c l q u':=⟨h.1.grow hg,h.2.1.grow hg,h.2.2.grow hg⟩
def A2i (b3 b4 b5 b8 : Nat) (A B : Option Addr) (m c d : Nat) (l l' : List Rat) (a : Rat) (W : World) : Prop :=
 Blk W b3 35 #[.slice A m c] ∧ Blk W b4 35 #[.slice B m d] ∧ Blk W b5 48 (Q6 a) ∧ Blk W b8 48 (Q6 (C5 1)) ∧ Lq W A l ∧ Lq W B l'
theorem A2i.mk {b3 b4 b5 b8 : Nat} {A B : Option Addr} {m c d : Nat} {l l' : List Rat} {a : Rat} {u : World} (h1 : Blk u b3 35 #[.slice A m c]) (h2 : Blk u b4 35 #[.slice B m d]) (h3 : Blk u b5 48 (Q6 a)) (h4 : Blk u b8 48 (Q6 (C5 1))) (h5 : Lq u A l) (h6 : Lq u B l') : A2i b3 b4 b5 b8 A B m c d l l' a u:=⟨h1,h2,h3,h4,h5,h6⟩
theorem A2i.grow {b3 b4 b5 b8 : Nat} {A B : Option Addr} {m c d : Nat} {l l' : List Rat} {a : Rat} {u u' : World} (hg : A4 u u') (h : A2i b3 b4 b5 b8 A B m c d l l' a u) : A2i b3 b4 b5 b8 A B m c d l l' a u' :=
 ⟨h.1.grow hg,h.2.1.grow hg,h.2.2.1.grow hg,h.2.2.2.1.grow hg,h.2.2.2.2.1.grow hg,h.2.2.2.2.2.grow hg⟩
def LzX (u : World) (bs : List Nat) (A : Option Addr) (l : List Rat) : Prop:=Lz u A l ∧ (∀ b off,A = some ⟨b,off,none⟩ → b ∉ bs) ∧ 0 < l.length
theorem LzX.a {u : World} {bs : List Nat} {A : Option Addr} {l : List Rat} (h : LzX u bs A l) : Lz u A l:=h.1
theorem LzX.grow {u u' : World} {bs : List Nat} {A : Option Addr} {l : List Rat} (h : LzX u bs A l) (hg : A4 u u') : LzX u' bs A l:=⟨h.1.grow hg,h.2⟩
theorem Cz.far {u : World} {b i : Nat} {p : Az} {q : Rat} (h : Cz u b i p q) {a : Addr} (ha : b ≠ a.block) (v : Value) : Cz (u.setCell a v) b i p q:=by
 have key : ∀ j,(u.setCell a v).cell? ⟨b,j,none⟩ = u.cell? ⟨b,j,none⟩:=fun j=>World.cell?_of_block (Below.heap_setCell u a v b ha)
 exact ⟨(key _).trans h.1,(key _).trans h.2.1,(key _).trans h.2.2⟩
theorem LzX.put {u u' : World} {bs : List Nat} {A : Option Addr} {l : List Rat} (h : LzX u bs A l) {bl : List (Nat × TypeId × Array Value)} (hB : Bx u bl) (k : Nat) {b : Nat} {t : TypeId} {cs : Array Value} (hk : bl[k]? = some (b,t,cs)) (ht : b ∈ bs ∧ t ≠ 193) (i : Nat) (vs : List Value) (hu : D5 u b i vs = u') : LzX u' bs A l:=by
 refine ⟨fun hn=>?_,h.2⟩
 obtain ⟨ba,oa,e,hb,hc⟩:=h.1 hn
 have hne : ba ≠ b:=fun e'=>h.2.1 ba oa e (e' ▸ ht.1)
 have hsz : ∀ (vs : List Value) (i : Nat) (u : World),(D5 u b i vs).heap.size = u.heap.size:=by
  intro vs
  induction vs with
  | nil=>exact fun _ _=>rfl
  | cons v vs ih=>exact fun i u=>(ih (i + 1) (u.setCell ⟨b,i,none⟩ v)).trans (by simp [World.setCell])
 have hcz : ∀ (vs : List Value) (i : Nat) (u : World) (j : Nat) (p : Az) (q : Rat),Cz u ba j p q → Cz (D5 u b i vs) ba j p q:=by
  intro vs
  induction vs with
  | nil=>exact fun _ _ _ _ _ h=>h
  | cons v vs ih=>exact fun i u j p q h=>ih (i + 1) (u.setCell ⟨b,i,none⟩ v) j p q (h.far (a:=⟨b,i,none⟩) hne v)
 refine ⟨ba,oa,e,by rw [← hu,hsz];exact hb,fun j hj=>?_⟩
 obtain ⟨p,h1,h2⟩:=hc j hj
 exact ⟨p,h1.put hB k hk ht.2 i vs hu,by rw [← hu];exact hcz vs i u _ p _ h2⟩
theorem LzX.lt {u : World} {bs : List Nat} {A : Option Addr} {l : List Rat} (h : LzX u bs A l) : ∀ b off,A = some ⟨b,off,none⟩ → b < u.heap.size:=fun b off e=>by
 obtain ⟨b',off',e',hb,_⟩:=h.1 (fun h0=>by have := h.2.2;rw [h0] at this;cases this)
 rw [e] at e'
 cases e'
 exact hb
theorem LzX.more {v : World} {n b : Nat} {bs : List Nat} {A : Option Addr} {l : List Rat} (h : LzX v bs A l) (hlt : ∀ b off,A = some ⟨b,off,none⟩ → b < n) (hb : n ≤ b) : LzX v (b :: bs) A l :=
 ⟨h.1,fun b' off e hm=>by
  rcases List.mem_cons.1 hm with rfl | hm
  ·have := hlt b' off e;omega
  ·exact h.2.1 b' off e hm,h.2.2⟩
theorem LzX.addr {u : World} {bs : List Nat} {A : Option Addr} {l : List Rat} (h : LzX u bs A l) : ∃ b off,A = some ⟨b,off,none⟩:=h.1.addr h.2.2
theorem Li.at {u : World} {A : Option Addr} {l : List Int} {i : Nat} (h : Li u A l) (hi : i < l.length) : ∃ b off,A = some ⟨b,off,none⟩ ∧ ∀ W,A4 u W → W.cell? ⟨b,off + i,none⟩ = some (.int .i64 (gi l i)):=by
 obtain ⟨b,off,e,-⟩:=h.cell hi
 refine ⟨b,off,e,fun W hg=>?_⟩
 obtain ⟨b',o',e',hc⟩:=(h.grow hg).cell hi
 rw [e] at e'
 cases e'
 exact hc
abbrev W6 (l : List Int) : List Value:=l.map fun x=>Value.int .i64 x
theorem A7x (y : Int) (w : World) : (Instr.buildSlice 22 1 #[(0,.int .i64 y)]).run Tryz.prog w = .ok (.slice (some ⟨w.heap.size,0,none⟩) 1 1) (w.alloc (.cells #[.int .i64 y] 3)):=by
 go_simp
theorem A6s : EI 22 3 1 8:=A0l (by kernel_rfl) (by kernel_rfl) (by omega)
theorem A3X {u : World} {B n : Nat} {v : Value} {l : List Int} (h : u.ownsRow B 3 1 v n (W6 l)) (hn : n = l.length) : ∃ A c,v = .slice A n c ∧ n ≤ c ∧ Li u A l:=by
 subst hn
 obtain ⟨_,h | ⟨g,cap,cur,rfl,hb,hh,hn,hc,hs,ht⟩⟩:=h
 ·obtain ⟨rfl,h0⟩:=h
  exact ⟨none,0,by rw [h0],by omega,fun hne=>absurd (List.eq_nil_of_length_eq_zero h0) hne⟩
 ·refine ⟨_,cap,rfl,hn,fun _=>⟨g,0,rfl,Q3 hh,fun i x hi=>?_⟩⟩
  rw [Nat.zero_add,cell_of_row u g i cur 3 (0,0) hh]
  have hil : i < l.length:=(List.getElem?_eq_some_iff.1 hi).1
  have h1 : (cur.toList.take (l.length * 1))[i]? = some (.int .i64 x):=by rw [ht,List.getElem?_map,hi];rfl
  rw [List.getElem?_take,if_pos (by omega)] at h1
  simpa using h1
end Go.Proofs.YtgpglgbcobeogaaGreatDoor
namespace Go.Proofs.YtgpglgbcobeogaaGreatDoor
open Go Go.RowKit
theorem B2d (A : Option Addr) (l : List Int) (c p m : Nat) (hp : p = l.length) (hc : p ≤ c) (hm : m ≤ p) (w : World) (h : Li w A l) : ∃ A' : Option Addr,(∀ W,(Instr.slice 22 (.slice A p c) (some (.int .i64 (m : Nat))) none none).run Tryz.prog W = .ok (.slice A' (p - m) (c - m)) W) ∧ Li w A' (l.drop m):=by
 refine ⟨if c = m then A else A.map (·.add m),fun W=>?_,fun hne=>?_⟩
 ·have h3 : (m : Int) ≤ (p : Int):=by omega
  have h4 : ¬ p < m:=by omega
  clear hp h
  go_simp
 ·have hlt : m < l.length:=by
   refine Decidable.byContradiction fun hh=>hne ?_
   exact List.drop_eq_nil_of_le (by omega)
  obtain ⟨b,off,rfl,hb,hx⟩:=h (fun e=>by rw [e] at hlt;cases hlt)
  rw [if_neg (by omega)]
  refine ⟨b,off + m,by simp [Addr.add],hb,fun i x hi=>?_⟩
  rw [List.getElem?_drop] at hi
  rw [Nat.add_assoc]
  exact hx (m + i) x hi
abbrev Zw:=Ax × List Zr
abbrev zwV (r : Zw) : Value:=.slice r.1.1 r.2.length r.1.2
def T9 (B : Nat) (W : World) (rws : List Zw) : Prop:=(∀ r ∈ rws,I8 W r.2 ∧ W.ownsRow B 33 3 (zwV r) r.2.length (r.2.flatMap zrL)) ∧ rws.Pairwise (fun a b=>P8 (zwV a) (zwV b))
theorem T9.nil (B : Nat) (W : World) : T9 B W []:=⟨fun _ h=>(by cases h),List.Pairwise.nil⟩
theorem T9.grow {B : Nat} {u u' : World} {rws : List Zw} (h : T9 B u rws) (hg : A4 u u') : T9 B u' rws:=⟨fun r hr=>⟨(h.1 r hr).1.grow hg,C9 (h.1 r hr).2 hg⟩,h.2⟩
theorem T9.own {B0 : Nat} {u w' : World} {B : Nat} {e : TypeId} {size n : Nat} {v : Value} {xs : List Value} {o : Obj} {rws : List Zw} (hl : T9 B0 u rws) (h : u.ownsRow B e size v n xs) (ht : e ≠ 193 ∧ e ≠ 33) (hg : (u.alloc o).grownBy w' v.ownBlock) : T9 B0 w' rws:=⟨fun r hr=>⟨(hl.1 r hr).1.own h ht.1 hg,by
 have h2:=(hl.1 r hr).2
 refine (h2.alloc o).kept hg ?_
 cases hb : (zwV r).ownBlock with
 | none=>exact .inl rfl
 | some g=>exact .inr fun e1=>N2 h h2 ht.2 g e1.symm hb⟩,hl.2⟩
def A3U (B k : Nat) (q : List Rat) (x : Zw) (W : World) : Prop:=(x.2.map (·.2) = q ∧ x.2.length = k) ∧ I8 W x.2 ∧ W.ownsRow B 33 3 (zwV x) x.2.length (x.2.flatMap zrL)
theorem A3U.grow {B k : Nat} {q : List Rat} {x : Zw} {u u' : World} (hg : A4 u u') (h : A3U B k q x u) : A3U B k q x u':=⟨h.1,h.2.1.grow hg,C9 h.2.2 hg⟩
theorem T9.snoc {B k : Nat} {q : List Rat} {u v : World} {rws : List Zw} {x : Zw} (h : T9 B u rws) (hg : A4 u v) (hB : B ≤ u.heap.size) (h1 : A3U u.heap.size k q x v) : T9 B v (rws ++ [x]):=by
 refine ⟨fun r hr=>?_,?_⟩
 ·rcases List.mem_append.1 hr with hr | hr
  ·exact (h.grow hg).1 r hr
  ·have : r = x:=by simpa using hr
   subst this
   exact ⟨h1.2.1,h1.2.2.mono hB⟩
 ·rw [List.pairwise_append]
  refine ⟨h.2,by simp,fun a ha b hb=>?_⟩
  have : b = x:=by simpa using hb
  subst this
  intro g e1 e2
  have h3:=((h.1 a ha).2.lt g e1).2
  have h4:=(h1.2.2.lt g e2).1
  omega
def Lrz (u : World) (A : Option Addr) (rs : List Rq) : Prop :=
 rs ≠ [] → ∃ b off,A = some ⟨b,off,none⟩ ∧ b < u.heap.size ∧ ∀ i r,rs[i]? = some r → u.cell? ⟨b,off + i,none⟩ = some (.slice r.1 r.2.2.length r.2.1) ∧ Lz u r.1 r.2.2
theorem Lrz.grow {u u' : World} {A : Option Addr} {rs : List Rq} (h : Lrz u A rs) (hg : A4 u u') : Lrz u' A rs:=fun hn=>by
 obtain ⟨b,off,e,hb,hc⟩:=h hn
 exact ⟨b,off,e,Nat.lt_of_lt_of_le hb hg.size,fun i r hi=>⟨(hg.cell (p:=⟨b,off + i,none⟩) hb).trans (hc i r hi).1,(hc i r hi).2.grow hg⟩⟩
theorem Lrz.addr {u : World} {A : Option Addr} {rs : List Rq} (h : Lrz u A rs) (hl : 0 < rs.length) : ∃ b off,A = some ⟨b,off,none⟩:=by
 obtain ⟨b,off,e,_⟩:=h (fun h0=>by rw [h0] at hl;cases hl)
 exact ⟨b,off,e⟩
theorem Lrz.read {u : World} {b off : Nat} {rs : List Rq} (h : Lrz u (some ⟨b,off,none⟩) rs) {i : Nat} {r : Rq} (hi : rs[i]? = some r) : u.cell? ⟨b,off + i,none⟩ = some (.slice r.1 r.2.2.length r.2.1) ∧ Lz u r.1 r.2.2:=by
 obtain ⟨b',off',e,_,hc⟩:=h (fun h0=>by rw [h0] at hi;simp at hi)
 cases e
 exact hc i r hi
abbrev A6a (r : Rq) : Value:=.slice r.1 r.2.2.length r.2.1
def A0B (B : Nat) (W : World) (rs : List Rq) : Prop:=∀ r ∈ rs,W.ownsRow B 48 5 (A6a r) r.2.2.length (r.2.2.flatMap qL)
theorem A0B.nil (B : Nat) (W : World) : A0B B W []:=fun _ h=>by cases h
theorem A0B.grow {B : Nat} {u u' : World} {rs : List Rq} (h : A0B B u rs) (hg : A4 u u') : A0B B u' rs:=fun r hr=>C9 (h r hr) hg
theorem A0B.own {B0 : Nat} {u w' : World} {B : Nat} {e : TypeId} {size n : Nat} {v : Value} {xs : List Value} {o : Obj} {rs : List Rq} (hl : A0B B0 u rs) (h : u.ownsRow B e size v n xs) (ht : e ≠ 48) (hg : (u.alloc o).grownBy w' v.ownBlock) : A0B B0 w' rs:=fun r hr=>by
 have h2:=hl r hr
 refine (h2.alloc o).kept hg ?_
 cases hb : (A6a r).ownBlock with
 | none=>exact .inl rfl
 | some g=>exact .inr fun e1=>N2 h h2 ht g e1.symm hb
def A3H (B k : Nat) (q : List Rat) (x : Ax) (W : World) : Prop:=q.length = k ∧ W.ownsRow B 48 5 (.slice x.1 k x.2) k (q.flatMap qL)
theorem A3H.grow {B k : Nat} {q : List Rat} {x : Ax} {u u' : World} (hg : A4 u u') (h : A3H B k q x u) : A3H B k q x u':=⟨h.1,C9 h.2 hg⟩
theorem A0B.snoc {B k : Nat} {q : List Rat} {v : World} {rs : List Rq} {x : Ax} (h : A0B B v rs) (h1 : A3H B k q x v) : A0B B v (rs ++ [(x.1,x.2,q)]):=fun r hr=>by
 rcases List.mem_append.1 hr with hr | hr
 ·exact h r hr
 ·have : r = (x.1,x.2,q):=by simpa using hr
  subst this
  have h2:=h1.2
  rw [← h1.1] at h2
  exact h2
theorem T9.idx {B : Nat} {W : World} {rws : List Zw} (h : T9 B W rws) : ∀ (i : Nat) (r : Zw),rws[i]? = some r → I8 W r.2 ∧ W.ownsRow B 33 3 (zwV r) r.2.length (r.2.flatMap zrL):=fun _ r hi=>h.1 r (List.mem_of_getElem? hi)
end Go.Proofs.YtgpglgbcobeogaaGreatDoor
