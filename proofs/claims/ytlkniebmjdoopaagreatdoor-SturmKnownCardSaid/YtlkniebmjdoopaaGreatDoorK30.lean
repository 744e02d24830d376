/- Contracts and laws. -/
import Derived.Test.YtlkniebmjdoopaaGreatDoorK29
import Derived.Deep.Onto
import Derived.Laws.CopyRow
import Derived.Deep.AppendLies
set_option linter.unusedSimpArgs false
set_option linter.unusedVariables false
namespace Go.Proofs.YtlkniebmjdoopaaGreatDoor
open Go Go.RowKit
def A2g {V : Type} : List V → Nat → List V → List V
 | xs,_,[]=>xs
 | xs,i,v :: vs=>A2g (xs.set i v) (i + 1) vs
theorem A8n {V : Type} : ∀ (vs ys fa fb : List V),ys.length = vs.length → A2g (fa ++ (ys ++ fb)) fa.length vs = fa ++ (vs ++ fb)
 | [],ys,fa,fb,h=>by
  obtain rfl : ys = []:=List.length_eq_zero_iff.1 h
  rfl
 | v :: vs,[],fa,fb,h=>by cases h
 | v :: vs,y :: ys,fa,fb,h=>by
  show A2g ((fa ++ (y :: ys ++ fb)).set fa.length v) (fa.length + 1) vs = _
  have e : (fa ++ (y :: ys ++ fb)).set fa.length v = (fa ++ [v]) ++ (ys ++ fb):=by
   simp [List.set_append_right]
  rw [e,show fa.length + 1 = (fa ++ [v]).length by simp,A8n vs ys _ fb (by simpa using h)]
  simp
theorem A3C {V α : Type} {enc : α → List V} {size : Nat} (he : ∀ x,(enc x).length = size) : ∀ ps : List α,(ps.flatMap enc).length = ps.length * size
 | []=>by simp
 | p :: ps=>by rw [List.flatMap_cons,List.length_append,A3C he ps,he,List.length_cons,Nat.add_mul];omega
theorem B1R {V α : Type} {enc : α → List V} {size : Nat} (he : ∀ x,(enc x).length = size) (ps : List α) (k : Nat) (z : α) (hk : k < ps.length) : A2g (ps.flatMap enc) (k * size) (enc z) = (ps.set k z).flatMap enc:=by
 have e : ps = ps.take k ++ (ps[k] :: ps.drop (k + 1)):=by rw [← List.drop_eq_getElem_cons hk,List.take_append_drop]
 have e2 : ps.set k z = ps.take k ++ (z :: ps.drop (k + 1)):=by
  rw [List.set_eq_take_append_cons_drop,if_pos hk]
 rw [e2]
 conv=>lhs;rw [e]
 rw [List.flatMap_append,List.flatMap_cons,List.flatMap_append,List.flatMap_cons]
 have hl : ((ps.take k).flatMap enc).length = k * size:=by rw [A3C he,List.length_take,Nat.min_eq_left (by omega)]
 have := A8n (enc z) (enc ps[k]) ((ps.take k).flatMap enc) ((ps.drop (k + 1)).flatMap enc) (by rw [he,he])
 rw [hl] at this
 exact this
theorem A7Q {V α : Type} {enc : α → List V} {size : Nat} (he : ∀ x,(enc x).length = size) (ps : List α) (k j : Nat) (hk : k < ps.length) (hj : j < size) : (ps.flatMap enc)[k * size + j]? = (enc ps[k])[j]?:=by
 have e : ps = ps.take k ++ (ps[k] :: ps.drop (k + 1)):=by rw [← List.drop_eq_getElem_cons hk,List.take_append_drop]
 have hl : ((ps.take k).flatMap enc).length = k * size:=by rw [A3C he,List.length_take,Nat.min_eq_left (by omega)]
 conv=>lhs;rw [e]
 rw [List.flatMap_append,List.flatMap_cons,List.getElem?_append_right (by omega),hl,Nat.add_sub_cancel_left,List.getElem?_append_left (by rw [he];exact hj)]
theorem A7S {u u1 u2 : World} {r : Option Nat} (h : u.grownBy u1 r) (h' : u1.grownBy u2 r) : u.grownBy u2 r:=by
 obtain ⟨a1,a2,a3,a4,a5⟩:=h
 obtain ⟨b1,b2,b3,b4,b5⟩:=h'
 exact ⟨b1.trans a1,b2.trans a2,b3.trans a3,Nat.le_trans a4 b4,fun k hk hr=>(b5 k (Nat.lt_of_lt_of_le hk a4) hr).trans (a5 k hk hr)⟩
theorem A7q {B : Nat} {e : TypeId} {size g cap n : Nat} : ∀ (vs : List Value) (i : Nat) (u : World) (xs : List Value),u.ownsRow B e size (.slice (some ⟨g,0,none⟩) n cap) n xs →
  (E9 u g i vs).ownsRow B e size (.slice (some ⟨g,0,none⟩) n cap) n (A2g xs i vs) ∧ u.grownBy (E9 u g i vs) (some g)
 | [],i,u,xs,h=>⟨h,⟨rfl,rfl,rfl,Nat.le_refl _,fun _ _ _=>rfl⟩⟩
 | v :: vs,i,u,xs,h=>by
  obtain ⟨h1,h2⟩:=h.stored i v
  obtain ⟨h3,h4⟩:=A7q vs (i + 1) _ _ h1
  exact ⟨h3,A7S h2 h4⟩
theorem A1J {α : Type} {enc : α → List Value} {B : Nat} {e : TypeId} {size g cap n : Nat} (he : ∀ x,(enc x).length = size) {u : World} {ps : List α} (h : u.ownsRow B e size (.slice (some ⟨g,0,none⟩) n cap) n (ps.flatMap enc)) (k : Nat) (z : α) (hk : k < ps.length) :
  (E9 u g (k * size) (enc z)).ownsRow B e size (.slice (some ⟨g,0,none⟩) n cap) n ((ps.set k z).flatMap enc) ∧ u.grownBy (E9 u g (k * size) (enc z)) (some g):=by
 have := A7q (enc z) (k * size) u _ h
 rw [B1R he ps k z hk] at this
 exact this
theorem A2e {α : Type} {enc : α → List Value} {B : Nat} {e : TypeId} {size g cap n : Nat} (he : ∀ x,(enc x).length = size) {u : World} {ps : List α} (h : u.ownsRow B e size (.slice (some ⟨g,0,none⟩) n cap) n (ps.flatMap enc)) (hn : n = ps.length) (k j : Nat) (hk : k < ps.length) (hj : j < size) :
  u.cell? ⟨g,k * size + j,none⟩ = (enc ps[k])[j]?:=by
 have hlt : k * size + j < n * size:=by
  have : k * size + size ≤ ps.length * size:=by rw [← Nat.succ_mul];exact Nat.mul_le_mul_right _ hk
  rw [hn];omega
 rw [h.cellAt (k * size + j) hlt,A7Q he ps k j hk hj]
def A2U (v v2 : Value) : Prop:=∀ g,v.ownBlock = some g → v2.ownBlock = some g → False
theorem A2U.symm {v v2 : Value} (h : A2U v v2) : A2U v2 v:=fun g h1 h2=>h g h2 h1
theorem A8X {u w' : World} {B : Nat} {e : TypeId} {size n : Nat} {v : Value} {xs : List Value} {x : Ax} {a : Nat} (hl : Rn u x a) (h : u.ownsRow B e size v n xs) (ht : e ≠ 176) (hg : u.grownBy w' v.ownBlock) : Rn w' x a:=⟨fun hne=>by
 obtain ⟨b,off,cs,fr,e1,hb,hc⟩:=hl.1 hne
 refine ⟨b,off,cs,fr,e1,?_,hc⟩
 refine (hg.block b (Q8 hb) fun hxe=>?_).trans hb
 obtain ⟨_,h | ⟨g,cap,cur,rfl,hb',hh,hn,hc',hs,ht2⟩⟩:=h
 ·rw [h.1] at hxe;cases hxe
 ·have h1 : b = g:=Option.some.inj hxe
  rw [h1,hh] at hb
  injection hb with hb
  injection hb with _ h3 _
  exact ht h3,hl.2⟩
theorem B3w {u w' : World} {B : Nat} {e : TypeId} {size n : Nat} {v : Value} {xs : List Value} {p : Az} {q : Rat} (hl : Rz u p q) (h : u.ownsRow B e size v n xs) (ht : e ≠ 176) (hg : u.grownBy w' v.ownBlock) : Rz w' p q:=⟨A8X hl.1 h ht hg,A8X hl.2 h ht hg⟩
theorem B0y {u w' : World} {B : Nat} {e : TypeId} {size n : Nat} {v : Value} {xs : List Value} {ps : List Zr} (hl : H4 u ps) (h : u.ownsRow B e size v n xs) (ht : e ≠ 176) (hg : u.grownBy w' v.ownBlock) : H4 w' ps:=fun r hr=>B3w (hl r hr) h ht hg
theorem A3E {u : World} {B : Nat} {e : TypeId} {size n : Nat} {v : Value} {xs : List Value} (h : u.ownsRow B e size v n xs) (h0 : 0 < n) : ∃ g cap,v = .slice (some ⟨g,0,none⟩) n cap ∧ B ≤ g ∧ n ≤ cap:=by
 obtain ⟨_,h | ⟨g,cap,cur,rfl,hb',hh,hn,hc',hs,ht2⟩⟩:=h
 ·omega
 ·exact ⟨g,cap,rfl,hb',hn⟩
theorem A85 {u : World} {B B' : Nat} {e e' : TypeId} {s s' : Nat} {v v' : Value} {n n' : Nat} {xs xs' : List Value} (h : u.ownsRow B e s v n xs) (h' : u.ownsRow B' e' s' v' n' xs') (hne : e ≠ e') : A2U v v':=fun g h1 h2=>by
 obtain ⟨_,h | ⟨g1,cap,cur,rfl,hb,hh,hn,hc,hs,ht⟩⟩:=h
 ·rw [h.1] at h1;cases h1
 ·obtain ⟨_,h' | ⟨g2,cap',cur',rfl,hb',hh',hn',hc',hs',ht'⟩⟩:=h'
  ·rw [h'.1] at h2;cases h2
  ·have e1 : g = g1:=Option.some.inj h1.symm
   have e2 : g = g2:=Option.some.inj h2.symm
   rw [← e1] at hh
   rw [← e2,hh] at hh'
   injection hh' with hh'
   injection hh' with _ h3 _
   exact hne h3
theorem A4Z {w u u' : World} {e : TypeId} {size n : Nat} {v : Value} {xs : List Value} (h : u.ownsRow w.heap.size e size v n xs) (hG : A3 w u) (hg : u.grownBy u' v.ownBlock) : A3 w u':=hG.grown hg fun k hk=>(h.lt k hk).1
theorem B4f {ops : Array Oper} {a : Act} {u : World} {K : Act → World → Prop} {d2 : Option Nat} {s z : Operand} {t2 : TypeId} {p2 : String} {f2 : Array Edge} {rest : List Oper} {T e : TypeId} {size bytes : Nat} (hE : EI T e size bytes)
  (B : Nat) (v : Value) (n : Nat) (xs : List Value) (b : Nat) (ys : List Value) (hy : ys.length = size) (h1 : (ys.all fun y=>y.oneCell') = true) (hblk : Blk u b e ys.toArray)
  (hs : a.eval s = v) (hz : a.eval z = .slice (some ⟨b,0,none⟩) 1 1)
  (hown : u.ownsRow B e size v n xs) (hl : n + 1 ≤ 1099511627776) (hl2 : (n + 1) * bytes ≤ 140737488355328) (hB : B ≤ u.heap.size)
  (h : ∀ v' w',w'.ownsRow B e size v' (n + 1) (xs ++ ys) → u.grownBy w' v.ownBlock → (v'.ownBlock = v.ownBlock ∨ v'.ownBlock = some u.heap.size) → wpList Tryz.prog ops (NoK K) rest (a.put d2 v') w') :
  wpList Tryz.prog ops (NoK K) (⟨d2,.call { callee:=.builtin .append,args:=#[s,z],argTypes:=#[T,T] },t2,p2,f2,none⟩ :: rest) a u:=by
 obtain ⟨hund,⟨i0,z0,hi0,hz0,hz1,hz2,hz3⟩,hpos⟩:=hE
 refine wpList_append_own_at u (a:=a) (Q:=NoK K) rfl s z T rfl B e i0 z0 size bytes hund hi0 hz0 hz1 hz2 hz3 hpos v n xs hs hown ⟨b,0,none⟩ 1 1 ys hz (by rw [hy];omega) ?_ (fun y hy=>List.all_eq_true.1 h1 y hy) (by unfold maxLen;omega) hl2 hB fun v' w' g1 g2 _ g4=>h v' w' g1 g2 g4
 intro j y hj
 rw [Go.WideShapes.add_plain,Nat.zero_add,Blk.cell hblk j,List.getElem?_toArray]
 exact hj
end Go.Proofs.YtlkniebmjdoopaaGreatDoor
namespace Go.Proofs.YtlkniebmjdoopaaGreatDoor
open Go.RowKit
abbrev G5 (q : Rat) : Array Value:=#[.bool (D1 q.num),.int .u64 (B3 q.num.natAbs),.string (B1 q.num.natAbs),.int .u64 (B3 (G3 q.den)),.string (B1 (G3 q.den))]
def A29 (b2 b8 : Nat) (A : Option Addr) (m c : Nat) (l : List Rat) (q : Rat) (W : World) : Prop :=
 Blk W b2 23 #[.slice A m c] ∧ Blk W b8 39 (G5 q) ∧ Lq W A l
theorem A29.mk {b2 b8 : Nat} {A : Option Addr} {m c : Nat} {l : List Rat} {q : Rat} {u : World} (h1 : Blk u b2 23 #[.slice A m c]) (h2 : Blk u b8 39 (G5 q)) (h3 : Lq u A l) : A29 b2 b8 A m c l q u:=⟨h1,h2,h3⟩
theorem A29.grow {b2 b8 : Nat} {A : Option Addr} {m c : Nat} {l : List Rat} {q : Rat} {u u' : World} (hg : A3 u u') (h : A29 b2 b8 A m c l q u) : A29 b2 b8 A m c l q u':=⟨h.1.grow hg,h.2.1.grow hg,h.2.2.grow hg⟩
def A2i (b3 b4 b5 b8 : Nat) (A B : Option Addr) (m c d : Nat) (l l' : List Rat) (a : Rat) (W : World) : Prop :=
 Blk W b3 23 #[.slice A m c] ∧ Blk W b4 23 #[.slice B m d] ∧ Blk W b5 39 (G5 a) ∧ Blk W b8 39 (G5 (A8 1)) ∧ Lq W A l ∧ Lq W B l'
theorem A2i.mk {b3 b4 b5 b8 : Nat} {A B : Option Addr} {m c d : Nat} {l l' : List Rat} {a : Rat} {u : World} (h1 : Blk u b3 23 #[.slice A m c]) (h2 : Blk u b4 23 #[.slice B m d]) (h3 : Blk u b5 39 (G5 a)) (h4 : Blk u b8 39 (G5 (A8 1))) (h5 : Lq u A l) (h6 : Lq u B l') : A2i b3 b4 b5 b8 A B m c d l l' a u:=⟨h1,h2,h3,h4,h5,h6⟩
theorem A2i.grow {b3 b4 b5 b8 : Nat} {A B : Option Addr} {m c d : Nat} {l l' : List Rat} {a : Rat} {u u' : World} (hg : A3 u u') (h : A2i b3 b4 b5 b8 A B m c d l l' a u) : A2i b3 b4 b5 b8 A B m c d l l' a u' :=
 ⟨h.1.grow hg,h.2.1.grow hg,h.2.2.1.grow hg,h.2.2.2.1.grow hg,h.2.2.2.2.1.grow hg,h.2.2.2.2.2.grow hg⟩
def LzX (u : World) (bs : List Nat) (A : Option Addr) (l : List Rat) : Prop:=Lz u A l ∧ (∀ b off,A = some ⟨b,off,none⟩ → b ∉ bs) ∧ 0 < l.length
theorem LzX.a {u : World} {bs : List Nat} {A : Option Addr} {l : List Rat} (h : LzX u bs A l) : Lz u A l:=h.1
theorem LzX.grow {u u' : World} {bs : List Nat} {A : Option Addr} {l : List Rat} (h : LzX u bs A l) (hg : A3 u u') : LzX u' bs A l:=⟨h.1.grow hg,h.2⟩
theorem Cz.far {u : World} {b i : Nat} {p : Az} {q : Rat} (h : Cz u b i p q) {a : Addr} (ha : b ≠ a.block) (v : Value) : Cz (u.setCell a v) b i p q:=by
 have key : ∀ j,(u.setCell a v).cell? ⟨b,j,none⟩ = u.cell? ⟨b,j,none⟩:=fun j=>World.cell?_of_block (Below.heap_setCell u a v b ha)
 exact ⟨(key _).trans h.1,(key _).trans h.2.1,(key _).trans h.2.2⟩
theorem LzX.put {u u' : World} {bs : List Nat} {A : Option Addr} {l : List Rat} (h : LzX u bs A l) {bl : List (Nat × TypeId × Array Value)} (hB : Bx u bl) (k : Nat) {b : Nat} {t : TypeId} {cs : Array Value} (hk : bl[k]? = some (b,t,cs)) (ht : b ∈ bs ∧ t ≠ 176) (i : Nat) (vs : List Value) (hu : E9 u b i vs = u') : LzX u' bs A l:=by
 refine ⟨fun hn=>?_,h.2⟩
 obtain ⟨ba,oa,e,hb,hc⟩:=h.1 hn
 have hne : ba ≠ b:=fun e'=>h.2.1 ba oa e (e' ▸ ht.1)
 have hsz : ∀ (vs : List Value) (i : Nat) (u : World),(E9 u b i vs).heap.size = u.heap.size:=by
  intro vs
  induction vs with
  | nil=>exact fun _ _=>rfl
  | cons v vs ih=>exact fun i u=>(ih (i + 1) (u.setCell ⟨b,i,none⟩ v)).trans (by simp [World.setCell])
 have hcz : ∀ (vs : List Value) (i : Nat) (u : World) (j : Nat) (p : Az) (q : Rat),Cz u ba j p q → Cz (E9 u b i vs) ba j p q:=by
  intro vs
  induction vs with
  | nil=>exact fun _ _ _ _ _ h=>h
  | cons v vs ih=>exact fun i u j p q h=>ih (i + 1) (u.setCell ⟨b,i,none⟩ v) j p q (h.far (a:=⟨b,i,none⟩) hne v)
 refine ⟨ba,oa,e,by rw [← hu,hsz];exact hb,fun j hj=>?_⟩
 obtain ⟨p,h1,h2⟩:=hc j hj
 exact ⟨p,h1.put hB k hk ht.2 i vs hu,by rw [← hu];exact hcz vs i u _ p _ h2⟩
theorem LzX.lt {u : World} {bs : List Nat} {A : Option Addr} {l : List Rat} (h : LzX u bs A l) : ∀ b off,A = some ⟨b,off,none⟩ → b < u.heap.size:=fun b off e=>by
 obtain ⟨b',off',e',hb,_⟩:=h.1 (fun h0=>by have := h.2.2;rw [h0] at this;cases this)
 rw [e] at e'
 cases e'
 exact hb
theorem LzX.more {v : World} {n b : Nat} {bs : List Nat} {A : Option Addr} {l : List Rat} (h : LzX v bs A l) (hlt : ∀ b off,A = some ⟨b,off,none⟩ → b < n) (hb : n ≤ b) : LzX v (b :: bs) A l :=
 ⟨h.1,fun b' off e hm=>by
  rcases List.mem_cons.1 hm with rfl | hm
  ·have := hlt b' off e;omega
  ·exact h.2.1 b' off e hm,h.2.2⟩
theorem LzX.addr {u : World} {bs : List Nat} {A : Option Addr} {l : List Rat} (h : LzX u bs A l) : ∃ b off,A = some ⟨b,off,none⟩:=h.1.addr h.2.2
theorem Li.at {u : World} {A : Option Addr} {l : List Int} {i : Nat} (h : Li u A l) (hi : i < l.length) : ∃ b off,A = some ⟨b,off,none⟩ ∧ ∀ W,A3 u W → W.cell? ⟨b,off + i,none⟩ = some (.int .i64 (gi l i)):=by
 obtain ⟨b,off,e,-⟩:=h.cell hi
 refine ⟨b,off,e,fun W hg=>?_⟩
 obtain ⟨b',o',e',hc⟩:=(h.grow hg).cell hi
 rw [e] at e'
 cases e'
 exact hc
end Go.Proofs.YtlkniebmjdoopaaGreatDoor
namespace Go.Proofs.YtlkniebmjdoopaaGreatDoor
open Go Go.RowKit
abbrev Zw:=Ax × List Zr
abbrev zwV (r : Zw) : Value:=.slice r.1.1 r.2.length r.1.2
def X0 (B : Nat) (W : World) (rws : List Zw) : Prop:=(∀ r ∈ rws,H4 W r.2 ∧ W.ownsRow B 66 3 (zwV r) r.2.length (r.2.flatMap zrL)) ∧ rws.Pairwise (fun a b=>A2U (zwV a) (zwV b))
theorem X0.nil (B : Nat) (W : World) : X0 B W []:=⟨fun _ h=>(by cases h),List.Pairwise.nil⟩
theorem X0.grow {B : Nat} {u u' : World} {rws : List Zw} (h : X0 B u rws) (hg : A3 u u') : X0 B u' rws:=⟨fun r hr=>⟨(h.1 r hr).1.grow hg,F3 (h.1 r hr).2 hg⟩,h.2⟩
theorem X0.own {B0 : Nat} {u w' : World} {B : Nat} {e : TypeId} {size n : Nat} {v : Value} {xs : List Value} {o : Obj} {rws : List Zw} (hl : X0 B0 u rws) (h : u.ownsRow B e size v n xs) (ht : e ≠ 176 ∧ e ≠ 66) (hg : (u.alloc o).grownBy w' v.ownBlock) : X0 B0 w' rws:=⟨fun r hr=>⟨(hl.1 r hr).1.own h ht.1 hg,by
 have h2:=(hl.1 r hr).2
 refine (h2.alloc o).kept hg ?_
 cases hb : (zwV r).ownBlock with
 | none=>exact .inl rfl
 | some g=>exact .inr fun e1=>A85 h h2 ht.2 g e1.symm hb⟩,hl.2⟩
def A5H (B k : Nat) (q : List Rat) (x : Zw) (W : World) : Prop:=(x.2.map (·.2) = q ∧ x.2.length = k) ∧ H4 W x.2 ∧ W.ownsRow B 66 3 (zwV x) x.2.length (x.2.flatMap zrL)
theorem A5H.grow {B k : Nat} {q : List Rat} {x : Zw} {u u' : World} (hg : A3 u u') (h : A5H B k q x u) : A5H B k q x u':=⟨h.1,h.2.1.grow hg,F3 h.2.2 hg⟩
def Lrz (u : World) (A : Option Addr) (rs : List Rq) : Prop :=
 rs ≠ [] → ∃ b off,A = some ⟨b,off,none⟩ ∧ b < u.heap.size ∧ ∀ i r,rs[i]? = some r → u.cell? ⟨b,off + i,none⟩ = some (.slice r.1 r.2.2.length r.2.1) ∧ Lz u r.1 r.2.2
theorem Lrz.grow {u u' : World} {A : Option Addr} {rs : List Rq} (h : Lrz u A rs) (hg : A3 u u') : Lrz u' A rs:=fun hn=>by
 obtain ⟨b,off,e,hb,hc⟩:=h hn
 exact ⟨b,off,e,Nat.lt_of_lt_of_le hb hg.size,fun i r hi=>⟨(hg.cell (p:=⟨b,off + i,none⟩) hb).trans (hc i r hi).1,(hc i r hi).2.grow hg⟩⟩
theorem Lrz.addr {u : World} {A : Option Addr} {rs : List Rq} (h : Lrz u A rs) (hl : 0 < rs.length) : ∃ b off,A = some ⟨b,off,none⟩:=by
 obtain ⟨b,off,e,_⟩:=h (fun h0=>by rw [h0] at hl;cases hl)
 exact ⟨b,off,e⟩
theorem Lrz.read {u : World} {b off : Nat} {rs : List Rq} (h : Lrz u (some ⟨b,off,none⟩) rs) {i : Nat} {r : Rq} (hi : rs[i]? = some r) : u.cell? ⟨b,off + i,none⟩ = some (.slice r.1 r.2.2.length r.2.1) ∧ Lz u r.1 r.2.2:=by
 obtain ⟨b',off',e,_,hc⟩:=h (fun h0=>by rw [h0] at hi;simp at hi)
 cases e
 exact hc i r hi
abbrev A1C (r : Rq) : Value:=.slice r.1 r.2.2.length r.2.1
def A0T (B : Nat) (W : World) (rs : List Rq) : Prop:=∀ r ∈ rs,W.ownsRow B 39 5 (A1C r) r.2.2.length (r.2.2.flatMap qL)
theorem A0T.nil (B : Nat) (W : World) : A0T B W []:=fun _ h=>by cases h
theorem A0T.grow {B : Nat} {u u' : World} {rs : List Rq} (h : A0T B u rs) (hg : A3 u u') : A0T B u' rs:=fun r hr=>F3 (h r hr) hg
theorem A0T.own {B0 : Nat} {u w' : World} {B : Nat} {e : TypeId} {size n : Nat} {v : Value} {xs : List Value} {o : Obj} {rs : List Rq} (hl : A0T B0 u rs) (h : u.ownsRow B e size v n xs) (ht : e ≠ 39) (hg : (u.alloc o).grownBy w' v.ownBlock) : A0T B0 w' rs:=fun r hr=>by
 have h2:=hl r hr
 refine (h2.alloc o).kept hg ?_
 cases hb : (A1C r).ownBlock with
 | none=>exact .inl rfl
 | some g=>exact .inr fun e1=>A85 h h2 ht g e1.symm hb
def A5A (B k : Nat) (q : List Rat) (x : Ax) (W : World) : Prop:=q.length = k ∧ W.ownsRow B 39 5 (.slice x.1 k x.2) k (q.flatMap qL)
theorem A5A.grow {B k : Nat} {q : List Rat} {x : Ax} {u u' : World} (hg : A3 u u') (h : A5A B k q x u) : A5A B k q x u':=⟨h.1,F3 h.2 hg⟩
theorem B4R (A : Option Addr) (n c : Nat) (w : World) : (Instr.buildSlice 54 1 #[(0,.slice A n c)]).run Tryz.prog w = .ok (.slice (some ⟨w.heap.size,0,none⟩) 1 1) (w.alloc (.cells #[.slice A n c] 23)):=by
 go_simp
theorem X0.idx {B : Nat} {W : World} {rws : List Zw} (h : X0 B W rws) : ∀ (i : Nat) (r : Zw),rws[i]? = some r → H4 W r.2 ∧ W.ownsRow B 66 3 (zwV r) r.2.length (r.2.flatMap zrL):=fun _ r hi=>h.1 r (List.mem_of_getElem? hi)
def Q9 (rs : List (List Rat)) (i : Nat) : List Rat:=(rs[i]?).getD []
def A0b (a b : Rat) : Rat:=if a < b then b else a
theorem B5V (f : Nat → Rat) (n : Nat) : (List.range (n + 1)).map f = (List.range n).map f ++ [f n]:=by rw [List.range_succ,List.map_append];rfl
theorem A4s (a : Rat) : qs (H6 a) = qs a:=by
 unfold H6 Rat.abs
 split
 ·rfl
 ·exact A5L a
theorem B13 {a b : Rat} {s : Nat} (h1 : qs a ≤ s) (h2 : qs b ≤ s) : qs (A0b a b) ≤ s:=by unfold A0b;split <;> assumption
theorem A1X {α : Type} {enc : α → List Value} {B : Nat} {e : TypeId} {g cap n : Nat} (he : ∀ x,(enc x).length = 5) {u : World} {ps : List α} (h : u.ownsRow B e 5 (.slice (some ⟨g,0,none⟩) n cap) n (ps.flatMap enc)) (hn : n = ps.length) (k : Nat) (hk : k < ps.length) :
  ∃ y0 y1 y2 y3 y4,u.cell? ⟨g,k * 5,none⟩ = some y0 ∧ u.cell? ⟨g,k * 5 + 1,none⟩ = some y1 ∧ u.cell? ⟨g,k * 5 + 2,none⟩ = some y2 ∧ u.cell? ⟨g,k * 5 + 3,none⟩ = some y3 ∧ u.cell? ⟨g,k * 5 + 4,none⟩ = some y4 ∧ ∀ j,u.frozen? ⟨g,j,none⟩ = false:=by
 have hl:=he ps[k]
 have h0:=A2e he h hn k 0 hk (by omega)
 have h1:=A2e he h hn k 1 hk (by omega)
 have h2:=A2e he h hn k 2 hk (by omega)
 have h3:=A2e he h hn k 3 hk (by omega)
 have h4:=A2e he h hn k 4 hk (by omega)
 rw [List.getElem?_eq_getElem (by omega)] at h0 h1 h2 h3 h4
 exact ⟨_,_,_,_,_,h0,h1,h2,h3,h4,fun j=>h.frozenAt j⟩
theorem A5w (b : Nat) : ∀ (vs : List Value) (i : Nat) (u : World),u.grownBy (E9 u b i vs) (some b)
 | [],_,_=>⟨rfl,rfl,rfl,Nat.le_refl _,fun _ _ _=>rfl⟩
 | v :: vs,i,u=>A7S (u1:=u.setCell ⟨b,i,none⟩ v) ⟨rfl,rfl,rfl,by simp [World.setCell],fun k _ hk=>Below.heap_setCell _ _ _ _ (fun e=>hk (by simp [e]))⟩ (A5w b vs (i + 1) _)
theorem A2r {u u' : World} {B : Nat} {e : TypeId} {size n b i : Nat} {v : Value} {xs vs : List Value} (h : u.ownsRow B e size v n xs) (hb : v.ownBlock ≠ some b) (hu : E9 u b i vs = u') : u'.ownsRow B e size v n xs:=by
 subst hu
 exact h.kept (A5w b vs i u) (.inr hb)
theorem A5V : (Tryz.prog.info? 39).map (fun i=>(i.zero,i.size,i.bytes)) = some (some (.agg (qL 0).toArray),5,56):=by kernel_rfl
theorem B6F (n : Nat) : madeCells (Value.agg (qL 0).toArray).cells (n * 5) = ((List.replicate n (0 : Rat)).flatMap qL).toArray:=by
 unfold madeCells
 refine Array.ext (by simp [A10,show (qL 0).length = 5 from rfl]) fun i h1 h2=>?_
 have h1' : i < n * 5:=by simpa using h1
 have hg:=A2a (List.replicate n (0 : Rat)) (i:=i / 5) (q:=0) (by rw [List.getElem?_replicate,if_pos (by omega)]) (j:=i % 5) (by omega)
 rw [show i / 5 * 5 + i % 5 = i by omega] at hg
 have h3 : ((List.replicate n (0 : Rat)).flatMap qL)[i]? = some ((List.replicate n (0 : Rat)).flatMap qL)[i]:=List.getElem?_eq_getElem _
 rw [h3] at hg
 have h4 : (qL 0)[i % 5]? = some ((qL 0)[i % 5]'(by show i % 5 < 5;omega)):=List.getElem?_eq_getElem _
 rw [h4] at hg
 injection hg with hg
 simp only [List.getElem_toArray,Value.cells,Array.getElem_ofFn]
 rw [hg]
 simp [show (qL 0).length = 5 from rfl]
 rw [h4]
 rfl
theorem A1V (n : Nat) (hn : n ≤ 1048576) (x : Int) (hx : x = n) (W : World) : (Instr.makeSlice 23 (.int .i64 x) (.int .i64 x)).run Tryz.prog W =
  .ok (.slice (some ⟨W.heap.size,0,none⟩) n n) (W.alloc (.cells ((List.replicate n (0 : Rat)).flatMap qL).toArray 39)):=by
 obtain ⟨i0,hi0,hz0,hz1,hz2⟩:=info_parts A5V
 have hr:=run_make (P:=Tryz.prog) W 23 39 i0 (.agg (qL 0).toArray) Tryz.underlying23 hi0 hz0 .i64 .i64 n n (by omega) (by omega) (by rw [hz2];omega) (by omega)
 rw [hx]
 rw [hr,hz1]
 simp only [Int.toNat_natCast]
 rw [B6F]
theorem A2q {u v : World} {B n : Nat} (hB : B ≤ u.heap.size) (hn : n ≤ 1048576) (hv : u.alloc (.cells ((List.replicate n (0 : Rat)).flatMap qL).toArray 39) = v) : v.ownsRow B 39 5 (.slice (some ⟨u.heap.size,0,none⟩) n n) n ((List.replicate n (0 : Rat)).flatMap qL):=by
 subst hv
 have h:=World.ownsRow_lit (base:=B) (e:=39) (size:=5) u ((List.replicate n (0 : Rat)).flatMap qL).toArray n hB (by unfold maxLen;omega) (by simp [A10,show (qL 0).length = 5 from rfl])
 simpa using h
theorem B2e (w : World) (l : List Rat) : Lq (w.alloc (.cells (l.flatMap qL).toArray 39)) (some ⟨w.heap.size,0,none⟩) l:=fun _ =>
 ⟨w.heap.size,0,rfl,by rw [H8];omega,fun i q hi j v hj=>by
  have hj5 : j < 5:=(List.getElem?_eq_some_iff.1 hj).1
  rw [Nat.zero_add,Blk.cell (Blk.new w 39 _),List.getElem?_toArray,A2a l hi hj5,hj]⟩
def R3 (f : Nat → Rat) (n i : Nat) : List Rat:=(List.range n).map fun t=>if t < i then f t else 0
theorem A1O (f : Nat → Rat) (n i : Nat) : (R3 f n i).length = n:=by unfold R3;simp
theorem A91 (f : Nat → Rat) (n : Nat) : R3 f n 0 = List.replicate n 0:=by
 unfold R3
 apply List.ext_getElem
 ·simp
 ·intro i h1 h2;simp
theorem A9O (f : Nat → Rat) (n : Nat) : R3 f n n = (List.range n).map f:=by
 unfold R3
 refine List.map_congr_left fun j hj=>?_
 rw [if_pos (List.mem_range.1 hj)]
theorem A8S {f : Nat → Rat} {n i : Nat} (h : i < n) : (R3 f n i).set i (f i) = R3 f n (i + 1):=by
 unfold R3
 apply List.ext_getElem
 ·simp
 ·intro j h1 h2
  rw [List.getElem_set]
  simp only [List.getElem_map,List.getElem_range]
  by_cases e : i = j
  ·subst e;simp
  ·rw [if_neg e]
   by_cases hj : j < i
   ·rw [if_pos hj,if_pos (by omega)]
   ·rw [if_neg hj,if_neg (by omega)]
theorem B5j {P : Program} (w : World) (dT sT ty elem : TypeId) (k g o dLen dCap : Nat) (a : Addr) (sLen sCap : Nat) (cur : Array Value) (t : TypeId) (cs : List Value)
  (hu : P.underlying dT = some (.slice elem)) (hs : (P.info? elem).map (·.size) = some k)
  (hg : w.heap[g]? = some (.cells cur t (0,0))) (hn : cs.length = Nat.min sLen dLen * k)
  (hsrc : ∀ j v,cs[j]? = some v → w.cell? (a.add j) = some v) (hfit : o + cs.length ≤ cur.size) (h1 : ∀ v ∈ cs,v.oneCell' = true) :
  (Builtin.copy_ #[dT,sT] ty #[.slice (some ⟨g,o,none⟩) dLen dCap,.slice (some a) sLen sCap]).run P w =
   .ok (goInt (Nat.min sLen dLen)) (w.setRow g (cur.toList.take o ++ cs ++ cur.toList.drop (o + cs.length)).toArray):=by
 have hl:=run_loadCells_list (P:=P) w a cs hsrc
 have hst:=run_storeCells_at P g o t cs 0 cur w hg (by simpa using hfit) h1
 cases hq : P.info? elem with
 | none=>simp [hq] at hs
 | some i =>
  have hi : i.size = k:=by simpa [hq] using hs
  simp [Builtin.copy_,run_underlying hu,Builtin.lenOf,Builtin.firstCells,sizeOf,typeInfo,hq,hi,← hn,hl,hst]
theorem B5o {u : World} {B n cap k g : Nat} {e : TypeId} {xs : List Value} (h : u.ownsRow B e k (.slice (some ⟨g,0,none⟩) n cap) n xs) (o : Nat) (cs : List Value) (hfit : o + cs.length ≤ n * k) :
  ∃ cur : Array Value,u.heap[g]? = some (.cells cur e (0,0)) ∧ n * k ≤ cur.size ∧ (u.setRow g (cur.toList.take o ++ cs ++ cur.toList.drop (o + cs.length)).toArray).ownsRow B e k (.slice (some ⟨g,0,none⟩) n cap) n (xs.take o ++ cs ++ xs.drop (o + cs.length)) ∧ u.grownBy (u.setRow g (cur.toList.take o ++ cs ++ cur.toList.drop (o + cs.length)).toArray) (some g):=by
 obtain ⟨h0,h | ⟨g',cap',cur,e1,hb,hh,hn,hc,hs,ht⟩⟩:=h
 ·cases h.1
 ·cases e1
  have hcs : n * k ≤ cur.size:=by rw [hs];exact Nat.mul_le_mul_right _ hn
  have hlt : g < u.heap.size:=Q8 hh
  have hxl : xs.length = n * k:=h0
  refine ⟨cur,hh,hcs,⟨?_,.inr ⟨g,cap,_,rfl,hb,setRow_heap u g cur _ e (0,0) hh,hn,hc,?_,?_⟩⟩,?_⟩
  ·simp only [List.length_append,List.length_take,List.length_drop,hxl]
   omega
  ·rw [← hs]
   simp
   omega
  ·rw [← ht]
   simp only [List.toList_toArray]
   apply List.ext_getElem?
   intro j
   simp only [List.getElem?_take,List.getElem?_append,List.length_append,List.length_take,List.getElem?_drop,Array.length_toList]
   grind
  ·refine ⟨rfl,rfl,rfl,?_,fun j hj hne=>?_⟩
   ·simp [World.setRow]
   ·show (u.heap.modify g _)[j]? = _
    rw [Array.getElem?_modify,if_neg (fun e=>hne (by rw [e]))]
theorem B1C {P : Program} {ops : Array Oper} {rest : List Oper} {o : Oper} {a : Act} {w w' : World} {Q : Exit → Act → World → Prop} {v x y : Value} (hgd : o.guard = none) (s z : Operand) (t : TypeId)
  (ho : o.op = .call { callee:=.builtin .copy,args:=#[s,z],argTypes:=#[t,t] }) (hs : a.eval s = x) (hz : a.eval z = y) (hr : (Builtin.copy_ #[t,t] o.type #[x,y]).run P w = .ok v w') (h : wpList P ops Q rest (a.put o.dst v) w') : wpList P ops Q (o :: rest) a w:=by
 refine wpList_plain hgd fun K hK=>?_
 unfold Oper.wp execOp
 simp only [ho,resolve,invoke,builtin,Sem.run_bind,Sem.run_pure,Result.andThen_ok,List.map_toArray,List.map_cons,List.map_nil,hs,hz,hr]
 exact hK _ _ h
end Go.Proofs.YtlkniebmjdoopaaGreatDoor
