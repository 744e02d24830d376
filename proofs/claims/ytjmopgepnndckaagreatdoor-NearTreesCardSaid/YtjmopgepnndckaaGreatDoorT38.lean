/- Contracts and laws. -/
import Derived.Test.YtjmopgepnndckaaGreatDoorT37
import Derived.Shelf.SlLaysF0
import Derived.Shelf.SlLaysF
import Derived.Shelf.SlLaysE0
import Derived.Shelf.SlGeneric
import Derived.Ground.SlsfProg
import Derived.Ground.SlgnProg
import Derived.Test.YtjmopgepnndckaaGreatDoorProg
import Derived.Shelf.SlSortCmp.Whole1
import Derived.Deep.RegionHeld3
import Derived.Deep.AppendLies
import Derived.Deep.CutRange
import Derived.Deep.DeepCutAuto
set_option linter.unusedSimpArgs false
set_option linter.unusedVariables false
set_option maxHeartbeats 2000000
set_option maxRecDepth 100000
namespace Go.Proofs
open Go.Shelf
end Go.Proofs
namespace Go.Proofs.YtjmopgepnndckaaGreatDoor
open Go Go.RowKit Go.Sort Go.Shelf
theorem A2E (X : List (List Rat)) (i c : Nat) : ent X i c = gq (G1 X i) c:=by unfold ent gq G1;rw [List.getD_eq_getElem?_getD]
structure GrC (b3 b5 bT : Nat) (RA : Option Addr) (RC n : Nat) (NV : Value) (col : Nat) (rs : List Rq) (W : World) : Prop where
 p3 : Blk W b3 169 #[.pointer (some ⟨bT,0,none⟩)]
 p5 : Blk W b5 3 #[.int .i64 (col : Nat)]
 pT : Blk W bT 79 #[.slice RA n RC,NV]
 rows : Lrq W RA rs
theorem GrC.grow {b3 b5 bT : Nat} {RA : Option Addr} {RC n : Nat} {NV : Value} {col : Nat} {rs : List Rq} {u u' : World} (h : GrC b3 b5 bT RA RC n NV col rs u) (hg : A3 u u') : GrC b3 b5 bT RA RC n NV col rs u':=⟨h.p3.grow hg,h.p5.grow hg,h.pT.grow hg,h.rows.grow hg⟩
abbrev H8 (l : List Nat) : List Int:=l.map fun (i : Nat)=>(i : Int)
end Go.Proofs.YtjmopgepnndckaaGreatDoor
namespace Go.Proofs.YtjmopgepnndckaaGreatDoor
open Go Go.RowKit
structure KepS (S : Nat → Prop) (u w : World) : Prop where
 os : w.os = u.os
 tape : w.tape = u.tape
 output : w.output = u.output
 size : u.heap.size ≤ w.heap.size
 block : ∀ k,k < u.heap.size → ¬ S k → w.heap[k]? = u.heap[k]?
theorem KepS.refl (S : Nat → Prop) (u : World) : KepS S u u:=⟨rfl,rfl,rfl,Nat.le_refl _,fun _ _ _=>rfl⟩
theorem KepS.trans {S : Nat → Prop} {u v w : World} (h : KepS S u v) (h' : KepS S v w) : KepS S u w :=
 ⟨h'.os.trans h.os,h'.tape.trans h.tape,h'.output.trans h.output,Nat.le_trans h.size h'.size,fun k hk hs=>(h'.block k (Nat.lt_of_lt_of_le hk h.size) hs).trans (h.block k hk hs)⟩
theorem KepS.ofGrow {S : Nat → Prop} {u w : World} (h : A3 u w) : KepS S u w:=⟨h.os,h.tape,h.output,h.size,fun k hk _=>h.block k hk⟩
theorem KepS.ofGrown {S : Nat → Prop} {u w : World} {row : Option Nat} (h : u.grownBy w row) (hr : ∀ k,row = some k → S k) : KepS S u w:=⟨h.os,h.tape,h.output,h.size,fun k hk hs=>h.block k hk (fun e=>hs (hr k e.symm))⟩
theorem KepS.mono {S S' : Nat → Prop} {u w : World} (h : KepS S u w) (hm : ∀ k,k < u.heap.size → S k → S' k) : KepS S' u w:=⟨h.os,h.tape,h.output,h.size,fun k hk hs=>h.block k hk (fun e=>hs (hm k hk e))⟩
theorem KepS.grow {S : Nat → Prop} {w0 u w : World} (h : KepS S w0 u) (hg : A3 u w) : KepS S w0 w:=h.trans (KepS.ofGrow hg)
theorem KepS.setCell {S : Nat → Prop} (u : World) (p : Addr) (hp : S p.block) (v : Value) : KepS S u (u.setCell p v) :=
 ⟨rfl,rfl,rfl,by simp [World.setCell],fun k _ hs=>Below.heap_setCell u p v k (fun e=>hs (e ▸ hp))⟩
theorem KepS.blk {S : Nat → Prop} {u w : World} {b : Nat} {t : TypeId} {cs : Array Value} (h : KepS S u w) (hb : Blk u b t cs) (hs : ¬ S b) : Blk w b t cs:=(h.block b hb.lt hs).trans hb
theorem KepS.li {S : Nat → Prop} {u w : World} {g off : Nat} {l : List Int} (h : KepS S u w) (hl : Li u (some ⟨g,off,none⟩) l) (hs : ¬ S g) : Li w (some ⟨g,off,none⟩) l:=fun hn=>by
 obtain ⟨b,o,e,hb,hc⟩:=hl hn
 cases e
 exact ⟨g,off,rfl,Nat.lt_of_lt_of_le hb h.size,fun i x hi=>(World.cell?_of_block (w:=u) (a:=⟨g,off + i,none⟩) (h.block g hb hs)).trans (hc i x hi)⟩
def nbk (A : Option Addr) : Option Nat:=A.map (·.block)
theorem A1N (A : Option Addr) (n c : Nat) : (Value.slice A n c).ownBlock = nbk A:=by cases A <;> rfl
theorem KepS.own {S : Nat → Prop} {u w : World} {B n c k : Nat} {e : TypeId} {A : Option Addr} {xs : List Value} (h : KepS S u w) (ho : u.ownsRow B e k (.slice A n c) n xs) (hs : ∀ b,nbk A = some b → ¬ S b) : w.ownsRow B e k (.slice A n c) n xs:=by
 obtain ⟨h0,h1 | ⟨g,cap,cur,e1,hb,hh,hn,hc,hz,ht⟩⟩:=ho
 ·exact ⟨h0,.inl h1⟩
 ·refine ⟨h0,.inr ⟨g,cap,cur,e1,hb,(h.block g (O0 hh) (hs g ?_)).trans hh,hn,hc,hz,ht⟩⟩
  cases e1
  rfl
abbrev ndL (x : NdT) : List Value:=[.int .i64 x.r,.int .i64 x.c,.int .i64 x.l,.int .i64 x.t]
theorem A4m : ∀ (l : List NdT) (k : Nat) (v : Int) (hk : k < l.length),(l.flatMap ndL).set (k * 4 + 2) (.int .i64 v) = (l.set k ⟨l[k].r,l[k].c,v,l[k].t⟩).flatMap ndL
 | x :: l,0,v,_=>rfl
 | x :: l,k + 1,v,hk=>by
  have := A4m l k v (by simpa using hk)
  rw [show (k + 1) * 4 + 2 = k * 4 + 2 + 4 by omega]
  show _ :: _ :: _ :: _ :: (l.flatMap ndL).set (k * 4 + 2) _ = _
  rw [this]
  rfl
theorem A5t : ∀ (l : List NdT) (k : Nat) (v : Int) (hk : k < l.length),(l.flatMap ndL).set (k * 4 + 3) (.int .i64 v) = (l.set k ⟨l[k].r,l[k].c,l[k].l,v⟩).flatMap ndL
 | x :: l,0,v,_=>rfl
 | x :: l,k + 1,v,hk=>by
  have := A5t l k v (by simpa using hk)
  rw [show (k + 1) * 4 + 3 = k * 4 + 3 + 4 by omega]
  show _ :: _ :: _ :: _ :: (l.flatMap ndL).set (k * 4 + 3) _ = _
  rw [this]
  rfl
theorem A8s (X : List (List Rat)) (w col k m h : Nat) (is : List Nat) (hm : is.length = m) (hm0 : 0 < m) (hh : m / 2 = h) :
  P4 (K6 X w is col) k = ⟨((P8 X col is).getD h 0 : Nat),(col : Nat),if h = 0 then 0 else (k + 1 : Nat),if m ≤ h + 1 then 0 else (k + 1 + h : Nat)⟩ :: (P4 (K6 X w ((P8 X col is).take h) ((col + 1) % w)) (k + 1) ++ P4 (K6 X w ((P8 X col is).drop (h + 1)) ((col + 1) % w)) (k + 1 + h)):=by
 rw [K6,dif_neg (by omega),hm,hh]
 have e1 : (K6 X w ((P8 X col is).take h) ((col + 1) % w)).size = h:=by rw [A1l,List.length_take,A0V];omega
 have e2 : (K6 X w ((P8 X col is).drop (h + 1)) ((col + 1) % w)).size = m - (h + 1):=by rw [A1l,List.length_drop,A0V];omega
 show NdT.mk _ _ _ _ :: _ = _
 rw [e1,e2]
 congr 1
 ·congr 1
  by_cases h1 : m ≤ h + 1
  ·rw [if_pos h1,if_pos (by omega)]
  ·rw [if_neg h1,if_neg (by omega)]
theorem B3X (X : List (List Rat)) (w c : Nat) : K6 X w [] c = .none:=by rw [K6];rfl
structure GrS (w1 : World) (S : Nat → Prop) (b3 b5 gl D : Nat) (ls : List Int) (NA : Option Addr) (NC kk : Nat) (ns : List NdT) (u : World) : Prop where
 K : KepS S w1 u
 l : Li u (some ⟨gl,0,none⟩) ls
 gu : gl < u.heap.size
 own : u.ownsRow D 88 4 (.slice NA kk NC) kk (ns.flatMap ndL)
 len : ns.length = kk
 s5 : S b5
 g5 : gl ≠ b5
 n5 : nbk NA ≠ some b5
 n3 : nbk NA ≠ some b3
 gn : nbk NA ≠ some gl
theorem GrS.grow {w1 : World} {S : Nat → Prop} {b3 b5 gl D : Nat} {ls : List Int} {NA : Option Addr} {NC kk : Nat} {ns : List NdT} {u u' : World} (h : GrS w1 S b3 b5 gl D ls NA NC kk ns u) (hg : A3 u u') : GrS w1 S b3 b5 gl D ls NA NC kk ns u' :=
 ⟨h.K.grow hg,h.l.grow hg,Nat.lt_of_lt_of_le h.gu hg.size,C8 h.own hg,h.len,h.s5,h.g5,h.n5,h.n3,h.gn⟩
theorem A26 {S : Nat → Prop} {b : Nat} (hb : S b) : ∀ (vs : List Value) (i : Nat) (u : World),KepS S u (E6 u b i vs)
 | [],_,u=>KepS.refl S u
 | v :: vs,i,u=>(KepS.setCell u ⟨b,i,none⟩ hb v).trans (A26 hb vs (i + 1) _)
theorem GrS.put {w1 : World} {S : Nat → Prop} {b3 b5 gl D : Nat} {ls : List Int} {NA : Option Addr} {NC kk : Nat} {ns : List NdT} {u u' : World} (h : GrS w1 S b3 b5 gl D ls NA NC kk ns u) {bl : List (Nat × TypeId × Array Value)} (hB : Bx u bl) (k : Nat) {b : Nat} {t : TypeId} {cs : Array Value} (hk : bl[k]? = some (b,t,cs)) (ht : b = b5) (i : Nat) (vs : List Value) (hu : E6 u b i vs = u') : GrS w1 S b3 b5 gl D ls NA NC kk ns u':=by
 subst ht hu
 have h1 : KepS (fun k=>k = b) u (E6 u b i vs):=A26 (S:=fun k=>k = b) rfl vs i u
 exact ⟨h.K.trans (A26 h.s5 vs i u),h1.li h.l (fun e=>h.g5 e),Nat.lt_of_lt_of_le h.gu h1.size,h1.own h.own (fun x hx e=>h.n5 (by rw [hx,e])),h.len,h.s5,h.g5,h.n5,h.n3,h.gn⟩
theorem B2U (g cap n hi : Nat) (h2 : hi ≤ cap) (W : World) : (Instr.slice 22 (.slice (some ⟨g,0,none⟩) n cap) none (some (.int .i64 (hi : Nat))) none).run Tryz.prog W = .ok (.slice (some ⟨g,0,none⟩) hi cap) W:=by
 have h3 : (hi : Int) ≤ (cap : Int):=by omega
 go_simp
theorem B1f (g cap n lo : Nat) (h1 : lo ≤ n) (h2 : lo < cap) (h4 : n ≤ cap) (W : World) : (Instr.slice 22 (.slice (some ⟨g,0,none⟩) n cap) (some (.int .i64 (lo : Nat))) none none).run Tryz.prog W = .ok (.slice (some ⟨g,lo,none⟩) (n - lo) (cap - lo)) W:=by
 have h3 : (lo : Int) ≤ (n : Int):=by omega
 have h5 : ¬ (cap : Int) = (lo : Int):=by omega
 have h6 : ¬ cap = lo:=by omega
 go_simp
theorem B14 {W : World} {g off : Nat} {l : List Int} (h : Li W (some ⟨g,off,none⟩) l) (k : Nat) : Li W (some ⟨g,off,none⟩) (l.take k):=fun hne=>by
 obtain ⟨b,o,e,hb,hc⟩:=h (fun e=>hne (by rw [e];simp))
 refine ⟨b,o,e,hb,fun i q hi=>hc i q ?_⟩
 rw [List.getElem?_take] at hi
 split at hi
 ·exact hi
 ·cases hi
theorem B4Y {W : World} {g : Nat} {l : List Int} (h : Li W (some ⟨g,0,none⟩) l) (k : Nat) : Li W (some ⟨g,k,none⟩) (l.drop k):=fun hne=>by
 obtain ⟨b,o,e,hb,hc⟩:=h (fun e=>hne (by rw [e];simp))
 cases e
 refine ⟨g,k,rfl,hb,fun i q hi=>?_⟩
 rw [List.getElem?_drop] at hi
 have := hc (k + i) q hi
 rwa [Nat.zero_add] at this
theorem Z6 {P : Program} {fn : Func} {R : Ending → World → Prop} {a : Act} {w : World} (hd : a.defers = []) (hr : (results fn a.tmps).run P w = .ok (.tuple #[]) w) (h : R (.returned (.tuple #[])) w) : bodyPost P fn R .normal a w:=bodyPost_end hr hd h
theorem A4H (X : List (List Rat)) (w c i : Nat) {l : List Nat} (h : l = []) : P4 (K6 X w l c) i = []:=by rw [h,B3X];rfl
end Go.Proofs.YtjmopgepnndckaaGreatDoor
namespace Go.Proofs.YtjmopgepnndckaaGreatDoor
open Go.RowKit
theorem A1B {P : Program} {x y : Code} {Q : Exit → Act → World → Prop} {a : Act} {w : World} (h : ∀ K : Act → World → Prop,(∀ a w,y.wp P Q a w → K a w) → x.wp P (Exit.then K Q) a w) : (Code.seq x y).wp P Q a w :=
 wp_seq (h _ fun _ _ h=>h)
end Go.Proofs.YtjmopgepnndckaaGreatDoor
namespace Go.Proofs.YtjmopgepnndckaaGreatDoor
open Go Go.RowKit
end Go.Proofs.YtjmopgepnndckaaGreatDoor
namespace Go.Proofs.YtjmopgepnndckaaGreatDoor
open Go Go.RowKit Go.Shelf
theorem A8E (d : Option Tmp) (ty : TypeId) (pos : String) (af : Array Edge) (gd : Option (Nat × Bool)) : J8 Tryz.prog ⟨d,.alloc 79,ty,pos,af,gd⟩ = .cells #[.slice none 0 0,.slice none 0 0] 79:=by kernel_rfl
theorem A5Q (d : Option Tmp) (ty : TypeId) (pos : String) (af : Array Edge) (gd : Option (Nat × Bool)) : J8 Tryz.prog ⟨d,.alloc 72,ty,pos,af,gd⟩ = .cells #[.slice none 0 0,.slice none 0 0] 72:=by kernel_rfl
theorem A25 (d : Option Tmp) (ty : TypeId) (pos : String) (af : Array Edge) (gd : Option (Nat × Bool)) : J8 Tryz.prog ⟨d,.alloc 88,ty,pos,af,gd⟩ = .cells #[.int .i64 0,.int .i64 0,.int .i64 0,.int .i64 0] 88:=by kernel_rfl
theorem A2D (d : Option Tmp) (ty : TypeId) (pos : String) (af : Array Edge) (gd : Option (Nat × Bool)) : J8 Tryz.prog ⟨d,.alloc 118,ty,pos,af,gd⟩ = .cells #[.int .i64 0,.int .i64 0,.int .i64 0,.int .i64 0] 118:=by kernel_rfl
theorem B6 : ∀ t ∈ [45,47,49,79,72,88,118],K4 Tryz.prog t:=by
 intro t ht
 simp only [List.mem_cons,List.not_mem_nil,or_false] at ht
 rcases ht with rfl | rfl | rfl | rfl | rfl | rfl | rfl
 ·exact fun _ _ _ _ _ _=>by rw [I0];kernel_rfl
 ·exact fun _ _ _ _ _ _=>by rw [A0w];kernel_rfl
 ·exact fun _ _ _ _ _ _=>by rw [S6];kernel_rfl
 ·exact fun _ _ _ _ _ _=>by rw [A8E];kernel_rfl
 ·exact fun _ _ _ _ _ _=>by rw [A5Q];kernel_rfl
 ·exact fun _ _ _ _ _ _=>by rw [A25];kernel_rfl
 ·exact fun _ _ _ _ _ _=>by rw [A2D];kernel_rfl
theorem I4.kept' {B0 : Nat} {u w' : World} {B : Nat} {e : TypeId} {size n : Nat} {v : Value} {xs : List Value} {rs : List Rq} (hl : I4 B0 u rs) (h : u.ownsRow B e size v n xs) (ht : e ≠ 49) (hg : u.grownBy w' v.ownBlock) : I4 B0 w' rs:=fun r hr=>by
 have h2:=hl r hr
 refine h2.kept hg ?_
 cases hb : (V9 r).ownBlock with
 | none=>exact .inl rfl
 | some g=>exact .inr fun e1=>A2F h h2 ht g e1.symm hb
theorem B4G {u w' : World} {B B0 : Nat} {e e0 : TypeId} {size size0 n n0 : Nat} {v v0 : Value} {xs xs0 : List Value} (h0 : u.ownsRow B0 e0 size0 v0 n0 xs0) (h : u.ownsRow B e size v n xs) (ht : e ≠ e0) (hg : u.grownBy w' v.ownBlock) : w'.ownsRow B0 e0 size0 v0 n0 xs0:=by
 refine h0.kept hg ?_
 cases hb : v0.ownBlock with
 | none=>exact .inl rfl
 | some g=>exact .inr fun e1=>A2F h h0 ht g e1.symm hb
theorem I4.over {B0 b i : Nat} {u u' : World} {vs : List Value} {rs : List Rq} (hl : I4 B0 u rs) (hb : b < B0) (hu : E6 u b i vs = u') : I4 B0 u' rs:=fun r hr=>I6 (hl r hr) (fun e=>by have := ((hl r hr).lt b e).1;omega) hu
structure TreeO (B n : Nat) (R N : Ax) (rs : List Rq) (ns : List NdT) (W : World) : Prop where
 rows : I4 B W rs
 row : W.ownsRow B 35 1 (.slice R.1 n R.2) n (rs.map V9)
 nodes : W.ownsRow B 88 4 (.slice N.1 n N.2) n (ns.flatMap ndL)
theorem TreeO.grow {B n : Nat} {R N : Ax} {rs : List Rq} {ns : List NdT} {W W' : World} (h : TreeO B n R N rs ns W) (hg : A3 W W') : TreeO B n R N rs ns W':=⟨h.rows.grow hg,C8 h.row hg,C8 h.nodes hg⟩
theorem TreeO.mono {B B' n : Nat} {R N : Ax} {rs : List Rq} {ns : List NdT} {W : World} (h : TreeO B n R N rs ns W) (hb : B' ≤ B) : TreeO B' n R N rs ns W:=⟨fun r hr=>(h.rows r hr).mono hb,h.row.mono hb,h.nodes.mono hb⟩
theorem TreeO.over {B n b i : Nat} {R N : Ax} {rs : List Rq} {ns : List NdT} {W W' : World} {vs : List Value} (h : TreeO B n R N rs ns W) (hb : b < B) (hu : E6 W b i vs = W') : TreeO B n R N rs ns W' :=
 ⟨h.rows.over hb hu,I6 h.row (fun e=>by have := (h.row.lt b e).1;omega) hu,I6 h.nodes (fun e=>by have := (h.nodes.lt b e).1;omega) hu⟩
abbrev iv (l : List Int) : List Value:=l.map fun x=>Value.int .i64 x
theorem B18 {u v : World} {B n : Nat} (hB : B ≤ u.heap.size) (hn : n ≤ 1048576) (hv : u.alloc (.cells (N9 (List.replicate n 0)) 3) = v) : v.ownsRow B 3 1 (.slice (some ⟨u.heap.size,0,none⟩) n n) n (iv (List.replicate n 0)):=by
 subst hv
 have h:=World.ownsRow_lit (base:=B) (e:=3) (size:=1) u (N9 (List.replicate n 0)) n hB (by unfold maxLen;omega) (by simp [N9])
 simpa [N9] using h
end Go.Proofs.YtjmopgepnndckaaGreatDoor
namespace Go.Proofs.YtjmopgepnndckaaGreatDoor
open Go Go.RowKit
theorem B1q (X : List (List Rat)) (c a b : Nat) : (¬ leC X c b a) ↔ (ent X a c < ent X b c ∨ (ent X a c = ent X b c ∧ a < b)):=by
 unfold leC
 by_cases h1 : ent X a c < ent X b c
 ·have h2 : ¬ ent X b c < ent X a c:=by grind
  have h3 : ent X b c ≠ ent X a c:=by grind
  simp [h1,h2,h3]
 ·by_cases h2 : ent X b c < ent X a c
  ·have h3 : ent X a c ≠ ent X b c:=by grind
   simp [h1,h2,h3]
  ·have e : ent X a c = ent X b c:=by grind
   simp [e,Rat.lt_irrefl]
theorem A73 {x y : Rat} : (F1 x y < 0) ↔ x < y:=by
 unfold F1
 by_cases h1 : x < y
 ·simp [h1]
 ·by_cases h2 : y < x <;> simp [h1,h2]
theorem A3M {x y : Rat} : (F1 x y = 0) ↔ x = y:=by
 unfold F1
 by_cases h1 : x < y
 ·have : x ≠ y:=by grind
  simp [h1,this]
 ·by_cases h2 : y < x
  ·have : x ≠ y:=by grind
   simp [h1,h2,this]
  ·have : x = y:=by grind
   simp [this,Rat.lt_irrefl]
theorem B5B (A : Option Addr) (rs : List Rq) (n Lw c col a b : Nat) (hn : rs.length = n) (hrl : ∀ r ∈ rs,r.2.2.length = Lw) (ha : a < n) (hb : b < n) (hcol : col < Lw) (s : Nat) (hs : ∀ r ∈ rs,∀ x ∈ r.2.2,qs x ≤ s) (hBz : 2 * s + 1 ≤ BIG) (w : World) (h : Lrz w A rs) :
  Calls Tryz.prog 101 #[.slice A n c,.int .i64 (col : Nat),.int .i64 (a : Nat),.int .i64 (b : Nat)] w fun e w'=>e = .returned (.bool (decide (¬ leC (rs.map (·.2.2)) col b a))) ∧ A3 w w':=by
 obtain ⟨bb,ob,rfl⟩:=h.addr (by omega)
 have hrow : ∀ i,i < n → ∃ (ba oa : Nat) (cr : Nat) (p : Az),qs (ent (rs.map (·.2.2)) i col) ≤ s ∧ ∀ W,A3 w W → W.cell? ⟨bb,ob + i,none⟩ = some (.slice (some ⟨ba,oa,none⟩) Lw cr) ∧ Rz W p (ent (rs.map (·.2.2)) i col) ∧ Cz W ba (oa + col * 3) p (ent (rs.map (·.2.2)) i col):=fun i hi=>by
  have hil : i < rs.length:=by omega
  have hL:=hrl _ (List.getElem_mem hil)
  obtain ⟨h1,h2⟩:=h.read (List.getElem?_eq_getElem hil)
  obtain ⟨ba,oa,e⟩:=h2.addr (by omega)
  have er : ent (rs.map (·.2.2)) i col = gq rs[i].2.2 col:=by
   rw [A2E]
   unfold G1
   rw [List.getElem?_map,List.getElem?_eq_getElem hil]
   rfl
  rw [er]
  rw [e] at h2
  obtain ⟨p,hp⟩:=h2.read (i:=col) (by omega)
  refine ⟨ba,oa,rs[i].2.1,p,hs _ (List.getElem_mem hil) _ (T4 (by omega)),fun W hg=>?_⟩
  obtain ⟨h3,-⟩:=(h.grow hg).read (List.getElem?_eq_getElem hil)
  rw [e,hL] at h3
  exact ⟨h3,hp W hg⟩
 obtain ⟨ba,oa,ca,p,za,ra⟩:=hrow a ha
 obtain ⟨bb2,ob2,cb,q,zb,rb⟩:=hrow b hb
 obtain ⟨V,hV⟩ : ∃ V,V = decide (¬ leC (rs.map (·.2.2)) col b a):=⟨_,rfl⟩
 have hV2 : V = decide (ent (rs.map (·.2.2)) a col < ent (rs.map (·.2.2)) b col ∨ (ent (rs.map (·.2.2)) a col = ent (rs.map (·.2.2)) b col ∧ a < b)):=by
  rw [hV]
  exact decide_eq_decide.2 (B1q _ _ _ _)
 rw [← hV]
 obtain ⟨x,hx⟩ : ∃ x,x = ent (rs.map (·.2.2)) a col:=⟨_,rfl⟩
 obtain ⟨y,hy⟩ : ∃ x,x = ent (rs.map (·.2.2)) b col:=⟨_,rfl⟩
 rw [← hx] at za
 rw [← hy] at zb
 rw [← hx,← hy] at hV2
 simp only [← hx] at ra
 simp only [← hy] at rb
 have hcm:=fun W (h1 : Rz W p x) (h2 : Rz W q y)=>A1o p.1 p.2 q.1 q.2 x y W h1.a h1.b h2.a h2.b (by omega)
 have hai : (a : Int) < (n : Int):=by omega
 have hbi : (b : Int) < (n : Int):=by omega
 have hci2 : (col : Int) < (Lw : Int):=by omega
 obtain ⟨P,hP⟩ : ∃ X,X = F1 x y:=⟨_,rfl⟩
 simp only [← hP] at hcm
 have Hcm:=Lib.hid hcm
 have Ra:=Lib.hid ra
 have Rb:=Lib.hid rb
 have HP:=Lib.hid hP
 have HV:=Lib.hid hV2
 clear hcm ra rb hx hy za zb h hs hrl hn hrow hBz hV hV2 hP
 go_enter Tryz.func101,Tryz.ntmps101
 refine en0 ?_
 intro u hG hB hF
 refine wp_seq (rdC A6 [] [(0,0),(0,1),(0,2),(0,3),(0,4),(0,5),(0,6),(0,7),(0,8),(0,9),(0,10),(0,11),(0,12),(0,13),(1,14)] hB hG fun K L hN hL=>?_)
 repeat first | refine gya ?_ | refine gyr ?_ | refine gna ?_ | refine gyb (by (rintro v ⟨hgu,hB,hG,-⟩ N hN;have r:=hB.r;simp only [BxR] at r;obtain ⟨g1,-,q1,q2,q3⟩:=Ra.out v hG;obtain ⟨g2,-,y1,y2,y3⟩:=Rb.out v hG;go_simp;exact hN)) ?_
 refine gmd (C:=fun v ⟨hgu,hB,hG,_⟩=>Hcm.out _ (Ra.out _ hG).2.1 (Rb.out _ hG).2.1) ?_
 refine geC hL ?_
 clear hB hG hL L
 rintro u ⟨-,hB,hG,-⟩
 refine gtT ?_
 clear hN K
 by_cases c1 : x < y
 ·have d1 : decide (P < 0) = true:=decide_eq_true (by rw [HP.out];exact A73.2 c1)
  have hv : V = true:=by rw [HV.out];simp [c1]
  rw [hv]
  clear hv c1
  refine r0T ?_
  refine rt Tryz.results101 ?_
  exact ⟨rfl,hG⟩
 ·have d1 : decide (P < 0) = false:=decide_eq_false (by rw [HP.out];exact fun h=>c1 (A73.1 h))
  by_cases c2 : x = y
  ·have d2 : (P == 0) = true:=by rw [HP.out];simpa using A3M.2 c2
   have d2n : decide (P = 0) = true:=by rw [HP.out];simpa using A3M.2 c2
   by_cases c3 : a < b
   ·have d3 : decide ((a : Int) < (b : Int)) = true:=by simp;omega
    have d3n : decide (a < b) = true:=decide_eq_true c3
    have hv : V = true:=by rw [HV.out];simp [c2,c3]
    rw [hv]
    clear hv c1 c2 c3
    refine r0T ?_
    refine rt Tryz.results101 ?_
    exact ⟨rfl,hG⟩
   ·have d3 : decide ((a : Int) < (b : Int)) = false:=by simp;omega
    have d3n : decide (a < b) = false:=decide_eq_false c3
    have hv : V = false:=by rw [HV.out];simp [c2,c3,Rat.lt_irrefl]
    rw [hv]
    clear hv c1 c2 c3
    refine r0T ?_
    refine rt Tryz.results101 ?_
    exact ⟨rfl,hG⟩
  ·have d2 : (P == 0) = false:=by rw [HP.out];simpa using fun h=>c2 (A3M.1 h)
   have d2n : decide (P = 0) = false:=by rw [HP.out];simpa using fun h=>c2 (A3M.1 h)
   have hv : V = false:=by rw [HV.out];simp [c1,c2]
   rw [hv]
   clear hv c1 c2
   refine r0T ?_
   refine rt Tryz.results101 ?_
   exact ⟨rfl,hG⟩
abbrev nv (l : List Nat) : List Value:=l.map fun (i : Nat)=>Value.int .i64 (i : Int)
theorem A4L (l : List Nat) (k x : Nat) : (nv l).set k (.int .i64 (x : Nat)) = nv (l.set k x):=by simp [nv,List.map_set]
theorem A8t (l : List Nat) (x : Nat) : nv l ++ [.int .i64 (x : Nat)] = nv (l ++ [x]):=by simp [nv]
theorem A2Q {l : List Nat} {k : Nat} (h : k < l.length) : (nv l)[k]? = some (.int .i64 (l[k] : Nat)):=by simp [nv,h]
theorem B2J {u : World} {B g cap m : Nat} {l : List Nat} (h : u.ownsRow B 3 1 (.slice (some ⟨g,0,none⟩) m cap) m (nv l)) : Li u (some ⟨g,0,none⟩) (H8 l):=fun hne=>by
 have hl : m = l.length:=by have := h.1;simp [nv] at this;omega
 refine ⟨g,0,rfl,(h.lt g rfl).2,fun i x hx=>?_⟩
 have hil:=(List.getElem?_eq_some_iff.1 hx).1
 simp only [H8,List.length_map] at hil
 simp only [H8,List.getElem?_map,List.getElem?_eq_getElem hil,Option.map_some,Option.some.injEq] at hx
 rw [Nat.zero_add,h.cellAt i (by omega),A2Q hil,← hx]
theorem A2p {u : World} {B n k : Nat} {e : TypeId} {v : Value} {xs : List Value} (h : u.ownsRow B e k v n xs) : ∃ A c,v = .slice A n c:=by
 obtain ⟨_,h | ⟨g,cap,cur,rfl,_⟩⟩:=h
 ·exact ⟨none,0,by rw [h.1,h.2]⟩
 ·exact ⟨_,cap,rfl⟩
theorem B2s {X : List (List Rat)} {c k x : Nat} {ps is : List Nat} (hp : ps.Perm is) (hs : ps.Pairwise (leC X c)) (hk : k ≤ ps.length) (h1 : ∀ j (h : j < ps.length),k ≤ j → ¬ leC X c ps[j] x) (h2 : ∀ j (h : j < ps.length),j + 1 = k → leC X c ps[j] x) :
  (D7 ps k x).Perm (is ++ [x]) ∧ (D7 ps k x).Pairwise (leC X c):=by
 refine ⟨?_,A33 (R:=leC X c) (fun h1 h2=>A7e h1 h2) ps k x hk hs (fun j h hj=>(A5l X c ps[j] x).resolve_left (h1 j h hj)) h2⟩
 refine (A1g ps k x).trans ?_
 exact (List.Perm.cons x hp).trans (List.perm_append_singleton x is).symm
structure GrR (w1 : World) (S : Nat → Prop) (b99 gl B : Nat) (ls : List Int) (NA : Option Addr) (NC kk : Nat) (ns : List NdT) (u : World) : Prop where
 K : KepS S w1 u
 l : Li u (some ⟨gl,0,none⟩) ls
 gu : gl < u.heap.size
 own : u.ownsRow B 118 4 (.slice NA kk NC) kk (ns.flatMap ndL)
 len : ns.length = kk
 n9 : nbk NA ≠ some b99
 gn : nbk NA ≠ some gl
theorem GrR.grow {w1 : World} {S : Nat → Prop} {b99 gl B : Nat} {ls : List Int} {NA : Option Addr} {NC kk : Nat} {ns : List NdT} {u u' : World} (h : GrR w1 S b99 gl B ls NA NC kk ns u) (hg : A3 u u') : GrR w1 S b99 gl B ls NA NC kk ns u' :=
 ⟨h.K.grow hg,h.l.grow hg,Nat.lt_of_lt_of_le h.gu hg.size,C8 h.own hg,h.len,h.n9,h.gn⟩
theorem B4K : EI 70 118 4 32:=X5 (by kernel_rfl) (by kernel_rfl) (by omega)
def A4a (b99 n L : Nat) (RA : Option Addr) (RC : Nat) (X : List (List Rat)) (w0 : World) (m : Nat) : Prop :=
 ∀ (is : List Nat) (col : Nat) (A : Option Addr) (c : Nat) (ns : List NdT) (NA : Option Addr) (NC k : Nat) (w : World),is.length = m → 0 < m → (∀ x ∈ is,x < n) → col < L → k = ns.length → k + m ≤ 1000000 → A3 w0 w → Li w A (H8 is) →
  Blk w b99 72 #[.slice RA n RC,.slice NA k NC] → w.ownsRow w0.heap.size 118 4 (.slice NA k NC) k (ns.flatMap ndL) → nbk NA ≠ some b99 →
  Calls Tryz.prog 60 #[.pointer (some ⟨b99,0,none⟩),.slice A m c,.int .i64 (col : Nat)] w fun e w'=>e = .returned (.tuple #[]) ∧ ∃ (NA' : Option Addr) (NC' : Nat),
   Blk w' b99 72 #[.slice RA n RC,.slice NA' (k + m) NC'] ∧ w'.ownsRow w0.heap.size 118 4 (.slice NA' (k + m) NC') (k + m) ((ns ++ P4 (K6 X L is col) k).flatMap ndL) ∧
   KepS (fun k=>k = b99 ∨ nbk NA = some k) w w' ∧ (∀ k,nbk NA' = some k → nbk NA = some k ∨ w.heap.size ≤ k) ∧ A3 w0 w'
theorem A5N {b99 n RC B : Nat} {RA : Option Addr} {gl k m kk NC' : Nat} {lsI : List Int} {NA NA' : Option Addr} {ns ns' T : List NdT} {w0 w1 u : World} {bl : List (Nat × TypeId × Array Value)}
  (GS : GrR w1 (fun k=>(k = b99 ∨ nbk NA = some k) ∨ w1.heap.size ≤ k) b99 gl B lsI NA' NC' kk ns' u) (hB : Bx u ((b99,72,#[.slice RA n RC,.slice NA' kk NC']) :: bl)) (hkk : kk = k + m) (hns : ns' = ns ++ T) (hnb : ∀ j,nbk NA' = some j → nbk NA = some j ∨ w1.heap.size ≤ j) (hG : A3 w0 u) :
  ∃ (NA' : Option Addr) (NC' : Nat),Blk u b99 72 #[.slice RA n RC,.slice NA' (k + m) NC'] ∧ u.ownsRow B 118 4 (.slice NA' (k + m) NC') (k + m) ((ns ++ T).flatMap ndL) ∧ KepS (fun k=>k = b99 ∨ nbk NA = some k) w1 u ∧ (∀ k,nbk NA' = some k → nbk NA = some k ∨ w1.heap.size ≤ k) ∧ A3 w0 u:=by
 subst hkk hns
 exact ⟨NA',NC',hB.head,GS.own,GS.K.mono (fun j hj e=>e.elim id (fun h=>absurd h (by omega))),hnb,hG⟩
end Go.Proofs.YtjmopgepnndckaaGreatDoor
