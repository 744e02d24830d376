/- Contracts and laws. -/
import Derived.Test.YtjmopgepnndckaaGreatDoorW39
import Derived.Shelf.SlLaysF0
import Derived.Shelf.SlLaysF
import Derived.Shelf.SlLaysE0
import Derived.Shelf.SlGeneric
import Derived.Ground.SlsfProg
import Derived.Ground.SlgnProg
import Derived.Test.YtjmopgepnndckaaGreatDoorProg
import Derived.Shelf.SlSortCmp.Whole1
import Derived.Deep.RegionHeld3
import Derived.Deep.AppendLies
import Derived.Deep.CutRange
import Derived.Deep.DeepCutAuto
set_option linter.unusedSimpArgs false
set_option linter.unusedVariables false
set_option maxHeartbeats 4000000
set_option maxRecDepth 100000
namespace Go.Proofs
open Go.Shelf
end Go.Proofs
namespace Go.Proofs.YtjmopgepnndckaaGreatDoor
open Go Go.RowKit Go.Sort Go.Shelf
theorem A3S (X : List (List Rat)) (i c : Nat) : ent X i c = gq (F7 X i) c:=by unfold ent gq F7;rw [List.getD_eq_getElem?_getD]
structure GrC (b3 b5 bT : Nat) (RA : Option Addr) (RC n : Nat) (NV : Value) (col : Nat) (rs : List Rq) (W : World) : Prop where
 p3 : Blk W b3 169 #[.pointer (some ⟨bT,0,none⟩)]
 p5 : Blk W b5 3 #[.int .i64 (col : Nat)]
 pT : Blk W bT 79 #[.slice RA n RC,NV]
 rows : Lrq W RA rs
theorem GrC.grow {b3 b5 bT : Nat} {RA : Option Addr} {RC n : Nat} {NV : Value} {col : Nat} {rs : List Rq} {u u' : World} (h : GrC b3 b5 bT RA RC n NV col rs u) (hg : A3 u u') : GrC b3 b5 bT RA RC n NV col rs u':=⟨h.p3.grow hg,h.p5.grow hg,h.pT.grow hg,h.rows.grow hg⟩
abbrev I0 (l : List Nat) : List Int:=l.map fun (i : Nat)=>(i : Int)
end Go.Proofs.YtjmopgepnndckaaGreatDoor
namespace Go.Proofs.YtjmopgepnndckaaGreatDoor
open Go Go.RowKit
structure KepS (S : Nat → Prop) (u w : World) : Prop where
 os : w.os = u.os
 tape : w.tape = u.tape
 output : w.output = u.output
 size : u.heap.size ≤ w.heap.size
 block : ∀ k,k < u.heap.size → ¬ S k → w.heap[k]? = u.heap[k]?
theorem KepS.refl (S : Nat → Prop) (u : World) : KepS S u u:=⟨rfl,rfl,rfl,Nat.le_refl _,fun _ _ _=>rfl⟩
theorem KepS.trans {S : Nat → Prop} {u v w : World} (h : KepS S u v) (h' : KepS S v w) : KepS S u w :=
 ⟨h'.os.trans h.os,h'.tape.trans h.tape,h'.output.trans h.output,Nat.le_trans h.size h'.size,fun k hk hs=>(h'.block k (Nat.lt_of_lt_of_le hk h.size) hs).trans (h.block k hk hs)⟩
theorem KepS.ofGrow {S : Nat → Prop} {u w : World} (h : A3 u w) : KepS S u w:=⟨h.os,h.tape,h.output,h.size,fun k hk _=>h.block k hk⟩
theorem KepS.ofGrown {S : Nat → Prop} {u w : World} {row : Option Nat} (h : u.grownBy w row) (hr : ∀ k,row = some k → S k) : KepS S u w:=⟨h.os,h.tape,h.output,h.size,fun k hk hs=>h.block k hk (fun e=>hs (hr k e.symm))⟩
theorem KepS.mono {S S' : Nat → Prop} {u w : World} (h : KepS S u w) (hm : ∀ k,k < u.heap.size → S k → S' k) : KepS S' u w:=⟨h.os,h.tape,h.output,h.size,fun k hk hs=>h.block k hk (fun e=>hs (hm k hk e))⟩
theorem KepS.grow {S : Nat → Prop} {w0 u w : World} (h : KepS S w0 u) (hg : A3 u w) : KepS S w0 w:=h.trans (KepS.ofGrow hg)
theorem KepS.setCell {S : Nat → Prop} (u : World) (p : Addr) (hp : S p.block) (v : Value) : KepS S u (u.setCell p v) :=
 ⟨rfl,rfl,rfl,by simp [World.setCell],fun k _ hs=>Below.heap_setCell u p v k (fun e=>hs (e ▸ hp))⟩
theorem KepS.blk {S : Nat → Prop} {u w : World} {b : Nat} {t : TypeId} {cs : Array Value} (h : KepS S u w) (hb : Blk u b t cs) (hs : ¬ S b) : Blk w b t cs:=(h.block b hb.lt hs).trans hb
theorem KepS.li {S : Nat → Prop} {u w : World} {g off : Nat} {l : List Int} (h : KepS S u w) (hl : Li u (some ⟨g,off,none⟩) l) (hs : ¬ S g) : Li w (some ⟨g,off,none⟩) l:=fun hn=>by
 obtain ⟨b,o,e,hb,hc⟩:=hl hn
 cases e
 exact ⟨g,off,rfl,Nat.lt_of_lt_of_le hb h.size,fun i x hi=>(World.cell?_of_block (w:=u) (a:=⟨g,off + i,none⟩) (h.block g hb hs)).trans (hc i x hi)⟩
def nbk (A : Option Addr) : Option Nat:=A.map (·.block)
theorem A1W (A : Option Addr) (n c : Nat) : (Value.slice A n c).ownBlock = nbk A:=by cases A <;> rfl
theorem KepS.own {S : Nat → Prop} {u w : World} {B n c k : Nat} {e : TypeId} {A : Option Addr} {xs : List Value} (h : KepS S u w) (ho : u.ownsRow B e k (.slice A n c) n xs) (hs : ∀ b,nbk A = some b → ¬ S b) : w.ownsRow B e k (.slice A n c) n xs:=by
 obtain ⟨h0,h1 | ⟨g,cap,cur,e1,hb,hh,hn,hc,hz,ht⟩⟩:=ho
 ·exact ⟨h0,.inl h1⟩
 ·refine ⟨h0,.inr ⟨g,cap,cur,e1,hb,(h.block g (N0 hh) (hs g ?_)).trans hh,hn,hc,hz,ht⟩⟩
  cases e1
  rfl
abbrev ndL (x : NdT) : List Value:=[.int .i64 x.r,.int .i64 x.c,.int .i64 x.l,.int .i64 x.t]
theorem A5H : ∀ (l : List NdT) (k : Nat) (v : Int) (hk : k < l.length),(l.flatMap ndL).set (k * 4 + 2) (.int .i64 v) = (l.set k ⟨l[k].r,l[k].c,v,l[k].t⟩).flatMap ndL
 | x :: l,0,v,_=>rfl
 | x :: l,k + 1,v,hk=>by
  have := A5H l k v (by simpa using hk)
  rw [show (k + 1) * 4 + 2 = k * 4 + 2 + 4 by omega]
  show _ :: _ :: _ :: _ :: (l.flatMap ndL).set (k * 4 + 2) _ = _
  rw [this]
  rfl
theorem A7a : ∀ (l : List NdT) (k : Nat) (v : Int) (hk : k < l.length),(l.flatMap ndL).set (k * 4 + 3) (.int .i64 v) = (l.set k ⟨l[k].r,l[k].c,l[k].l,v⟩).flatMap ndL
 | x :: l,0,v,_=>rfl
 | x :: l,k + 1,v,hk=>by
  have := A7a l k v (by simpa using hk)
  rw [show (k + 1) * 4 + 3 = k * 4 + 3 + 4 by omega]
  show _ :: _ :: _ :: _ :: (l.flatMap ndL).set (k * 4 + 3) _ = _
  rw [this]
  rfl
theorem A92 (X : List (List Rat)) (w col k m h : Nat) (is : List Nat) (hm : is.length = m) (hm0 : 0 < m) (hh : m / 2 = h) :
  E8 (F6 X w is col) k = ⟨((J5 X col is).getD h 0 : Nat),(col : Nat),if h = 0 then 0 else (k + 1 : Nat),if m ≤ h + 1 then 0 else (k + 1 + h : Nat)⟩ :: (E8 (F6 X w ((J5 X col is).take h) ((col + 1) % w)) (k + 1) ++ E8 (F6 X w ((J5 X col is).drop (h + 1)) ((col + 1) % w)) (k + 1 + h)):=by
 rw [F6,dif_neg (by omega),hm,hh]
 have e1 : (F6 X w ((J5 X col is).take h) ((col + 1) % w)).size = h:=by rw [A18,List.length_take,S8];omega
 have e2 : (F6 X w ((J5 X col is).drop (h + 1)) ((col + 1) % w)).size = m - (h + 1):=by rw [A18,List.length_drop,S8];omega
 show NdT.mk _ _ _ _ :: _ = _
 rw [e1,e2]
 congr 1
 ·congr 1
  by_cases h1 : m ≤ h + 1
  ·rw [if_pos h1,if_pos (by omega)]
  ·rw [if_neg h1,if_neg (by omega)]
theorem B31 (X : List (List Rat)) (w c : Nat) : F6 X w [] c = .none:=by rw [F6];rfl
structure GrS (w1 : World) (S : Nat → Prop) (b3 b5 gl D : Nat) (ls : List Int) (NA : Option Addr) (NC kk : Nat) (ns : List NdT) (u : World) : Prop where
 K : KepS S w1 u
 l : Li u (some ⟨gl,0,none⟩) ls
 gu : gl < u.heap.size
 own : u.ownsRow D 88 4 (.slice NA kk NC) kk (ns.flatMap ndL)
 len : ns.length = kk
 s5 : S b5
 g5 : gl ≠ b5
 n5 : nbk NA ≠ some b5
 n3 : nbk NA ≠ some b3
 gn : nbk NA ≠ some gl
theorem GrS.grow {w1 : World} {S : Nat → Prop} {b3 b5 gl D : Nat} {ls : List Int} {NA : Option Addr} {NC kk : Nat} {ns : List NdT} {u u' : World} (h : GrS w1 S b3 b5 gl D ls NA NC kk ns u) (hg : A3 u u') : GrS w1 S b3 b5 gl D ls NA NC kk ns u' :=
 ⟨h.K.grow hg,h.l.grow hg,Nat.lt_of_lt_of_le h.gu hg.size,D3 h.own hg,h.len,h.s5,h.g5,h.n5,h.n3,h.gn⟩
theorem A3O {S : Nat → Prop} {b : Nat} (hb : S b) : ∀ (vs : List Value) (i : Nat) (u : World),KepS S u (E0 u b i vs)
 | [],_,u=>KepS.refl S u
 | v :: vs,i,u=>(KepS.setCell u ⟨b,i,none⟩ hb v).trans (A3O hb vs (i + 1) _)
theorem GrS.put {w1 : World} {S : Nat → Prop} {b3 b5 gl D : Nat} {ls : List Int} {NA : Option Addr} {NC kk : Nat} {ns : List NdT} {u u' : World} (h : GrS w1 S b3 b5 gl D ls NA NC kk ns u) {bl : List (Nat × TypeId × Array Value)} (hB : Bx u bl) (k : Nat) {b : Nat} {t : TypeId} {cs : Array Value} (hk : bl[k]? = some (b,t,cs)) (ht : b = b5) (i : Nat) (vs : List Value) (hu : E0 u b i vs = u') : GrS w1 S b3 b5 gl D ls NA NC kk ns u':=by
 subst ht hu
 have h1 : KepS (fun k=>k = b) u (E0 u b i vs):=A3O (S:=fun k=>k = b) rfl vs i u
 exact ⟨h.K.trans (A3O h.s5 vs i u),h1.li h.l (fun e=>h.g5 e),Nat.lt_of_lt_of_le h.gu h1.size,h1.own h.own (fun x hx e=>h.n5 (by rw [hx,e])),h.len,h.s5,h.g5,h.n5,h.n3,h.gn⟩
theorem B3f (g cap n hi : Nat) (h2 : hi ≤ cap) (W : World) : (Instr.slice 22 (.slice (some ⟨g,0,none⟩) n cap) none (some (.int .i64 (hi : Nat))) none).run Tryz.prog W = .ok (.slice (some ⟨g,0,none⟩) hi cap) W:=by
 have h3 : (hi : Int) ≤ (cap : Int):=by omega
 go_simp
theorem B0o (g cap n lo : Nat) (h1 : lo ≤ n) (h2 : lo < cap) (h4 : n ≤ cap) (W : World) : (Instr.slice 22 (.slice (some ⟨g,0,none⟩) n cap) (some (.int .i64 (lo : Nat))) none none).run Tryz.prog W = .ok (.slice (some ⟨g,lo,none⟩) (n - lo) (cap - lo)) W:=by
 have h3 : (lo : Int) ≤ (n : Int):=by omega
 have h5 : ¬ (cap : Int) = (lo : Int):=by omega
 have h6 : ¬ cap = lo:=by omega
 go_simp
theorem B13 {W : World} {g off : Nat} {l : List Int} (h : Li W (some ⟨g,off,none⟩) l) (k : Nat) : Li W (some ⟨g,off,none⟩) (l.take k):=fun hne=>by
 obtain ⟨b,o,e,hb,hc⟩:=h (fun e=>hne (by rw [e];simp))
 refine ⟨b,o,e,hb,fun i q hi=>hc i q ?_⟩
 rw [List.getElem?_take] at hi
 split at hi
 ·exact hi
 ·cases hi
theorem A89 {W : World} {g : Nat} {l : List Int} (h : Li W (some ⟨g,0,none⟩) l) (k : Nat) : Li W (some ⟨g,k,none⟩) (l.drop k):=fun hne=>by
 obtain ⟨b,o,e,hb,hc⟩:=h (fun e=>hne (by rw [e];simp))
 cases e
 refine ⟨g,k,rfl,hb,fun i q hi=>?_⟩
 rw [List.getElem?_drop] at hi
 have := hc (k + i) q hi
 rwa [Nat.zero_add] at this
theorem A0D {P : Program} {fn : Func} {R : Ending → World → Prop} {a : Act} {w : World} (hd : a.defers = []) (hr : (results fn a.tmps).run P w = .ok (.tuple #[]) w) (h : R (.returned (.tuple #[])) w) : bodyPost P fn R .normal a w:=bodyPost_end hr hd h
theorem A4W (X : List (List Rat)) (w c i : Nat) {l : List Nat} (h : l = []) : E8 (F6 X w l c) i = []:=by rw [h,B31];rfl
end Go.Proofs.YtjmopgepnndckaaGreatDoor
namespace Go.Proofs.YtjmopgepnndckaaGreatDoor
open Go.RowKit
theorem A2D {P : Program} {x y : Code} {Q : Exit → Act → World → Prop} {a : Act} {w : World} (h : ∀ K : Act → World → Prop,(∀ a w,y.wp P Q a w → K a w) → x.wp P (Exit.then K Q) a w) : (Code.seq x y).wp P Q a w :=
 wp_seq (h _ fun _ _ h=>h)
end Go.Proofs.YtjmopgepnndckaaGreatDoor
namespace Go.Proofs.YtjmopgepnndckaaGreatDoor
open Go Go.RowKit
end Go.Proofs.YtjmopgepnndckaaGreatDoor
namespace Go.Proofs.YtjmopgepnndckaaGreatDoor
open Go Go.RowKit Go.Shelf
theorem A2i (d : Option Tmp) (ty : TypeId) (pos : String) (af : Array Edge) (gd : Option (Nat × Bool)) : K5 Tryz.prog ⟨d,.alloc 79,ty,pos,af,gd⟩ = .cells #[.slice none 0 0,.slice none 0 0] 79:=by kernel_rfl
theorem A7q (d : Option Tmp) (ty : TypeId) (pos : String) (af : Array Edge) (gd : Option (Nat × Bool)) : K5 Tryz.prog ⟨d,.alloc 72,ty,pos,af,gd⟩ = .cells #[.slice none 0 0,.slice none 0 0] 72:=by kernel_rfl
theorem A2r (d : Option Tmp) (ty : TypeId) (pos : String) (af : Array Edge) (gd : Option (Nat × Bool)) : K5 Tryz.prog ⟨d,.alloc 88,ty,pos,af,gd⟩ = .cells #[.int .i64 0,.int .i64 0,.int .i64 0,.int .i64 0] 88:=by kernel_rfl
theorem A5y (d : Option Tmp) (ty : TypeId) (pos : String) (af : Array Edge) (gd : Option (Nat × Bool)) : K5 Tryz.prog ⟨d,.alloc 118,ty,pos,af,gd⟩ = .cells #[.int .i64 0,.int .i64 0,.int .i64 0,.int .i64 0] 118:=by kernel_rfl
theorem F2 : ∀ t ∈ [45,47,49,79,72,88,118],K3 Tryz.prog t:=by
 intro t ht
 simp only [List.mem_cons,List.not_mem_nil,or_false] at ht
 rcases ht with rfl | rfl | rfl | rfl | rfl | rfl | rfl
 ·exact fun _ _ _ _ _ _=>by rw [I3];kernel_rfl
 ·exact fun _ _ _ _ _ _=>by rw [A08];kernel_rfl
 ·exact fun _ _ _ _ _ _=>by rw [Q8];kernel_rfl
 ·exact fun _ _ _ _ _ _=>by rw [A2i];kernel_rfl
 ·exact fun _ _ _ _ _ _=>by rw [A7q];kernel_rfl
 ·exact fun _ _ _ _ _ _=>by rw [A2r];kernel_rfl
 ·exact fun _ _ _ _ _ _=>by rw [A5y];kernel_rfl
theorem I8.kept' {B0 : Nat} {u w' : World} {B : Nat} {e : TypeId} {size n : Nat} {v : Value} {xs : List Value} {rs : List Rq} (hl : I8 B0 u rs) (h : u.ownsRow B e size v n xs) (ht : e ≠ 49) (hg : u.grownBy w' v.ownBlock) : I8 B0 w' rs:=fun r hr=>by
 have h2:=hl r hr
 refine h2.kept hg ?_
 cases hb : (V5 r).ownBlock with
 | none=>exact .inl rfl
 | some g=>exact .inr fun e1=>A2M h h2 ht g e1.symm hb
theorem B5d {u w' : World} {B B0 : Nat} {e e0 : TypeId} {size size0 n n0 : Nat} {v v0 : Value} {xs xs0 : List Value} (h0 : u.ownsRow B0 e0 size0 v0 n0 xs0) (h : u.ownsRow B e size v n xs) (ht : e ≠ e0) (hg : u.grownBy w' v.ownBlock) : w'.ownsRow B0 e0 size0 v0 n0 xs0:=by
 refine h0.kept hg ?_
 cases hb : v0.ownBlock with
 | none=>exact .inl rfl
 | some g=>exact .inr fun e1=>A2M h h0 ht g e1.symm hb
theorem I8.over {B0 b i : Nat} {u u' : World} {vs : List Value} {rs : List Rq} (hl : I8 B0 u rs) (hb : b < B0) (hu : E0 u b i vs = u') : I8 B0 u' rs:=fun r hr=>W8 (hl r hr) (fun e=>by have := ((hl r hr).lt b e).1;omega) hu
structure TreeO (B n : Nat) (R N : Ax) (rs : List Rq) (ns : List NdT) (W : World) : Prop where
 rows : I8 B W rs
 row : W.ownsRow B 35 1 (.slice R.1 n R.2) n (rs.map V5)
 nodes : W.ownsRow B 88 4 (.slice N.1 n N.2) n (ns.flatMap ndL)
theorem TreeO.grow {B n : Nat} {R N : Ax} {rs : List Rq} {ns : List NdT} {W W' : World} (h : TreeO B n R N rs ns W) (hg : A3 W W') : TreeO B n R N rs ns W':=⟨h.rows.grow hg,D3 h.row hg,D3 h.nodes hg⟩
theorem TreeO.mono {B B' n : Nat} {R N : Ax} {rs : List Rq} {ns : List NdT} {W : World} (h : TreeO B n R N rs ns W) (hb : B' ≤ B) : TreeO B' n R N rs ns W:=⟨fun r hr=>(h.rows r hr).mono hb,h.row.mono hb,h.nodes.mono hb⟩
theorem TreeO.over {B n b i : Nat} {R N : Ax} {rs : List Rq} {ns : List NdT} {W W' : World} {vs : List Value} (h : TreeO B n R N rs ns W) (hb : b < B) (hu : E0 W b i vs = W') : TreeO B n R N rs ns W' :=
 ⟨h.rows.over hb hu,W8 h.row (fun e=>by have := (h.row.lt b e).1;omega) hu,W8 h.nodes (fun e=>by have := (h.nodes.lt b e).1;omega) hu⟩
abbrev iv (l : List Int) : List Value:=l.map fun x=>Value.int .i64 x
end Go.Proofs.YtjmopgepnndckaaGreatDoor
namespace Go.Proofs.YtjmopgepnndckaaGreatDoor
end Go.Proofs.YtjmopgepnndckaaGreatDoor
namespace Go.Proofs.YtjmopgepnndckaaGreatDoor
open Go Go.RowKit
def Le {α : Type} (enc : α → List Value) (k : Nat) (u : World) (A : Option Addr) (l : List α) : Prop :=
 l ≠ [] → ∃ b off,A = some ⟨b,off,none⟩ ∧ b < u.heap.size ∧ ∀ i x,l[i]? = some x → ∀ j v,(enc x)[j]? = some v → u.cell? ⟨b,off + i * k + j,none⟩ = some v
theorem Le.grow {α : Type} {enc : α → List Value} {k : Nat} {u u' : World} {A : Option Addr} {l : List α} (h : Le enc k u A l) (hg : A3 u u') : Le enc k u' A l:=fun hn=>by
 obtain ⟨b,off,e,hb,hc⟩:=h hn
 exact ⟨b,off,e,Nat.lt_of_lt_of_le hb hg.size,fun i q hi j v hj=>(hg.cell (p:=⟨b,off + i * k + j,none⟩) hb).trans (hc i q hi j v hj)⟩
theorem A4g {α : Type} {enc : α → List Value} {k : Nat} (he : ∀ x,(enc x).length = k) (hk : 0 < k) {u : World} {B n : Nat} {e : TypeId} {v : Value} {l : List α} (h : u.ownsRow B e k v n (l.flatMap enc)) : ∃ A c,v = .slice A n c ∧ n ≤ c ∧ Le enc k u A l ∧ n = l.length:=by
 have hn : n = l.length:=by
  have h1:=h.1
  rw [U5 he] at h1
  exact (Nat.eq_of_mul_eq_mul_right hk h1).symm
 obtain ⟨_,h | ⟨g,cap,cur,rfl,hb,hh,hn',hc,hs,ht⟩⟩:=h
 ·obtain ⟨rfl,h0⟩:=h
  exact ⟨none,0,by rw [h0],by omega,fun hne=>absurd (List.eq_nil_of_length_eq_zero (l:=l) (by omega)) hne,hn⟩
 ·refine ⟨_,cap,rfl,hn',fun _=>⟨g,0,rfl,N0 hh,fun i q hi j v hj=>?_⟩,hn⟩
  have hil : i < l.length:=(List.getElem?_eq_some_iff.1 hi).1
  have er : l[i] = q:=by rw [List.getElem?_eq_getElem hil] at hi;exact Option.some.inj hi
  have hjl : j < k:=by have := (List.getElem?_eq_some_iff.1 hj).1;rw [he] at this;exact this
  rw [cell_of_row u g _ cur e (0,0) hh,Nat.zero_add]
  have h1 : (cur.toList.take (n * k))[i * k + j]? = some v:=by rw [ht,A24 he l i j hil hjl,er,hj]
  have hlt : i * k + j < n * k:=by
   have : i * k + k ≤ l.length * k:=by rw [← Nat.succ_mul];exact Nat.mul_le_mul_right _ hil
   rw [hn];omega
  rw [List.getElem?_take,if_pos hlt] at h1
  simpa using h1
theorem Le.at {α : Type} {enc : α → List Value} {k : Nat} {u : World} {A : Option Addr} {l : List α} (h : Le enc k u A l) {i : Nat} (hi : i < l.length) : ∃ b off,A = some ⟨b,off,none⟩ ∧ ∀ W,A3 u W → ∀ j v,(enc l[i])[j]? = some v → W.cell? ⟨b,off + i * k + j,none⟩ = some v:=by
 obtain ⟨b,off,e,hb,hc⟩:=h (fun e=>by rw [e] at hi;simp at hi)
 exact ⟨b,off,e,fun W hg j v hj=>(hg.cell (p:=⟨b,off + i * k + j,none⟩) hb).trans (hc i _ (List.getElem?_eq_getElem hi) j v hj)⟩
theorem A3r : ∀ s : Sh,s.deep ≤ s.size
 | .no=>Nat.le_refl _
 | .nd a b=>by
  have h1:=A3r a
  have h2:=A3r b
  rw [Sh.deep_nd]
  show _ ≤ a.size + b.size + 1
  unfold Sh.under
  split <;> split <;> omega
theorem A6l {ns : List NdT} {f i e d : Nat} (h : G9 ns f i = some (e,d)) : e ≤ ns.length ∧ d ≤ ns.length:=by
 obtain ⟨s,h1,h2,h3,h4,h5⟩:=A1e ns f i e d h
 have := A3r s
 exact ⟨h5,by omega⟩
theorem B4O {ns : List NdT} {i : Nat} (h : ns.length ≤ i) : ∀ f,G9 ns f i = none
 | 0=>rfl
 | f + 1=>by
  unfold G9
  rw [List.getElem?_eq_none h]
def J3 (o : Option (Nat × Nat)) : Nat:=(o.map (·.1)).getD 0
def V7 (o : Option (Nat × Nat)) : Nat:=(o.map (·.2)).getD 0
def A1l (e : Nat → Option (Nat × Nat)) (l t : Int) : Nat → Nat × Nat → Option (Nat × Nat)
 | 0,p=>(I9 e l p).bind fun s=>I9 e t s
 | 1,p=>I9 e t p
 | _,p=>some p
theorem B5t (e : Nat → Option (Nat × Nat)) (l t : Int) {j : Nat} (hj : j < 2) (p : Nat × Nat) : A1l e l t j p = (I9 e (if j = 0 then l else t) p).bind fun s=>A1l e l t (j + 1) s:=by
 rcases (show j = 0 ∨ j = 1 by omega) with rfl | rfl
 ·rfl
 ·show I9 e t p = _
  simp only [Nat.succ_ne_zero,if_false]
  cases I9 e t p <;> rfl
theorem B4x (e : Nat → Option (Nat × Nat)) (p : Nat × Nat) : I9 e 0 p = some p:=by unfold I9;simp
theorem B5y {e : Nat → Option (Nat × Nat)} {c : Int} {p : Nat × Nat} (h0 : c ≠ 0) (h : c ≠ (p.1 : Int)) : I9 e c p = none:=by unfold I9;rw [if_neg h0,if_pos h]
theorem B1l {e : Nat → Option (Nat × Nat)} {c : Int} {p : Nat × Nat} (h0 : c ≠ 0) (h : c = (p.1 : Int)) (he : e p.1 = none) : I9 e c p = none:=by unfold I9;rw [if_neg h0,if_neg (by simp [h]),he]
theorem B5h {e : Nat → Option (Nat × Nat)} {c : Int} {p q : Nat × Nat} (h0 : c ≠ 0) (h : c = (p.1 : Int)) (he : e p.1 = some q) : I9 e c p = some (q.1,max p.2 (q.2 + 1)):=by unfold I9;rw [if_neg h0,if_neg (by simp [h]),he]
theorem B3b (a b : Int) (k : Nat) (hk : k < 2) (W : World) : (Instr.index 168 (.agg #[.int .i64 a,.int .i64 b]) (.int .i64 (k : Nat))).run Tryz.prog W = .ok (.int .i64 (if k = 0 then a else b)) W:=by
 rcases (show k = 0 ∨ k = 1 by omega) with rfl | rfl <;> kernel_rfl
abbrev I6 (R : Ax) (n : Nat) (N : Ax) (m : Nat) : Value:=.agg #[.slice R.1 n R.2,.slice N.1 m N.2]
theorem B1r (R N : Ax) (n m : Nat) (ns : List NdT) (hm : ns.length = m) (hm2 : m ≤ 100000) (w0 : World) (h : Le ndL 4 w0 N.1 ns) :
  ∀ (f i : Nat) (w : World),A3 w0 w → i ≤ 100000 → m < f + i → Calls Tryz.prog 64 #[I6 R n N m,.int .i64 (i : Nat)] w fun e w'=>e = .returned (.tuple #[.int .i64 (J3 (G9 ns f i) : Nat),.int .i64 (V7 (G9 ns f i) : Nat),.bool (G9 ns f i).isSome]) ∧ A3 w w':=by
 intro f
 induction f with
 | zero =>
  intro i w hg hi hf
  have hmi : decide ((m : Int) ≤ (i : Int)) = true:=by simp;omega
  have hmin : decide (m ≤ i) = true:=by simp;omega
  clear h hg
  show Calls Tryz.prog 64 #[I6 R n N m,.int .i64 (i : Nat)] w fun e w'=>e = .returned (.tuple #[.int .i64 (0 : Nat),.int .i64 (0 : Nat),.bool false]) ∧ A3 w w'
  obtain ⟨RA,RC⟩:=R
  obtain ⟨NA,NC⟩:=N
  go_enter Tryz.func64,Tryz.ntmps64
  refine en1 ?_
  intro u hG b2 hB hF
  refine wp_seq ?_
  refine r0T ?_
  refine wp_cond_true (rfl) ?_
  refine r0T ?_
  refine rt Tryz.results64 ?_
  exact ⟨rfl,hG⟩
 | succ f ih =>
  intro i w hg hi hf
  rcases Nat.lt_or_ge i m with him | him
  ·have hil : i < ns.length:=by omega
   obtain ⟨bN,oN,hNe,hnd⟩:=(h.grow hg).at hil
   obtain ⟨nd,hndE⟩ : ∃ x,x = ns[i]:=⟨_,rfl⟩
   rw [← hndE] at hnd
   have hV : G9 ns (f + 1) i = A1l (G9 ns f) nd.l nd.t 0 (i + 1,0):=by
    show (match ns[i]? with | none=>none | some n=>(I9 (G9 ns f) n.l (i + 1,0)).bind fun s=>I9 (G9 ns f) n.t s) = _
    rw [List.getElem?_eq_getElem hil,← hndE]
    rfl
   rw [hV]
   have hrd : ∀ W,A3 w W → W.cell? ⟨bN,oN + i * 4 + 2,none⟩ = some (.int .i64 nd.l) ∧ W.cell? ⟨bN,oN + i * 4 + 3,none⟩ = some (.int .i64 nd.t):=fun W hg=>⟨hnd W hg 2 _ rfl,hnd W hg 3 _ rfl⟩
   have hcl : ∀ (k : Nat) (W : World),A3 w W → i < k → k ≤ m → Calls Tryz.prog 64 #[I6 R n N m,.int .i64 (k : Nat)] W fun e w'=>e = .returned (.tuple #[.int .i64 (J3 (G9 ns f k) : Nat),.int .i64 (V7 (G9 ns f k) : Nat),.bool (G9 ns f k).isSome]) ∧ A3 W w':=fun k W hgW h1 h2=>ih k W (hg.trans hgW) (by omega) (by omega)
   have hle : ∀ k q,G9 ns f k = some q → i < k → k < q.1 ∧ q.1 ≤ m ∧ q.2 ≤ m:=fun k q hq hk=>by
    have h1:=A6l (e:=q.1) (d:=q.2) hq
    obtain ⟨s,g1,g2,g3,g4,g5⟩:=A1e ns f k q.1 q.2 hq
    omega
   obtain ⟨E,hE⟩ : ∃ E,E = G9 ns f:=⟨_,rfl⟩
   simp only [← hE] at hcl hle ⊢
   obtain ⟨cl,hcle⟩ : ∃ x,x = nd.l:=⟨_,rfl⟩
   obtain ⟨ct,hcte⟩ : ∃ x,x = nd.t:=⟨_,rfl⟩
   rw [← hcle,← hcte] at hrd ⊢
   obtain ⟨V,hVe⟩ : ∃ V,V = A1l E cl ct 0 (i + 1,0):=⟨_,rfl⟩
   rw [← hVe]
   have hmi : decide ((m : Int) ≤ (i : Int)) = false:=by simp;omega
   have hmin : decide (m ≤ i) = false:=by simp;omega
   have himi : (i : Int) < (m : Int):=by omega
   have fi1 : IntKind.i64.wrap ((i : Int) + 1) = ((i + 1 : Nat) : Int):=by rw [IntWalk.i64_in _ (by omega)];omega
   obtain ⟨i1,hi1⟩ : ∃ x,x = i + 1:=⟨_,rfl⟩
   rw [← hi1] at fi1 hVe
   have hii1 : i < i1:=by omega
   have hi1m : i1 ≤ m:=by omega
   have Hrd:=Lib.hid hrd
   have Hcl:=Lib.hid hcl
   have Hle:=Lib.hid hle
   have HVe:=Lib.hid hVe
   have Hm1:=Lib.hid hi1m
   clear hrd hcl hle hVe hV hE hcle hcte hndE hnd ih h hil hi hf hg hm hi1 hi1m
   obtain ⟨RA,RC⟩:=R
   obtain ⟨NA,NC⟩:=N
   simp only at hNe
   subst hNe
   go_enter Tryz.func64,Tryz.ntmps64
   refine en1 ?_
   intro u hG b2 hB hF
   refine wp_seq ?_
   refine r0T ?_
   refine wp_cond_false (rfl) ?_
   refine wp_skip ?_
   refine A4 ?_
   refine r0T ?_
   refine wp_seq ?_
   refine wp_seq ?_
   obtain ⟨c2,c3⟩:=Hrd.out u hG
   refine Code.wp_mono NoP.up ?_
   have r:=hB.r
   simp only [BxR] at r
   go_region
   clear r
   replace hB:=hB.grow (A3.drew u)
   replace hG:=hG.trans (A3.drew u)
   obtain ⟨u,rfl⟩ : ∃ x,x = u.drew:=⟨_,rfl⟩
   refine NoP.norm ?_
   clear c2 c3
   refine A4 ?_
   refine wp_block ?_
   go_loopw [32,4,5] (fun s0 s1 s2 wr=>∃ (j : Nat) (p : Nat × Nat),j ≤ 2 ∧ s0 = .int .i64 j ∧ s1 = .int .i64 (p.1 : Nat) ∧ s2 = .int .i64 (p.2 : Nat) ∧ i < p.1 ∧ p.1 ≤ m ∧ p.2 ≤ m + 1 ∧ V = A1l E cl ct j p ∧ Bx wr [(b2,79,#[.slice RA n RC,.slice (some ⟨bN,oN,none⟩) m NC])] ∧ A3 w wr) (fun s0 _ _ _=>2 - (intOf s0).toNat)
   case atStart=>exact ⟨0,(i1,0),by omega,rfl,rfl,rfl,hii1,Hm1.out,by omega,HVe.out,hB,hG⟩
   case round =>
    clear hB hG HVe
    obtain ⟨j,⟨p1,p2⟩,hj,rfl,rfl,rfl,hp0,hp1,hp2,hV,hB,hG⟩:=hrel
    simp only at hp0 hp1 hp2
    obtain ⟨u,rfl⟩ : ∃ x,x = wr:=⟨_,rfl⟩
    rcases Nat.lt_or_ge j 2 with hlt | hge
    ·have hdec : decide ((j : Int) < 2) = true:=by simp;omega
     have hdecn : decide (j < 2) = true:=by simp;omega
     have hix:=fun W=>B3b cl ct j hlt W
     rw [B5t E cl ct hlt] at hV
     obtain ⟨ch,hch⟩ : ∃ x,x = if j = 0 then cl else ct:=⟨_,rfl⟩
     rw [← hch] at hV
     simp only [← hch] at hix
     clear hch
     by_cases h0 : ch = 0
     ·have f0 : (ch == 0) = true:=by simp [h0]
      have f0d : decide (ch = 0) = true:=by simp [h0]
      rw [h0,B4x] at hV
      have HV:=Lib.hid hV
      clear hV h0
      refine r0T ?_
      refine wp_seq ?_
      refine wp_cond_true (rfl) ?_
      refine wp_skip ?_
      refine A4 ?_
      refine wp_seq ?_
      refine wp_block ?_
      refine r0T ?_
      refine wp_seq ?_
      refine r0T ?_
      refine wp_cond_true (rfl) ?_
      refine wp_exit ?_
      refine B1 ?_
      refine E3 ?_
      refine A4 ?_
      refine r0E ?_
      refine A4 ?_
      go_roundw
      case rel=>exact ⟨j + 1,(p1,p2),by omega,by go_num,rfl,rfl,hp0,hp1,hp2,HV.out,hB,hG⟩
      case measure=>simp [intOf];omega
     ·have f0 : (ch == 0) = false:=by simp [h0]
      have f0d : decide (ch = 0) = false:=by simp [h0]
      by_cases h1 : ch = (p1 : Int)
      ·have f1 : (ch != (p1 : Int)) = false:=by simp [h1]
       have f1d : decide (ch = (p1 : Int)) = true:=by simp [h1]
       have hc:=fun W hg=>Hcl.out p1 W hg hp0 hp1
       rw [← h1] at hc
       cases hq : E p1 with
       | none =>
        rw [B1l h0 h1 hq] at hV
        simp only [hq,J3,V7,Option.map_none,Option.getD_none,Option.isSome_none] at hc
        have HV:=Lib.hid hV
        have Hc:=Lib.hid hc
        clear hV h0 h1 hq hc
        refine r0T ?_
        refine wp_seq ?_
        refine wp_cond_true (rfl) ?_
        refine wp_skip ?_
        refine A4 ?_
        refine wp_seq ?_
        refine wp_block ?_
        refine r0T ?_
        refine wp_seq ?_
        refine r0T ?_
        refine wp_cond_false (rfl) ?_
        refine wp_skip ?_
        refine A4 ?_
        refine wp_seq ?_
        refine r0T ?_
        refine wp_cond_false (rfl) ?_
        refine wp_skip ?_
        refine A4 ?_
        refine wp_seq (rsE A5 [0,0,1,0,0,0,0,0,0,0] hB hG fun L hL=>?_)
        refine gs ?_
        refine gmd (C:=fun v ⟨hgu,hB,hG,_⟩=>Hc.out _ hG) ?_
        refine gs ?_
        refine geT hL ?_
        clear hB hG hL L
        rintro u ⟨-,hB,hG,-⟩
        refine wp_seq ?_
        refine r0T ?_
        refine wp_cond_true (rfl) ?_
        refine r0T ?_
        refine rt Tryz.results64 ?_
        exact ⟨by rw [HV.out];rfl,hG⟩
       | some q =>
        rw [B5h h0 h1 hq] at hV
        simp only [hq,J3,V7,Option.map_some,Option.getD_some,Option.isSome_some] at hc
        obtain ⟨l1,l2,l3⟩:=Hle.out p1 q hq hp0
        obtain ⟨q1,q2⟩:=q
        simp only at l1 l2 l3 hV
        have fq : IntKind.i64.wrap ((q2 : Int) + 1) = ((q2 + 1 : Nat) : Int):=by rw [IntWalk.i64_in _ (by omega)];omega
        obtain ⟨q3,hq3⟩ : ∃ x,x = q2 + 1:=⟨_,rfl⟩
        have hq3m : q3 ≤ m + 1:=by omega
        obtain ⟨mx,hmx⟩ : ∃ x,x = max p2 q3:=⟨_,rfl⟩
        have fmx : max (p2 : Int) (q3 : Int) = (mx : Int):=by omega
        have hmxm : mx ≤ m + 1:=by omega
        rw [← hq3] at fq hV
        rw [← hmx] at hV
        have HV:=Lib.hid hV
        have Hc:=Lib.hid hc
        have L1:=Lib.hid (show i < q1 by omega)
        clear hV h0 h1 hq hc hq3 hmx l1 hp0
        refine r0T ?_
        refine wp_seq ?_
        refine wp_cond_true (rfl) ?_
        refine wp_skip ?_
        refine A4 ?_
        refine wp_seq ?_
        refine wp_block ?_
        refine r0T ?_
        refine wp_seq ?_
        refine r0T ?_
        refine wp_cond_false (rfl) ?_
        refine wp_skip ?_
        refine A4 ?_
        refine wp_seq ?_
        refine r0T ?_
        refine wp_cond_false (rfl) ?_
        refine wp_skip ?_
        refine A4 ?_
        refine wp_seq (rsE A5 [0,0,1,0,0,0,0,0,0,0] hB hG fun L hL=>?_)
        refine gs ?_
        refine gmd (C:=fun v ⟨hgu,hB,hG,_⟩=>Hc.out _ hG) ?_
        refine gs ?_
        refine geT hL ?_
        clear hB hG hL L
        rintro u ⟨-,hB,hG,-⟩
        refine wp_seq ?_
        refine r0T ?_
        refine wp_cond_false (rfl) ?_
        refine wp_skip ?_
        refine A4 ?_
        refine r0E ?_
        refine D4 ?_
        refine A4 ?_
        refine r0E ?_
        refine A4 ?_
        go_roundw
        case rel=>exact ⟨j + 1,(q1,mx),by omega,by go_num,rfl,rfl,L1.out,l2,hmxm,HV.out,hB,hG⟩
        case measure=>simp [intOf];omega
      ·have f1 : (ch != (p1 : Int)) = true:=by simp [h1]
       have f1d : decide (ch = (p1 : Int)) = false:=by simp [h1]
       rw [B5y h0 h1] at hV
       have HV:=Lib.hid hV
       clear hV h0 h1
       refine r0T ?_
       refine wp_seq ?_
       refine wp_cond_true (rfl) ?_
       refine wp_skip ?_
       refine A4 ?_
       refine wp_seq ?_
       refine wp_block ?_
       refine r0T ?_
       refine wp_seq ?_
       refine r0T ?_
       refine wp_cond_false (rfl) ?_
       refine wp_skip ?_
       refine A4 ?_
       refine wp_seq ?_
       refine r0T ?_
       refine wp_cond_true (rfl) ?_
       refine r0T ?_
       refine rt Tryz.results64 ?_
       exact ⟨by rw [HV.out];rfl,hG⟩
    ·obtain rfl : j = 2:=by omega
     have HV:=Lib.hid hV
     clear hV
     refine r0T ?_
     refine wp_seq ?_
     refine wp_cond_false (rfl) ?_
     refine wp_exit ?_
     refine B1 ?_
     refine B1 ?_
     refine E3 ?_
     refine A4 ?_
     refine r0T ?_
     refine rt Tryz.results64 ?_
     exact ⟨by rw [HV.out];rfl,hG⟩
  ·have hmi : decide ((m : Int) ≤ (i : Int)) = true:=by simp;omega
   have hmin : decide (m ≤ i) = true:=by simp;omega
   rw [B4O (by omega)]
   clear h hg ih
   show Calls Tryz.prog 64 #[I6 R n N m,.int .i64 (i : Nat)] w fun e w'=>e = .returned (.tuple #[.int .i64 (0 : Nat),.int .i64 (0 : Nat),.bool false]) ∧ A3 w w'
   obtain ⟨RA,RC⟩:=R
   obtain ⟨NA,NC⟩:=N
   go_enter Tryz.func64,Tryz.ntmps64
   refine en1 ?_
   intro u hG b2 hB hF
   refine wp_seq ?_
   refine r0T ?_
   refine wp_cond_true (rfl) ?_
   refine r0T ?_
   refine rt Tryz.results64 ?_
   exact ⟨rfl,hG⟩
theorem A5P {u u' : World} {b i g o : Nat} {t : TypeId} {cs : Array Value} {vs : List Value} {v : Value} (hb : Blk u b t cs) (hv : ∀ j : Nat,cs[j]? ≠ some v) (h : u.cell? ⟨g,o,none⟩ = some v) (hu : E0 u b i vs = u') : u'.cell? ⟨g,o,none⟩ = some v:=by
 have hg:=A1r b vs i u
 rw [hu] at hg
 refine hg.cell h fun e=>?_
 have e1 : g = b:=Option.some.inj e
 subst e1
 rw [hb.cell o] at h
 exact hv o h
def A2u (cs : Array Value) : Prop:=∀ (j : Nat) (v : Value),cs[j]? = some v → v = .slice none 0 0
theorem A7L : A2u #[.slice none 0 0,.slice none 0 0]:=fun j v h=>by
 match j with
 | 0=>exact (Option.some.inj h).symm
 | 1=>exact (Option.some.inj h).symm
 | j + 2=>simp at h
theorem A4A {u u' : World} {b i : Nat} {vs : List Value} (hu : E0 u b i vs = u') : u.heap.size ≤ u'.heap.size:=by
 have hg:=A1r b vs i u
 rw [hu] at hg
 exact hg.size
theorem Lq.keep {u u' : World} {A : Option Addr} {l : List Rat} {b i : Nat} {t : TypeId} {cs : Array Value} {vs : List Value} (h : Lq u A l) (hb : Blk u b t cs) (hs : A2u cs) (hu : E0 u b i vs = u') : Lq u' A l:=fun hne=>by
 obtain ⟨g,off,e,hl,hc⟩:=h hne
 refine ⟨g,off,e,Nat.lt_of_lt_of_le hl (A4A hu),fun k q hk j v hj=>A5P hb (fun j2 h2=>?_) (hc k q hk j v hj) hu⟩
 have h3:=hs j2 v h2
 subst h3
 have h4:=List.mem_of_getElem? hj
 simp [qL] at h4
theorem LeN.keep {u u' : World} {A : Option Addr} {l : List NdT} {b i : Nat} {t : TypeId} {cs : Array Value} {vs : List Value} (h : Le ndL 4 u A l) (hb : Blk u b t cs) (hs : A2u cs) (hu : E0 u b i vs = u') : Le ndL 4 u' A l:=fun hne=>by
 obtain ⟨g,off,e,hl,hc⟩:=h hne
 refine ⟨g,off,e,Nat.lt_of_lt_of_le hl (A4A hu),fun k q hk j v hj=>A5P hb (fun j2 h2=>?_) (hc k q hk j v hj) hu⟩
 have h3:=hs j2 v h2
 subst h3
 have h4:=List.mem_of_getElem? hj
 simp [ndL] at h4
theorem Lrq.keep {u u' : World} {A : Option Addr} {rs : List Rq} {b i : Nat} {t : TypeId} {cs : Array Value} {vs : List Value} (h : Lrq u A rs) (hn : ∀ r ∈ rs,0 < r.2.2.length) (hb : Blk u b t cs) (hs : A2u cs) (hu : E0 u b i vs = u') : Lrq u' A rs:=fun hne=>by
 obtain ⟨g,off,e,hl,hc⟩:=h hne
 refine ⟨g,off,e,Nat.lt_of_lt_of_le hl (A4A hu),fun k r hk=>⟨A5P hb (fun j2 h2=>?_) (hc k r hk).1 hu,(hc k r hk).2.keep hb hs hu⟩⟩
 have h3:=hs j2 _ h2
 injection h3 with _ h4 _
 have := hn r (List.mem_of_getElem? hk)
 omega
end Go.Proofs.YtjmopgepnndckaaGreatDoor
