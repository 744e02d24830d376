/- Contracts and laws. -/
import Derived.Test.YtjmopgepnndckaaGreatDoorK14
import Derived.Test.YtjmopgepnndckaaGreatDoorK33
import Derived.Shelf.SlLaysF0
import Derived.Shelf.SlLaysF
import Derived.Shelf.SlLaysE0
import Derived.Shelf.SlGeneric
import Derived.Ground.SlsfProg
import Derived.Ground.SlgnProg
import Derived.Test.YtjmopgepnndckaaGreatDoorProg
import Derived.Shelf.SlSortCmp.WholeK
import Derived.Shelf.SlicesE.Clone
set_option linter.unusedSimpArgs false
set_option linter.unusedVariables false
set_option maxHeartbeats 400000
set_option maxRecDepth 100000
namespace Go.Proofs
open Go.Shelf
def Tryz.sortH_ren : Go.Shelf.Ren:=⟨fun | 6=>51 | 15=>90 | 14=>89 | 28=>135 | 29=>136 | 20=>127 | 21=>128 | 22=>129 | 23=>130 | 24=>131 | 25=>132 | 26=>133 | 27=>134 | 46=>160 | 47=>161 | 48=>162 | 49=>163 | 50=>164 | 57=>190 | n=>n,fun | 22=>29 | 24=>51 | 25=>109 | 3=>3 | 39=>91 | 0=>0 | 53=>162 | 55=>43 | 4=>4 | 46=>190 | 45=>189 | 50=>194 | 5=>5 | 9=>9 | 66=>215 | 70=>219 | 76=>249 | 77=>62 | n=>n,fun | n=>n⟩
theorem Tryz.sortH : Go.Proofs.SlLaysF0.n6 Tryz.prog Tryz.sortH_ren:={
 mixed:=by kernel_rfl
 f6:=⟨Tryz.f51.name,by decide,Tryz.func51.trans (congrArg some (by kernel_rfl))⟩
 f14:=⟨Tryz.f89.name,by decide,Tryz.func89.trans (congrArg some (by kernel_rfl))⟩
 f15:=Tryz.func90.trans (congrArg some (by kernel_rfl))
 f20:=⟨Tryz.f127.name,by decide,Tryz.func127.trans (congrArg some (by kernel_rfl))⟩
 f21:=⟨Tryz.f128.name,by decide,Tryz.func128.trans (congrArg some (by kernel_rfl))⟩
 f22:=⟨Tryz.f129.name,by decide,Tryz.func129.trans (congrArg some (by kernel_rfl))⟩
 f23:=⟨Tryz.f130.name,by decide,Tryz.func130.trans (congrArg some (by kernel_rfl))⟩
 f24:=⟨Tryz.f131.name,by decide,Tryz.func131.trans (congrArg some (by kernel_rfl))⟩
 f25:=⟨Tryz.f132.name,by decide,Tryz.func132.trans (congrArg some (by kernel_rfl))⟩
 f26:=⟨Tryz.f133.name,by decide,Tryz.func133.trans (congrArg some (by kernel_rfl))⟩
 f27:=⟨Tryz.f134.name,by decide,Tryz.func134.trans (congrArg some (by kernel_rfl))⟩
 f28:=Tryz.func135.trans (congrArg some (by kernel_rfl))
 f29:=Tryz.func136.trans (congrArg some (by kernel_rfl))
 f46:=⟨Tryz.f160.name,by decide,Tryz.func160.trans (congrArg some (by kernel_rfl))⟩
 f47:=Tryz.func161.trans (congrArg some (by kernel_rfl))
 f48:=Tryz.func162.trans (congrArg some (by kernel_rfl))
 f49:=⟨Tryz.f163.name,by decide,Tryz.func163.trans (congrArg some (by kernel_rfl))⟩
 f50:=⟨Tryz.f164.name,by decide,Tryz.func164.trans (congrArg some (by kernel_rfl))⟩
 f57:=⟨Tryz.f190.name,by decide,Tryz.func190.trans (congrArg some (by kernel_rfl))⟩
 t0:=Tryz.underlying0
 a0:=Tryz.isAgg0
 z0:=Tryz.sizeOf0
 v0:=Tryz.zeroValue0
 t3:=Tryz.underlying3
 a3:=Tryz.isAgg3
 z3:=Tryz.sizeOf3
 v3:=Tryz.zeroValue3
 t4:=Tryz.underlying4
 a4:=Tryz.isAgg4
 z4:=Tryz.sizeOf4
 v4:=Tryz.zeroValue4
 t5:=Tryz.underlying5
 a5:=Tryz.isAgg5
 z5:=Tryz.sizeOf5
 v5:=Tryz.zeroValue5
 t9:=Tryz.underlying9
 a9:=Tryz.isAgg9
 z9:=Tryz.sizeOf9
 v9:=Tryz.zeroValue9
 t22:=Tryz.underlying29
 a22:=Tryz.isAgg29
 z22:=Tryz.sizeOf29
 v22:=Tryz.zeroValue29
 t25:=Tryz.underlying109
 a25:=Tryz.isAgg109
 z25:=Tryz.sizeOf109
 v25:=Tryz.zeroValue109
 t39:=Tryz.underlying91
 a39:=Tryz.isAgg91
 z39:=Tryz.sizeOf91
 v39:=Tryz.zeroValue91
 t45:=Tryz.underlying189
 a45:=Tryz.isAgg189
 z45:=Tryz.sizeOf189
 v45:=Tryz.zeroValue189
 t46:=Tryz.underlying190
 a46:=Tryz.isAgg190
 z46:=Tryz.sizeOf190
 v46:=Tryz.zeroValue190
 t50:=Tryz.underlying194
 a50:=Tryz.isAgg194
 z50:=Tryz.sizeOf194
 v50:=Tryz.zeroValue194
 t53:=Tryz.underlying162
 a53:=Tryz.isAgg162
 z53:=Tryz.sizeOf162
 v53:=Tryz.zeroValue162
 t55:=Tryz.underlying43
 a55:=Tryz.isAgg43
 z55:=Tryz.sizeOf43
 v55:=Tryz.zeroValue43
 t66:=Tryz.underlying215
 a66:=Tryz.isAgg215
 z66:=Tryz.sizeOf215
 v66:=Tryz.zeroValue215
 t70:=Tryz.underlying219
 a70:=Tryz.isAgg219
 z70:=Tryz.sizeOf219
 v70:=Tryz.zeroValue219
 t76:=Tryz.underlying249
 a76:=Tryz.isAgg249
 z76:=Tryz.sizeOf249
 v76:=Tryz.zeroValue249
 t77:=Tryz.underlying62
 a77:=Tryz.isAgg62
 z77:=Tryz.sizeOf62
 v77:=Tryz.zeroValue62 }
def Tryz.cloneH_ren : Go.Shelf.Ren:=⟨fun | 41=>53 | n=>n,fun | 22=>29 | 23=>51 | 4=>4 | n=>n,fun | n=>n⟩
theorem Tryz.cloneH : Go.Proofs.SlLaysE0.n41 Tryz.prog Tryz.cloneH_ren:={
 mixed:=by kernel_rfl
 f41:=⟨Tryz.f53.name,by decide,Tryz.func53.trans (congrArg some (by kernel_rfl))⟩
 t4:=Tryz.underlying4
 a4:=Tryz.isAgg4
 z4:=Tryz.sizeOf4
 v4:=Tryz.zeroValue4
 t22:=Tryz.underlying29
 a22:=Tryz.isAgg29
 z22:=Tryz.sizeOf29
 v22:=Tryz.zeroValue29 }
def Tryz.cloneQ_ren : Go.Shelf.Ren:=⟨fun | 41=>65 | n=>n,fun | 22=>35 | 23=>49 | 4=>4 | n=>n,fun | n=>n⟩
theorem Tryz.cloneQ : Go.Proofs.SlLaysE0.n41 Tryz.prog Tryz.cloneQ_ren:={
 mixed:=by kernel_rfl
 f41:=⟨Tryz.f65.name,by decide,Tryz.func65.trans (congrArg some (by kernel_rfl))⟩
 t4:=Tryz.underlying4
 a4:=Tryz.isAgg4
 z4:=Tryz.sizeOf4
 v4:=Tryz.zeroValue4
 t22:=Tryz.underlying35
 a22:=Tryz.isAgg35
 z22:=Tryz.sizeOf35
 v22:=Tryz.zeroValue35 }
end Go.Proofs
namespace Go.Proofs.YtjmopgepnndckaaGreatDoor
open Go.RowKit
theorem A9M {x : Ax} {y z : Int} (h : y = z) : Ending.returned (riV x y) = .returned (riV x z):=by rw [h]
theorem B4S (x y : Ax) (q : Rat) (w : World) : Calls Tryz.prog 104 #[rqV x y q] w fun e w'=>e = .returned (riV y (sgn false q.den)) ∧ A3 w w':=by
 rw [A2T,Bool.false_and]
 have hI:=fun W=>A0o y false q.den W
 simp only [A2T,Bool.false_and] at hI
 go_enter Tryz.func104,Tryz.ntmps104
 refine en2 ?_
 intro u hG b2 b1 hB hF
 refine wp_seq (rsC A6 [0,0,1] hB hG fun K L hN hL=>?_)
 refine gs ?_
 refine gmw (C:=fun v=>hI _) ?_
 refine geC hL ?_
 clear hB hG hL L
 rintro u ⟨-,hB,hG,-⟩
 refine gtT ?_
 clear hN K
 refine st hB hF hG 1 0 [_,_] ?_
 clear hB hG
 intro u hB hG
 refine rt Tryz.results104 ?_
 exact ⟨rfl,hG⟩
theorem B1i (x : Ax) (z : Int) (w : World) : Calls Tryz.prog 168 #[riV x z] w fun e w'=>e = .returned (riV x (S6 z)) ∧ A3 w w':=by
 go_enter Tryz.func168,Tryz.ntmps168
 refine en2 ?_
 intro u hG b2 b1 hB hF
 refine wp_seq (rsC A6 [0,0,0,0,0,1] hB hG fun K L hN hL=>?_)
 refine gs ?_
 refine gmw (C:=fun v=>A0o x _ z.natAbs _) ?_
 refine geC hL ?_
 clear hB hG hL L
 rintro u ⟨-,hB,hG,-⟩
 refine gtT ?_
 clear hN K
 refine st hB hF hG 1 0 [_,_] ?_
 clear hB hG
 intro u hB hG
 refine rt Tryz.results168 ?_
 exact ⟨A9M (A56 z),hG⟩
theorem B3O (x : Ax) (z : Int) (w : World) : Calls Tryz.prog 81 #[riV x z] w fun e w'=>e = .returned (.int .i64 z.sign) ∧ A3 w w':=by
 go_enter Tryz.func81,Tryz.ntmps81
 refine en1 ?_
 intro u hG b1 hB hF
 refine wp_seq ?_
 refine wp_block ?_
 refine r0T ?_
 refine wp_cond_split rfl ?_ ?_
 ·intro ht
  have ht3:=ht
  refine r0T ?_
  refine rt Tryz.results81 ?_
  have h2 : ln z.natAbs = 0:=by simpa using ht3
  have h3 : z = 0:=by have := @A4I z.natAbs;omega
  exact ⟨G9 (by rw [h3];rfl),hG⟩
 ·intro ht
  have ht3:=ht
  refine r0T ?_
  refine wp_cond_split rfl ?_ ?_
  ·intro ht
   have ht8:=ht
   refine r0T ?_
   refine rt Tryz.results81 ?_
   have h : z < 0:=of_decide_eq_true ht8
   exact ⟨G9 (Int.sign_eq_neg_one_of_neg h).symm,hG⟩
  ·intro ht
   have ht8:=ht
   refine wp_skip ?_
   refine E7 ?_
   refine A4 ?_
   refine r0T ?_
   refine rt Tryz.results81 ?_
   have h : ¬ z < 0:=of_decide_eq_false ht8
   have h2 : ¬ ln z.natAbs = 0:=by simpa using ht3
   have h3 : z ≠ 0:=by have := @A4I z.natAbs;omega
   exact ⟨G9 (Int.sign_eq_one_of_pos (by omega)).symm,hG⟩
abbrev Az:=Ax × Ax
def Rz (u : World) (p : Az) (q : Rat) : Prop:=Rn u p.1 q.num.natAbs ∧ Rn u p.2 q.den
theorem Rz.grow {u u' : World} {p : Az} {q : Rat} (h : Rz u p q) (hg : A3 u u') : Rz u' p q:=⟨h.1.grow hg,h.2.grow hg⟩
theorem B4T (x y : Ax) (q : Rat) (w : World) : Calls Tryz.prog 42 #[rqV x y q] w fun e w'=>e = .returned (.int .i64 q.num.sign) ∧ A3 w w':=by
 go_enter Tryz.func42,Tryz.ntmps42
 refine en1 ?_
 intro u hG b1 hB hF
 refine wp_seq (rsE A6 [0,0,1,0] hB hG fun L hL=>?_)
 refine gs ?_
 refine gmw (C:=fun v=>B3O x q.num _) ?_
 refine gs ?_
 refine geT hL ?_
 clear hB hG hL L
 rintro u ⟨-,hB,hG,-⟩
 refine rt Tryz.results42 ?_
 exact ⟨rfl,hG⟩
theorem B4R (x y : Ax) (q : Rat) (w : World) : Calls Tryz.prog 165 #[rqV x y q] w fun e w'=>e = .returned (rqV x y (A0d q)) ∧ A3 w w':=by
 go_enter Tryz.func165,Tryz.ntmps165
 refine en2 ?_
 intro u hG b2 b1 hB hF
 refine wp_seq (rdC A6 [] [(0,0),(0,1),(0,3),(0,4),(1,2),(0,5)] hB hG fun K L hN hL=>?_)
 refine gs ?_
 refine gmw (C:=fun v=>B1i _ _ _) ?_
 refine gs ?_
 refine geC hL ?_
 clear hB hG hL L
 rintro u ⟨-,hB,hG,-⟩
 refine gtT ?_
 clear hN K
 refine st hB hF hG 1 0 [_,_,_] ?_
 clear hB hG
 intro u hB hG
 refine rt Tryz.results165 ?_
 exact ⟨A5G (q:=A0d q) (Rat.neg_num q) (Rat.neg_den q),hG⟩
theorem Rz.a {u : World} {p : Az} {q : Rat} (h : Rz u p q) : Rn u p.1 q.num.natAbs:=h.1
theorem Rz.b {u : World} {p : Az} {q : Rat} (h : Rz u p q) : Rn u p.2 q.den:=h.2
theorem Rz.put {u u' : World} {p : Az} {q : Rat} (h : Rz u p q) {bl : List (Nat × TypeId × Array Value)} (hB : Bx u bl) (k : Nat) {b : Nat} {t : TypeId} {cs : Array Value} (hk : bl[k]? = some (b,t,cs)) (ht : t ≠ 162) (i : Nat) (vs : List Value) (hu : E1 u b i vs = u') : Rz u' p q:=⟨h.1.put hB k hk ht i vs hu,h.2.put hB k hk ht i vs hu⟩
theorem Rz.own {u w' : World} {B : Nat} {e : TypeId} {size n : Nat} {v : Value} {xs : List Value} {o : Obj} {p : Az} {q : Rat} (hl : Rz u p q) (h : u.ownsRow B e size v n xs) (ht : e ≠ 162) (hg : (u.alloc o).grownBy w' v.ownBlock) : Rz w' p q:=⟨hl.1.own h ht hg,hl.2.own h ht hg⟩
def zL (p : Az) (q : Rat) : List Value:=[.bool (C1 q.num),.slice p.1.1 (ln q.num.natAbs) p.1.2,.slice p.2.1 (ln q.den) p.2.2]
def Cz (u : World) (b i : Nat) (p : Az) (q : Rat) : Prop :=
 u.cell? ⟨b,i,none⟩ = some (.bool (C1 q.num)) ∧ u.cell? ⟨b,i + 1,none⟩ = some (.slice p.1.1 (ln q.num.natAbs) p.1.2) ∧ u.cell? ⟨b,i + 2,none⟩ = some (.slice p.2.1 (ln q.den) p.2.2)
def Lz (u : World) (A : Option Addr) (l : List Rat) : Prop :=
 l ≠ [] → ∃ b off,A = some ⟨b,off,none⟩ ∧ b < u.heap.size ∧ ∀ i,i < l.length → ∃ p : Az,Rz u p (gq l i) ∧ Cz u b (off + i * 3) p (gq l i)
theorem Cz.grow {u u' : World} {b i : Nat} {p : Az} {q : Rat} (h : Cz u b i p q) (hb : b < u.heap.size) (hg : A3 u u') : Cz u' b i p q :=
 ⟨(hg.cell (p:=⟨b,i,none⟩) hb).trans h.1,(hg.cell (p:=⟨b,i + 1,none⟩) hb).trans h.2.1,(hg.cell (p:=⟨b,i + 2,none⟩) hb).trans h.2.2⟩
theorem Lz.grow {u u' : World} {A : Option Addr} {l : List Rat} (h : Lz u A l) (hg : A3 u u') : Lz u' A l:=fun hn=>by
 obtain ⟨b,off,e,hb,hc⟩:=h hn
 refine ⟨b,off,e,Nat.lt_of_lt_of_le hb hg.size,fun i hi=>?_⟩
 obtain ⟨p,h1,h2⟩:=hc i hi
 exact ⟨p,h1.grow hg,h2.grow hb hg⟩
theorem Lz.nil (u : World) (A : Option Addr) : Lz u A []:=fun h=>absurd rfl h
theorem Lz.addr {u : World} {A : Option Addr} {l : List Rat} (h : Lz u A l) (hl : 0 < l.length) : ∃ b off,A = some ⟨b,off,none⟩:=by
 obtain ⟨b,off,e,_⟩:=h (fun h0=>by rw [h0] at hl;cases hl)
 exact ⟨b,off,e⟩
theorem Lz.read {u : World} {b off : Nat} {l : List Rat} (h : Lz u (some ⟨b,off,none⟩) l) {i : Nat} (hi : i < l.length) : ∃ p : Az,∀ W,A3 u W → Rz W p (gq l i) ∧ Cz W b (off + i * 3) p (gq l i):=by
 obtain ⟨b',off',e,hb,hc⟩:=h (fun h0=>by rw [h0] at hi;cases hi)
 cases e
 obtain ⟨p,h1,h2⟩:=hc i hi
 exact ⟨p,fun W hg=>⟨h1.grow hg,h2.grow hb hg⟩⟩
abbrev Zr:=Az × Rat
def zrL (r : Zr) : List Value:=zL r.1 r.2
def I7 (u : World) (ps : List Zr) : Prop:=∀ r ∈ ps,Rz u r.1 r.2
theorem I7.nil (u : World) : I7 u []:=fun _ h=>by cases h
theorem I7.grow {u u' : World} {ps : List Zr} (h : I7 u ps) (hg : A3 u u') : I7 u' ps:=fun r hr=>(h r hr).grow hg
theorem I7.put {u u' : World} {ps : List Zr} (h : I7 u ps) {bl : List (Nat × TypeId × Array Value)} (hB : Bx u bl) (k : Nat) {b : Nat} {t : TypeId} {cs : Array Value} (hk : bl[k]? = some (b,t,cs)) (ht : t ≠ 162) (i : Nat) (vs : List Value) (hu : E1 u b i vs = u') : I7 u' ps:=fun r hr=>(h r hr).put hB k hk ht i vs hu
theorem I7.own {u w' : World} {B : Nat} {e : TypeId} {size n : Nat} {v : Value} {xs : List Value} {o : Obj} {ps : List Zr} (hl : I7 u ps) (h : u.ownsRow B e size v n xs) (ht : e ≠ 162) (hg : (u.alloc o).grownBy w' v.ownBlock) : I7 w' ps:=fun r hr=>(hl r hr).own h ht hg
theorem I7.snoc {u : World} {ps : List Zr} (h : I7 u ps) {p : Az} {q : Rat} (h1 : Rn u p.1 q.num.natAbs) (h2 : Rn u p.2 q.den) : I7 u (ps ++ [(p,q)]):=fun r hr=>by
 rcases List.mem_append.1 hr with hr | hr
 ·exact h r hr
 ·have : r = (p,q):=by simpa using hr
  subst this
  exact ⟨h1,h2⟩
theorem A1c (l : List Rat) : (l.flatMap qL).length = 5 * l.length:=by
 induction l with
 | nil=>rfl
 | cons x l ih=>simp [List.flatMap_cons,qL,ih];omega
theorem A2M (l : List Rat) {i : Nat} {q : Rat} (hi : l[i]? = some q) {j : Nat} (hj : j < 5) : (l.flatMap qL)[i * 5 + j]? = (qL q)[j]?:=by
 induction l generalizing i with
 | nil=>simp at hi
 | cons x l ih =>
  rw [List.flatMap_cons]
  cases i with
  | zero =>
   simp at hi
   subst hi
   rw [List.getElem?_append_left (by simp [qL];omega)]
   simp
  | succ i =>
   rw [List.getElem?_append_right (by simp [qL];omega),show (qL x).length = 5 from rfl,show (i + 1) * 5 + j - 5 = i * 5 + j by omega]
   exact ih (by simpa using hi)
theorem A5j {u : World} {B n : Nat} {v : Value} {l : List Rat} (h : u.ownsRow B 49 5 v n (l.flatMap qL)) : ∃ A c,v = .slice A n c ∧ n ≤ c ∧ c ≤ maxLen ∧ Lq u A l ∧ n = l.length:=by
 have hn : n = l.length:=by have := h.1;rw [A1c] at this;omega
 obtain ⟨_,h | ⟨g,cap,cur,rfl,hb,hh,hn',hc,hs,ht⟩⟩:=h
 ·obtain ⟨rfl,h0⟩:=h
  exact ⟨none,0,by rw [h0],by omega,by unfold maxLen;omega,fun hne=>absurd (List.eq_nil_of_length_eq_zero (by omega)) hne,hn⟩
 ·refine ⟨_,cap,rfl,hn',hc,fun _=>⟨g,0,rfl,M9 hh,fun i q hi j v hj=>?_⟩,hn⟩
  have hil : i < l.length:=(List.getElem?_eq_some_iff.1 hi).1
  have hj5 : j < 5:=(List.getElem?_eq_some_iff.1 hj).1
  rw [cell_of_row u g _ cur 49 (0,0) hh,Nat.zero_add]
  have h1 : (cur.toList.take (n * 5))[i * 5 + j]? = some v:=by rw [ht,A2M l hi hj5,hj]
  rw [List.getElem?_take,if_pos (by omega)] at h1
  simpa using h1
theorem B4V (n m : Int) (hm : 0 < m) (hm2 : m ≤ 9223372036854775807) (w : World) : Calls Tryz.prog 14 #[.int .i64 n,.int .i64 m] w fun e w'=>e = .returned (.int .i64 (X9 n m)) ∧ A3 w w' :=
 (B2z n m hm hm2 w).mono fun e w' ⟨h,hw⟩=>⟨h,hw ▸ A3.refl _⟩
end Go.Proofs.YtjmopgepnndckaaGreatDoor
namespace Go.Proofs.YtjmopgepnndckaaGreatDoor
open Go Go.RowKit Go.Sort Go.Shelf
abbrev Bq (s : Nat):={x : Rat // qs x ≤ s + qs 0}
instance (s : Nat) : Inhabited (Bq s):=⟨⟨0,Nat.le_add_left _ _⟩⟩
theorem A7y {α : Type} [Inhabited α] {enc : α → List Value} {k : Nat} {w w1 : World} (h : A3 w w1) {g : Nat} (hg : w.heap.size ≤ g) (off n : Nat) (d : Array α) (os : Array Obj) : A3 w (sortWorldK enc k w1 g off n d os):=by
 refine Below.trans h ⟨rfl,rfl,rfl,?_,fun j hj=>?_⟩
 ·show _ ≤ ((w1.heap.modify g _) ++ os).size
  rw [Array.size_append,Array.size_modify]
  omega
 ·show ((w1.heap.modify g _) ++ os)[j]? = _
  have := h.size
  rw [Array.getElem?_append,if_pos (by rw [Array.size_modify];omega),Array.getElem?_modify,if_neg (by omega)]
end Go.Proofs.YtjmopgepnndckaaGreatDoor
