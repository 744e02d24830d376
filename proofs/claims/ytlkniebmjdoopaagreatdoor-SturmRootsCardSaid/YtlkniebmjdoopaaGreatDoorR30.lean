/- Contracts and laws. -/
import Derived.Test.YtlkniebmjdoopaaGreatDoorR29
import Derived.Shelf.SlLaysF0
import Derived.Shelf.SlLaysF
import Derived.Shelf.SlLaysE0
import Derived.Shelf.SlGeneric
import Derived.Ground.SlsfProg
import Derived.Ground.SlgnProg
import Derived.Test.YtlkniebmjdoopaaGreatDoorProg
import Derived.Calls
import Derived.Sort.Grow
import Derived.Deep.Draws
import Derived.Shelf.SlSortCmp.WholeK
import Derived.Shelf.SlicesE.Clone
set_option linter.unusedSimpArgs false
set_option linter.unusedVariables false
set_option maxHeartbeats 4000000
set_option maxRecDepth 100000
namespace Go.Proofs
open Go.Shelf
def Tryz.cloneQ_ren : Go.Shelf.Ren:=⟨fun | 41=>107 | n=>n,fun | 22=>23 | 23=>39 | 4=>4 | n=>n,fun | n=>n⟩
theorem Tryz.cloneQ : Go.Proofs.SlLaysE0.n41 Tryz.prog Tryz.cloneQ_ren:={
 mixed:=by kernel_rfl
 f41:=⟨Tryz.f107.name,by decide,Tryz.func107.trans (congrArg some (by kernel_rfl))⟩
 t4:=Tryz.underlying4
 a4:=Tryz.isAgg4
 z4:=Tryz.sizeOf4
 v4:=Tryz.zeroValue4
 t22:=Tryz.underlying23
 a22:=Tryz.isAgg23
 z22:=Tryz.sizeOf23
 v22:=Tryz.zeroValue23 }
end Go.Proofs
namespace Go.Proofs.YtlkniebmjdoopaaGreatDoor
open Go
def Nd (n : Nat) : Stepped → Prop
 | .next m=>n ≤ m.world.drawn
 | _=>True
theorem Nd.weak {n k : Nat} (h : n ≤ k) : ∀ {s : Stepped},Nd k s → Nd n s
 | .next _,e=>Nat.le_trans h e
 | .ended _ _,_=>trivial
def Md (n : Nat) : _root_.Go.Move → Prop
 | .goroutine m _=>n ≤ m.world.drawn
 | .machine s _=>Nd n s
theorem Md.weak {n k : Nat} (h : n ≤ k) : ∀ {s : _root_.Go.Move},Md k s → Md n s
 | .goroutine _ _,e=>Nat.le_trans h e
 | .machine _ _,e=>Nd.weak h e
open Go.RowKit
end Go.Proofs.YtlkniebmjdoopaaGreatDoor
namespace Go.Proofs.YtlkniebmjdoopaaGreatDoor
open Go Go.RowKit Go.Sort Go.Shelf
abbrev Bq (s : Nat):={x : Rat // qs x ≤ s + qs 0}
instance (s : Nat) : Inhabited (Bq s):=⟨⟨0,Nat.le_add_left _ _⟩⟩
end Go.Proofs.YtlkniebmjdoopaaGreatDoor
namespace Go.Proofs.YtlkniebmjdoopaaGreatDoor
open Go Go.RowKit
theorem A6u {q : Rat} : (q.num.sign == 0) = decide (q = 0):=by
 by_cases h : q = 0
 ·subst h;rfl
 ·have h1 : q.num ≠ 0:=fun e=>h (Rat.num_eq_zero.1 e)
  have h2 : q.num.sign ≠ 0:=fun e=>h1 (Int.sign_eq_zero_iff_zero.1 e)
  simp [h,h2]
def J5 (l : List Rat) : Nat → Nat
 | 0=>0
 | n + 1=>if gq l n = 0 then J5 l n else n + 1
def trN (l : List Rat) : Nat:=J5 l l.length
def trL (l : List Rat) : List Rat:=l.take (trN l)
theorem B0g (l : List Rat) : ∀ n,J5 l n ≤ n
 | 0=>Nat.le_refl _
 | n + 1=>by
  unfold J5
  split
  ·exact Nat.le_trans (B0g l n) (by omega)
  ·exact Nat.le_refl _
theorem H8 (l : List Rat) : trN l ≤ l.length:=B0g l _
theorem E6 (l : List Rat) : (trL l).length = trN l:=by
 unfold trL
 rw [List.length_take,Nat.min_eq_left (H8 l)]
theorem B6q {l : List Rat} {t j : Nat} (h : j < t) : gq (l.take t) j = gq l j:=by
 unfold gq
 rw [List.getElem?_take,if_pos h]
theorem A4c {W : World} {A : Option Addr} {l : List Rat} (h : Lq W A l) (t : Nat) : Lq W A (l.take t):=fun hne=>by
 have hl : l ≠ []:=fun e=>hne (by rw [e];simp)
 obtain ⟨b,off,e,hb,hc⟩:=h hl
 refine ⟨b,off,e,hb,fun i q hi=>hc i q ?_⟩
 rw [List.getElem?_take] at hi
 split at hi
 ·exact hi
 ·cases hi
theorem B4l {u : World} {b off : Nat} {l : List Rat} (h : Lq u (some ⟨b,off,none⟩) l) {j : Nat} {v : Value} (hj : (l.flatMap qL)[j]? = some v) : u.cell? ⟨b,off + j,none⟩ = some v:=by
 have htl:=(List.getElem?_eq_some_iff.1 hj).1
 rw [A13] at htl
 obtain ⟨b',off',e,hb,hc⟩:=h (fun e=>by rw [e] at htl;simp at htl)
 cases e
 have hq : l[j / 5]? = some (l[j / 5]'(by omega)):=List.getElem?_eq_getElem (by omega)
 have h6:=A3k l hq (j:=j % 5) (by omega)
 rw [show j / 5 * 5 + j % 5 = j by omega,hj] at h6
 have h7:=hc _ _ hq _ _ h6.symm
 rwa [show off + j / 5 * 5 + j % 5 = off + j by omega] at h7
theorem B5T {u : World} {B g n b off c : Nat} {z l : List Rat} (h : u.ownsRow B 39 5 (.slice (some ⟨g,0,none⟩) n n) n (z.flatMap qL)) (hn : l.length = n) (hn0 : 0 < n) (hm : n ≤ 1048576) (hL : Lq u (some ⟨b,off,none⟩) l) :
  ∃ w',(Builtin.copy_ #[23,23] 3 #[.slice (some ⟨g,0,none⟩) n n,.slice (some ⟨b,off,none⟩) n c]).run Tryz.prog u = .ok (goInt (n : Nat)) w' ∧ w'.ownsRow B 39 5 (.slice (some ⟨g,0,none⟩) n n) n (l.flatMap qL) ∧ u.grownBy w' (some g):=by
 have he : ∀ x : Rat,(qL x).length = 5:=fun _=>rfl
 have hsz : (Tryz.prog.info? 39).map (·.size) = some 5:=by
  have := A53
  cases hi : Tryz.prog.info? 39 with
  | none=>rw [hi] at this;cases this
  | some i=>rw [hi] at this;simp only [Option.map_some,Option.some.injEq,Prod.mk.injEq] at this ⊢;exact this.2.1
 have hone : ∀ v ∈ l.flatMap qL,v.oneCell' = true:=fun v hv=>by
  obtain ⟨x,_,hx⟩:=List.mem_flatMap.1 hv
  simp only [qL,List.mem_cons,List.not_mem_nil,or_false] at hx
  rcases hx with rfl | rfl | rfl | rfl | rfl <;> rfl
 have hcl : (l.flatMap qL).length = n * 5:=by rw [A00 he,hn]
 obtain ⟨cur,hcur,hcs,hown,hgr⟩:=B1T h 0 (l.flatMap qL) (by rw [hcl];omega)
 have hsrc : ∀ j v,(l.flatMap qL)[j]? = some v → u.cell? (Addr.add ⟨b,off,none⟩ j) = some v:=fun j v hj=>by
  have hjl : j < n * 5:=by rw [← hcl];exact (List.getElem?_eq_some_iff.1 hj).1
  rw [Go.WideShapes.add_plain]
  exact B4l hL hj
 have hr:=B30 (P:=Tryz.prog) u 23 23 3 39 5 g 0 n n ⟨b,off,none⟩ n c cur 39 (l.flatMap qL) Tryz.underlying23 hsz hcur (by rw [hcl];show n * 5 = min n n * 5;rw [Nat.min_self]) hsrc (by omega) hone
 have hmm : Nat.min n n = n:=Nat.min_self n
 rw [hmm] at hr
 refine ⟨_,hr,?_,hgr⟩
 have hzl : (z.flatMap qL).length = n * 5:=h.1
 simpa only [List.take_zero,List.nil_append,Nat.zero_add,hcl,List.drop_eq_nil_of_le (Nat.le_of_eq hzl),List.append_nil] using hown
theorem A2m (A : Option Addr) (l : List Rat) (n c : Nat) (hl : l.length = n) (hc : n ≤ c) (hm : n ≤ 1048576) (hs : ∀ x ∈ l,qs x ≤ BIG) (w : World) (h : Lq w A l) :
  Calls Tryz.prog 49 #[.slice A n c] w fun e w'=>e = .returned (.slice A (trN l) (trN l)) ∧ A3 w w':=by
 have hBm:=K8
 have hrd : ∀ i,i < n → ∃ b o,A = some ⟨b,o,none⟩ ∧ ∀ W,A3 w W → Cq W b (o + i * 5) (gq l i):=fun i hi=>by
  obtain ⟨b,o,e⟩:=h.addr (by omega)
  subst e
  exact ⟨b,o,rfl,fun W hg=>(h.grow hg).read (by omega)⟩
 have hsg : ∀ i,i < n → ∀ W,Calls Tryz.prog 21 #[qV (gq l i)] W fun e w'=>e = .returned (.int .i64 (gq l i).num.sign) ∧ A3 W w':=fun i hi W=>T9 _ (by have h1:=hs _ (A1U (l:=l) (i:=i) (by omega));have h2:=F7 (gq l i);omega) W
 have htn : trN l = J5 l n:=by unfold trN;rw [hl]
 have htl : ∀ t,J5 l (t + 1) = if gq l t = 0 then J5 l t else t + 1:=fun t=>rfl
 have hle:=H8 l
 obtain ⟨R,hR⟩ : ∃ R,R = trN l:=⟨_,rfl⟩
 rw [← hR] at htn hle ⊢
 have Hrd:=Lib.hid hrd
 have Hsg:=Lib.hid hsg
 have Htn:=Lib.hid htn
 have Htl:=Lib.hid htl
 have Hle:=Lib.hid (show R ≤ n by omega)
 clear hrd hsg htn htl hle hR hs h
 go_enter Tryz.func49,Tryz.ntmps49
 refine en0 ?_
 intro u hG hB hF
 refine r0T ?_
 refine wp_seq ?_
 refine wp_block ?_
 clear hB hF
 go_loopw [3] (fun s0 wr=>∃ t : Nat,t ≤ n ∧ J5 l t = R ∧ s0 = .int .i64 t ∧ A3 w wr) (fun s0 _=>(intOf s0).toNat)
 case atStart=>exact ⟨n,Nat.le_refl _,Htn.out.symm,rfl,hG⟩
 case round =>
  clear hG
  obtain ⟨t,ht,hR,rfl,hG⟩:=hrel
  obtain ⟨u,rfl⟩ : ∃ x,x = wr:=⟨_,rfl⟩
  have hB:=Bx.nil u
  have hF:=Fr.nil w
  rcases Nat.eq_zero_or_pos t with h0 | h0
  ·subst h0
   have e0:=Lib.hid (show R = 0 by rw [← hR];rfl)
   clear hR ht
   refine wp_seq ?_
   refine wp_seq (rsE A5 [0,0,0,0,0,0,0,0,1,0,0] hB hG fun L hL=>?_)
   refine gs ?_
   refine gmn (by exact rfl) ?_
   refine okf (by simp only [Act.put,List.setIfInBounds_toArray,List.set_cons_succ,List.set_cons_zero];exact rfl) ?_
   refine gs ?_
   refine geT hL ?_
   clear hB hG hL L
   rintro u ⟨-,hB,hG,-⟩
   refine wp_cond_false (rfl) ?_
   refine wp_exit ?_
   refine B4 ?_
   refine B4 ?_
   refine E1 ?_
   refine A4 ?_
   refine r0T ?_
   refine rt Tryz.results49 ?_
   exact ⟨by rw [e0.out],hG⟩
  ·obtain ⟨k,rfl⟩ : ∃ k,t = k + 1:=⟨t - 1,by omega⟩
   have f7 : decide ((0 : Int) < ((k + 1 : Nat) : Int)) = true:=decide_eq_true (by omega)
   have fw : IntKind.i64.wrap (((k + 1 : Nat) : Int) - 1) = (k : Int):=by rw [IntWalk.i64_in _ (by omega)];omega
   have hkn : (k : Int) < (n : Int):=by omega
   obtain ⟨b,o,rfl,hrd⟩:=Hrd.out k (by omega)
   have hsg:=Hsg.out k (by omega)
   have htl:=Htl.out k
   have hs0:=@A6u (gq l k)
   obtain ⟨X,hX⟩ : ∃ X,X = gq l k:=⟨_,rfl⟩
   rw [← hX] at htl hs0
   simp only [← hX] at hrd hsg
   obtain ⟨S,hS⟩ : ∃ S,S = X.num.sign:=⟨_,rfl⟩
   rw [← hS] at hs0
   simp only [← hS] at hsg
   have Hrd1:=Lib.hid hrd
   have Hsg1:=Lib.hid hsg
   obtain ⟨t,hte⟩ : ∃ t,t = k + 1:=⟨_,rfl⟩
   rw [← hte] at f7 fw hR ht htl h0 ⊢
   by_cases hx : X = 0
   ·have fs : (S == 0) = true:=by rw [hs0];simp [hx]
    have HR:=Lib.hid (show J5 l k = R by rw [← hR,htl,if_pos hx])
    have Hte:=Lib.hid hte
    clear hrd hsg hx hS hX hs0 htl hR hte
    refine wp_seq ?_
    refine wp_seq (rsE A5 [0,0,0,0,0,0,0,0,1,0,0] hB hG fun L hL=>?_)
    repeat first | refine gya ?_ | refine gyr ?_ | refine gna ?_ | refine gyb (by (rintro v ⟨hgu,hB,hG,-⟩ N hN;have r:=hB.r;simp only [BxR] at r;obtain ⟨q1,q2,q3,q4,q5⟩:=Hrd1.out v hG;go_simp;exact hN)) ?_
    first | refine gmw (C:=fun v=>Hsg1.out _) ?_ | refine H6 ?_
    refine gs ?_
    refine geT hL ?_
    clear hB hG hL L
    rintro u ⟨-,hB,hG,-⟩
    refine wp_cond_true (rfl) ?_
    refine wp_skip ?_
    refine A4 ?_
    refine wp_block ?_
    refine r0E ?_
    refine D5 ?_
    refine A4 ?_
    go_roundw
    case rel=>exact ⟨k,by omega,HR.out,rfl,hG⟩
    case measure=>have hte:=Hte.out;simp [intOf];omega
   ·have fs : (S == 0) = false:=by rw [hs0];simp [hx]
    have HR:=Lib.hid (show t = R by rw [← hR,htl,if_neg hx,hte])
    have Hte:=Lib.hid hte
    clear hrd hsg hx hS hX hs0 htl hR hte
    refine wp_seq ?_
    refine wp_seq (rsE A5 [0,0,0,0,0,0,0,0,1,0,0] hB hG fun L hL=>?_)
    repeat first | refine gya ?_ | refine gyr ?_ | refine gna ?_ | refine gyb (by (rintro v ⟨hgu,hB,hG,-⟩ N hN;have r:=hB.r;simp only [BxR] at r;obtain ⟨q1,q2,q3,q4,q5⟩:=Hrd1.out v hG;go_simp;exact hN)) ?_
    first | refine gmw (C:=fun v=>Hsg1.out _) ?_ | refine H6 ?_
    refine gs ?_
    refine geT hL ?_
    clear hB hG hL L
    rintro u ⟨-,hB,hG,-⟩
    refine wp_cond_false (rfl) ?_
    refine wp_exit ?_
    refine B4 ?_
    refine B4 ?_
    refine E1 ?_
    refine A4 ?_
    refine r0T ?_
    refine rt Tryz.results49 ?_
    exact ⟨by rw [← HR.out],hG⟩
theorem B7H (g c : Nat) (A : Option Addr) (u : World) : (Builtin.copy_ #[23,23] 3 #[.slice (some ⟨g,0,none⟩) 0 0,.slice A 0 c]).run Tryz.prog u = .ok (goInt (0 : Nat)) u:=by
 have hsz : (Tryz.prog.info? 39).map (·.size) = some 5:=by
  have := A53
  cases hi : Tryz.prog.info? 39 with
  | none=>rw [hi] at this;cases this
  | some i=>rw [hi] at this;simp only [Option.map_some,Option.some.injEq,Prod.mk.injEq] at this ⊢;exact this.2.1
 cases hq : Tryz.prog.info? 39 with
 | none=>simp [hq] at hsz
 | some i =>
  have hi : i.size = 5:=by simpa [hq] using hsz
  cases A with
  | none=>simp [Builtin.copy_,run_underlying Tryz.underlying23,Builtin.lenOf,Builtin.firstCells,sizeOf,typeInfo,hq,hi,storeCells]
  | some a=>simp [Builtin.copy_,run_underlying Tryz.underlying23,Builtin.lenOf,Builtin.firstCells,sizeOf,typeInfo,hq,hi,storeCells,loadCells,loadCellsFrom]
theorem B5e {u : World} {B g n c : Nat} {A : Option Addr} {z l : List Rat} (h : u.ownsRow B 39 5 (.slice (some ⟨g,0,none⟩) n n) n (z.flatMap qL)) (hn : l.length = n) (hm : n ≤ 1048576) (hL : Lq u A l) :
  ∃ w',(Builtin.copy_ #[23,23] 3 #[.slice (some ⟨g,0,none⟩) n n,.slice A n c]).run Tryz.prog u = .ok (goInt (n : Nat)) w' ∧ w'.ownsRow B 39 5 (.slice (some ⟨g,0,none⟩) n n) n (l.flatMap qL) ∧ u.grownBy w' (some g):=by
 rcases Nat.eq_zero_or_pos n with h0 | h0
 ·subst h0
  have hz : z.flatMap qL = []:=List.eq_nil_of_length_eq_zero (by have := h.1;omega)
  have hl : l.flatMap qL = []:=by rw [List.eq_nil_of_length_eq_zero hn];rfl
  rw [hz] at h
  rw [hl]
  exact ⟨u,B7H g c A u,h,⟨rfl,rfl,rfl,Nat.le_refl _,fun _ _ _=>rfl⟩⟩
 ·obtain ⟨b,off,rfl⟩:=hL.addr (by omega)
  exact B5T h hn h0 hm hL
def PQ (B x : Nat) (l : List Rat) (W : World) : Prop:=W.ownsRow B 39 5 (.slice (some ⟨x,0,none⟩) l.length l.length) l.length (l.flatMap qL)
theorem PQ.grow {B x : Nat} {l : List Rat} {u v : World} (h : PQ B x l u) (hg : A3 u v) : PQ B x l v:=F4 h hg
theorem PQ.mono {B B' x : Nat} {l : List Rat} {u : World} (h : PQ B x l u) (hb : B' ≤ B) : PQ B' x l u:=World.ownsRow.mono h hb
theorem PQ.lq {B x : Nat} {l : List Rat} {u : World} (h : PQ B x l u) : Lq u (some ⟨x,0,none⟩) l:=by
 obtain ⟨A,c,e,-,-,hL,-⟩:=A0F h
 cases e
 exact hL
theorem PQ.lt {B x : Nat} {l : List Rat} {u : World} (h : PQ B x l u) : B ≤ x ∧ x < u.heap.size:=World.ownsRow.lt h x rfl
theorem A1D (A : Option Addr) (l : List Rat) (n c : Nat) (hl : l.length = n) (hc : n ≤ c) (hm : n ≤ 1048576) (hs : ∀ x ∈ l,qs x ≤ BIG) (w : World) (h : Lq w A l) :
  Calls Tryz.prog 109 #[.slice A n c] w (I1 (fun x : Nat=>.slice (some ⟨x,0,none⟩) (trN l) (trN l)) (fun x W=>PQ w.heap.size x (trL l) W) w):=by
 have htr:=fun W (hg : A3 w W)=>A2m A l n c hl hc hm hs W (h.grow hg)
 have hlt : (trL l).length = trN l:=E6 l
 have hle : trN l ≤ 1048576:=Nat.le_trans (H8 l) (by omega)
 have hlq:=fun W (hg : A3 w W)=>A4c (h.grow hg) (trN l)
 unfold PQ
 rw [hlt]
 have htl : l.take (trN l) = trL l:=rfl
 rw [htl] at hlq
 obtain ⟨TL,hTL⟩ : ∃ TL,TL = trL l:=⟨_,rfl⟩
 rw [← hTL] at hlt ⊢
 simp only [← hTL] at hlq
 obtain ⟨R,hR⟩ : ∃ R,R = trN l:=⟨_,rfl⟩
 rw [← hR] at hlt hle ⊢
 simp only [← hR] at htr
 have hmk:=A4a R hle (R : Int) rfl
 have Htr:=Lib.hid htr
 have Hmk:=Lib.hid hmk
 have Hlq:=Lib.hid hlq
 have Hlt:=Lib.hid hlt
 clear htr hmk hlq hlt htl hTL hR hs h hl hc hm
 go_enter Tryz.func109,Tryz.ntmps109
 refine en0 ?_
 intro u hG hB hF
 refine wp_seq (rsE A5 [0,1,0] hB hG fun L hL=>?_)
 refine gs ?_
 refine gmd (C:=fun v ⟨hgu,hB,hG,_⟩=>Htr.out _ hG) ?_
 refine gs ?_
 refine geT hL ?_
 clear hB hG hL L
 rintro u ⟨-,hB,hG,-⟩
 refine wp_seq ?_
 have hmk:=Hmk.out
 refine K7 ?_
 intro K hN
 go_wp2_with fail
 generalize hv : World.alloc u _ = v
 have hrow:=A3Y (B:=w.heap.size) hG.sz hle hv
 have hgv : A3 u v:=hv ▸ A3.alloc u _
 have hG2:=hG.trans hgv
 clear hv hG hB hmk hgv
 generalize u.heap.size = g at hrow ⊢
 have Ho:=Lib.hid hrow
 have hG:=hG2
 have hB:=Bx.nil v
 have hF:=Fr.nil w
 clear hrow hG2
 obtain ⟨u,rfl⟩ : ∃ x,x = v:=⟨_,rfl⟩
 refine NoK.norm (hN _ _ ?_)
 clear hN K
 refine A4 ?_
 refine wp_seq ?_
 obtain ⟨w5,hcp,q1,q2⟩:=B5e (c:=R) Ho.out Hlt.out hle (Hlq.out u hG)
 have hG2:=A2i Ho.out hG q2
 refine K7 ?_
 intro K hN
 go_wp2_with (at_builtin;refine B38 rfl (.tmp 9) (.tmp 10) 23 rfl rfl rfl hcp ?_)
 clear hcp Ho hG hB
 have Ho:=Lib.hid q1
 have hG:=hG2
 have hB:=Bx.nil w5
 clear q1 hG2 q2
 obtain ⟨u,rfl⟩ : ∃ x,x = w5:=⟨_,rfl⟩
 refine NoK.norm (hN _ _ ?_)
 clear hN K
 refine A4 ?_
 refine r0T ?_
 refine rt Tryz.results109 ?_
 exact ⟨g,rfl,Ho.out,hG⟩
theorem A2K (A : Option Addr) (l : List Rat) (n c : Nat) (hl : l.length = n) (hc : n ≤ c) (hm : n ≤ 1048576) (hs : ∀ x ∈ l,qs x ≤ BIG) (w : World) (h : Lq w A l) :
  Calls Tryz.prog 11 #[.slice A n c] w fun e w'=>e = .returned (.int .i64 ((trN l : Int) - 1)) ∧ A3 w w':=by
 have htr:=fun W (hg : A3 w W)=>A2m A l n c hl hc hm hs W (h.grow hg)
 have hle : trN l ≤ 1048576:=Nat.le_trans (H8 l) (by omega)
 obtain ⟨R,hR⟩ : ∃ R,R = trN l:=⟨_,rfl⟩
 rw [← hR] at hle ⊢
 simp only [← hR] at htr
 have fw : IntKind.i64.wrap ((R : Int) - 1) = (R : Int) - 1:=IntWalk.i64_in _ (by omega)
 have Htr:=Lib.hid htr
 clear htr hR hs h hl hc hm
 go_enter Tryz.func11,Tryz.ntmps11
 refine en0 ?_
 intro u hG hB hF
 refine wp_seq (rsE A5 [0,1,0,0,0] hB hG fun L hL=>?_)
 refine gs ?_
 refine gmd (C:=fun v ⟨hgu,hB,hG,_⟩=>Htr.out _ hG) ?_
 refine gs ?_
 refine geT hL ?_
 clear hB hG hL L
 rintro u ⟨-,hB,hG,-⟩
 refine rt Tryz.results11 ?_
 exact ⟨rfl,hG⟩
end Go.Proofs.YtlkniebmjdoopaaGreatDoor
