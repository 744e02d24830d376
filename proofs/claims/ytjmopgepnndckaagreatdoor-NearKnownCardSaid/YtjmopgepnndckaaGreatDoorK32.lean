/- Contracts and laws. -/
import Derived.Test.YtjmopgepnndckaaGreatDoorK31
import Derived.Test.YtjmopgepnndckaaGreatDoorCards
import Derived.Test.YtjmopgepnndckaaGreatDoorTie
import Derived.WalkKit
import Derived.ProofKit
import Derived.OpenShut
import Derived.Carry
import Derived.ChangeOld
import Derived.ChangeSlices
import Derived.Deep.DeepHandedRow
import Derived.Lib.LaidTab
set_option linter.unusedSimpArgs false
set_option linter.unusedVariables false
set_option maxHeartbeats 1000000
set_option maxRecDepth 100000
namespace Go.Proofs.YtjmopgepnndckaaGreatDoor
open Go.RowKit
def LIM : Nat:=1099511627760
theorem A5r : ∀ t ∈ [45,47,49,55,57],J7 Tryz.prog t:=by
 intro t ht
 simp only [List.mem_cons,List.not_mem_nil,or_false] at ht
 rcases ht with rfl | rfl | rfl | rfl | rfl
 ·exact fun _ _ _ _ _ _=>by rw [F8];kernel_rfl
 ·exact fun _ _ _ _ _ _=>by rw [A0E];kernel_rfl
 ·exact fun _ _ _ _ _ _=>by rw [K9];kernel_rfl
 ·exact fun _ _ _ _ _ _=>by rw [B2p];kernel_rfl
 ·exact fun _ _ _ _ _ _=>by rw [A3j];kernel_rfl
theorem A6E (a : Nat) (ha : bl a ≤ LIM) (w : World) : Calls Tryz.prog 100 #[A5 a] w (Ret (O5 a) w):=by
 unfold LIM at ha
 have hby : ∀ W,Calls Tryz.prog 143 #[A5 a] W fun e w'=>∃ A,e = .returned (.slice A (byt a).length (byt a).length) ∧ By w' A (byt a).reverse ∧ A3 W w':=fun W=>A6b a ha W
 have hfr : ∀ A W,By W A (byt a).reverse → Calls Tryz.prog 142 #[.slice A (byt a).length (byt a).length] W (Ret (O5 a) W):=fun A W h=>B2H A a W ha h
 obtain ⟨n,hn⟩ : ∃ n,n = (byt a).length:=⟨_,rfl⟩
 rw [← hn] at hby hfr
 have Hby:=Lib.hid hby
 have Hfr:=Lib.hid hfr
 clear hby hfr hn
 go_enter Tryz.func100,Tryz.ntmps100
 go_wp2_with (first
  | (go_at_call 143;((with_reducible refine (Hby.out _).mono ?_);rintro e w1 ⟨A,rfl,hA,hg1⟩))
  | (go_at_call 142;((with_reducible refine (Hfr.out _ _ hA).mono ?_);rintro e w2 ⟨x,rfl,hx,hg2⟩)))
 go_ret
 exact ⟨x,rfl,hx,(A3.alloc _ _).trans (hg1.trans hg2)⟩
theorem A9i (z : Int) (ha : bl z.natAbs ≤ LIM) (w : World) : Calls Tryz.prog 98 #[C3 z] w (Ret (Z2 z) w):=by
 have ha' : bl z.natAbs ≤ 1099511627776:=by unfold LIM at ha;omega
 go_enter Tryz.func98,Tryz.ntmps98
 refine en2 ?_
 intro u hG b2 b1 hB hF
 refine wp_seq (rdC A6 [] [(0,0),(0,3),(1,1),(0,2),(1,4),(1,5),(1,6)] hB hG fun K L hN hL=>?_)
 refine gs ?_
 refine gmw (C:=fun v=>A1e _ (by assumption) _) ?_
 refine gs ?_
 refine gmw (C:=fun v=>A1R _ _) ?_
 refine grd (O5 z.natAbs) (fun (x8 : Ax)=>?_) (C:=fun v _=>A6E z.natAbs ha _)
 refine gmd (C:=by (rintro v ⟨⟨hgu,hB,hG,-⟩,hx8⟩;have hx8 : Rn v x8 _:=hx8;exact A0o x8 _ z.natAbs _)) ?_
 refine geC hL ?_
 clear hB hG hL L
 rintro u ⟨⟨-,hB,hG,-⟩,hx8⟩
 replace hx8 : Rn u x8 _:=hx8
 refine gtT ?_
 clear hN K
 refine sv hB hF hG 1 0 [_,_] ?_
 intro u hu hBG
 replace hx8:=hx8.put hB 1 rfl (by first | decide | simp) _ _ hu
 clear hB hG hu
 obtain ⟨hB,hG⟩:=hBG
 refine rt Tryz.results98 ?_
 exact ⟨x8,congrArg (fun y : Int=>Ending.returned (riV x8 y)) (Z7 z),hx8,hG⟩
theorem A8T (q : Rat) (ha : qs q ≤ LIM) (w : World) : Calls Tryz.prog 58 #[qV q] w (Ret (A0D q) w):=by
 have h1 : bl q.num.natAbs ≤ LIM:=Nat.le_trans (F5 q) ha
 have h2 : bl q.den ≤ LIM:=Nat.le_trans (E6 q) ha
 have h3 : bl q.den ≤ 1099511627776:=by unfold LIM at h2;omega
 go_enter Tryz.func58,Tryz.ntmps58
 refine en2 ?_
 intro u hG b2 b1 hB hF
 refine wp_seq (rdC A6 [] [(0,0),(0,3),(1,1),(1,2),(1,4),(1,5),(0,6)] hB hG fun K L hN hL=>?_)
 refine gs ?_
 refine gmw (C:=fun v=>B1k _ _) ?_
 refine grd (Z2 q.num) (fun (x5 : Ax)=>?_) (C:=fun v _=>A9i q.num h1 _)
 refine gmd (C:=by (rintro v ⟨⟨hgu,hB,hG,-⟩,hx5⟩;have hx5 : Rn v x5 _:=hx5;exact N7 _ (by assumption) _)) ?_
 refine grd (O5 q.den) (fun (x8 : Ax)=>?_) (C:=by (rintro v ⟨⟨hgu,hB,hG,-⟩,hx5⟩;have hx5 : Rn v x5 _:=hx5;exact A6E q.den h2 _))
 refine gs ?_
 refine geC hL ?_
 clear hB hG hL L
 rintro u ⟨⟨⟨-,hB,hG,-⟩,hx5⟩,hx8⟩
 replace hx5 : Rn u x5 _:=hx5
 replace hx8 : Rn u x8 _:=hx8
 refine gtT ?_
 clear hN K
 refine sv hB hF hG 1 0 [_,_,_] ?_
 intro u hu hBG
 replace hx5:=hx5.put hB 1 rfl (by first | decide | simp) _ _ hu
 replace hx8:=hx8.put hB 1 rfl (by first | decide | simp) _ _ hu
 clear hB hG hu
 obtain ⟨hB,hG⟩:=hBG
 refine rt Tryz.results58 ?_
 exact ⟨(x5,x8),rfl,⟨hx5,hx8⟩,hG⟩
theorem A4o (x y : Ax) (a : Nat) (w : World) (hx : Rn w x a) (hy : Rn w y a) : Calls Tryz.prog 59 #[nvV x a,nvV y a] w fun e w'=>e = .returned (.int .i64 0) ∧ A3 w w':=by
 have := A2d x y a a w hx hy
 rw [Z9 rfl] at this
 exact this
theorem B1A (q : Rat) (x y : Ax) (ha : qs q ≤ LIM) (w : World) (hx : Rn w x q.num.natAbs) (hy : Rn w y q.den) : Calls Tryz.prog 26 #[qV q,rqV x y q] w fun e w'=>e = .returned (.bool true) ∧ A3 w w':=by
 have hl : 0 < ln q.den:=A0M.2 q.den_nz
 have hlb : ((ln q.den : Int) == 0) = false:=by simp;omega
 go_enter Tryz.func26,Tryz.ntmps26
 refine en2 ?_
 intro u hG b3 b2 hB hF
 replace hx:=hx.grow hG
 replace hy:=hy.grow hG
 refine wp_seq (rsC A5r [0,1,2] hB hG fun K L hN hL=>?_)
 refine gs ?_
 refine grd (A0D q) (fun (x7 : Ax × Ax)=>?_) (C:=fun v _=>A8T q ha _)
 refine gaa (A3j _ _ _ _ _) fun b5 hb5 hn5=>?_
 replace hF:=hF.n1 [] hB hG hb5 hn5
 refine geC hL ?_
 clear hB hG hL L
 rintro u ⟨⟨⟨hgu,hB,hG,-⟩,hx7⟩,h5⟩
 replace hB:=hB.cons' h5
 clear h5
 replace hx:=hx.grow hgu
 replace hy:=hy.grow hgu
 obtain ⟨hx7a,hx7b⟩ : Rn u x7.1 _ ∧ Rn u x7.2 _:=hx7
 clear hb5 hn5
 clear hgu
 refine gtT ?_
 clear hN K
 refine sv hB hF hG 0 0 [_,_,_] ?_
 intro u hu hBG
 replace hx:=hx.put hB 0 rfl (by first | decide | simp) _ _ hu
 replace hy:=hy.put hB 0 rfl (by first | decide | simp) _ _ hu
 replace hx7a:=hx7a.put hB 0 rfl (by first | decide | simp) _ _ hu
 replace hx7b:=hx7b.put hB 0 rfl (by first | decide | simp) _ _ hu
 clear hB hG hu
 obtain ⟨hB,hG⟩:=hBG
 refine wp_seq ?_
 refine r0T ?_
 refine wp_cond_false (rfl) ?_
 refine wp_skip ?_
 refine A4 ?_
 refine wp_seq (rsE A5r [0,0,0,0,0,0,1,0,0,0,0,0,0,0,0,0,0,0,0,0,0,0,1,0,0,0] hB hG fun L hL=>?_)
 refine gs ?_
 refine gmd (C:=fun v ⟨hgu,hB,hG,_⟩=>A4o x7.1 x q.num.natAbs _ (hx7a.grow hgu) (hx.grow hgu)) ?_
 refine gs ?_
 first | refine gmd (C:=fun v ⟨hgu,hB,hG,_⟩=>A4o x7.2 y q.den _ (hx7b.grow hgu) (hy.grow hgu)) ?_ | refine E8 ?_
 refine gs ?_
 refine geT hL ?_
 clear hB hG hL L
 rintro u ⟨hgu,hB,hG,-⟩
 replace hx:=hx.grow hgu
 replace hy:=hy.grow hgu
 replace hx7a:=hx7a.grow hgu
 replace hx7b:=hx7b.grow hgu
 clear hgu
 refine rt Tryz.results26 ?_
 exact ⟨rfl,hG⟩
theorem A3S (n d : Int) (h0 : -9223372036854775808 ≤ n) (h1 : n ≤ 9223372036854775807) (h2 : -9223372036854775808 ≤ d) (h3 : d ≤ 9223372036854775807) (hd : d ≠ 0) (ha : qs (D3 n d) ≤ LIM) (w : World) : Calls Tryz.prog 46 #[qV (D3 n d),.int .i64 n,.int .i64 d] w fun e w'=>e = .returned (.bool true) ∧ A3 w w':=by
 go_enter Tryz.func46,Tryz.ntmps46
 refine en1 ?_
 intro u hG b3 hB hF
 refine wp_seq (rdC A6 [] [(0,0),(0,1),(0,2),(1,3),(1,4)] hB hG fun K L hN hL=>?_)
 refine gs ?_
 refine grd (A0D (D3 n d)) (fun (x10 : Ax × Ax)=>?_) (C:=fun v _=>B1b n d h0 h1 h2 h3 hd _)
 refine gmd (C:=by (rintro v ⟨⟨hgu,hB,hG,-⟩,hx10⟩;obtain ⟨hx10a,hx10b⟩ : Rn v x10.1 _ ∧ Rn v x10.2 _:=hx10;exact B1A (D3 n d) x10.1 x10.2 ha _ hx10a hx10b)) ?_
 refine geC hL ?_
 clear hB hG hL L
 rintro u ⟨⟨-,hB,hG,-⟩,hx10⟩
 obtain ⟨hx10a,hx10b⟩ : Rn u x10.1 _ ∧ Rn u x10.2 _:=hx10
 refine gtT ?_
 clear hN K
 refine rt Tryz.results46 ?_
 exact ⟨rfl,hG⟩
def X9 (n m : Int) : Int:=n % m
theorem B2z (n m : Int) (hm : 0 < m) (hm2 : m ≤ 9223372036854775807) (w : World) : Calls Tryz.prog 14 #[.int .i64 n,.int .i64 m] w fun e w'=>e = .returned (.int .i64 (X9 n m)) ∧ w = w':=by
 have h0 : ¬ m = 0:=by omega
 obtain ⟨t,ht⟩ : ∃ t,t = n.tmod m:=⟨_,rfl⟩
 have hp : X9 n m = if t < 0 then t + m else t:=by
  rw [ht]
  unfold X9
  have h1:=Int.emod_nonneg n (show m ≠ 0 by omega)
  have h2:=Int.emod_lt_of_pos n hm
  rw [Int.tmod_eq_emod]
  split <;> split <;> omega
 have hb : -m < t ∧ t < m:=by
  rw [ht]
  have h1:=Int.emod_nonneg n (show m ≠ 0 by omega)
  have h2:=Int.emod_lt_of_pos n hm
  rw [Int.tmod_eq_emod]
  split <;> omega
 have htm : n.tmod m = t:=ht.symm
 have hw1 : IntKind.i64.wrap t = t:=IntWalk.i64_in _ (by omega)
 clear ht
 by_cases hneg : t < 0
 ·rw [if_pos hneg] at hp
  have hw2 : IntKind.i64.wrap (t + m) = t + m:=IntWalk.i64_in _ (by omega)
  have Hp:=Lib.hid hp
  clear hp
  go_enter Tryz.func14,Tryz.ntmps14
  go_wp2_with fail
  go_ret
  exact ⟨G9 Hp.out.symm,rfl⟩
 ·rw [if_neg hneg] at hp
  have Hp:=Lib.hid hp
  clear hp
  go_enter Tryz.func14,Tryz.ntmps14
  go_wp2_with fail
  go_ret
  exact ⟨G9 Hp.out.symm,rfl⟩
def Li (u : World) (A : Option Addr) (l : List Int) : Prop :=
 l ≠ [] → ∃ b off,A = some ⟨b,off,none⟩ ∧ b < u.heap.size ∧ ∀ i x,l[i]? = some x → u.cell? ⟨b,off + i,none⟩ = some (.int .i64 x)
theorem Li.nil (u : World) (A : Option Addr) : Li u A []:=fun h=>absurd rfl h
theorem Li.grow {u u' : World} {A : Option Addr} {l : List Int} (h : Li u A l) (hg : A3 u u') : Li u' A l:=fun hn=>by
 obtain ⟨b,off,e,hb,hc⟩:=h hn
 exact ⟨b,off,e,Nat.lt_of_lt_of_le hb hg.size,fun i x hi=>(hg.cell (p:=⟨b,off + i,none⟩) hb).trans (hc i x hi)⟩
def gi (l : List Int) (i : Nat) : Int:=(l[i]?).getD 0
theorem B0h {l : List Int} {i : Nat} (h : i < l.length) : l[i]? = some (gi l i):=by
 unfold gi;rw [List.getElem?_eq_getElem h];rfl
theorem Li.cell {u : World} {A : Option Addr} {l : List Int} (h : Li u A l) {i : Nat} (hi : i < l.length) : ∃ b off,A = some ⟨b,off,none⟩ ∧ u.cell? ⟨b,off + i,none⟩ = some (.int .i64 (gi l i)):=by
 obtain ⟨b,off,e,hb,hc⟩:=h (fun h0=>by rw [h0] at hi;cases hi)
 exact ⟨b,off,e,hc i _ (B0h hi)⟩
def cnt (t : Nat → Bool) : Nat → Nat
 | 0=>0
 | n + 1=>cnt t n + (if t n then 1 else 0)
def A1K (b2 b3 : Nat) (A B : Option Addr) (m c d : Nat) (l l' : List Int) (W : World) : Prop :=
 Blk W b2 22 #[.slice A m c] ∧ Blk W b3 22 #[.slice B m d] ∧ Li W A l ∧ Li W B l'
theorem A1K.mk {b2 b3 : Nat} {A B : Option Addr} {m c d : Nat} {l l' : List Int} {u : World} (h1 : Blk u b2 22 #[.slice A m c]) (h2 : Blk u b3 22 #[.slice B m d]) (h3 : Li u A l) (h4 : Li u B l') : A1K b2 b3 A B m c d l l' u:=⟨h1,h2,h3,h4⟩
theorem A1K.grow {b2 b3 : Nat} {A B : Option Addr} {m c d : Nat} {l l' : List Int} {u u' : World} (hg : A3 u u') (h : A1K b2 b3 A B m c d l l' u) : A1K b2 b3 A B m c d l l' u':=⟨h.1.grow hg,h.2.1.grow hg,h.2.2.1.grow hg,h.2.2.2.grow hg⟩
def hits (l l' : List Int) (m : Nat) : Nat:=cnt (fun i=>gi l i == gi l' i) m
end Go.Proofs.YtjmopgepnndckaaGreatDoor
namespace Go.Proofs.YtjmopgepnndckaaGreatDoor
open Go.ChangeShapes Go.WideShapes Go.ChangeAt Go.RowKit
theorem B1X : ownKnob Tryz.prog.godebug = none:=by kernel_rfl
theorem B3G : laidOutB Tryz.prog = true:=by kernel_rfl
theorem A7V {H : Type} {enc : TypeId × Value → H} {W W' : World} (hb : Below W.heap.size W W') : ∀ {ts : List TypeId} {vs : List Value} {ds : List (DataW H)} {ps : List MemPlace},(∀ t ∈ ts,Tryz.prog.readableRec t = true ∧ t < Tryz.prog.types.size) → (∀ x ∈ ps,x.block < W.heap.size) →
  DataW.TrodAll enc Tryz.prog W 0 (fun _=>true) true ts vs ds ps → DataW.TrodAll enc Tryz.prog W' 0 (fun b=>decide (b < W.heap.size)) true ts vs ds ps
 | [],vs,ds,ps,_,_,h=>by
  obtain ⟨rfl,rfl,rfl⟩:=trodAll_nil h
  exact trodAll_mk0
 | t :: ts,vs,ds,ps,ht,hlt,h=>by
  obtain ⟨v,vs1,d,ds1,a,b,rfl,rfl,rfl,h1,h2⟩:=trodAll_cons h
  obtain ⟨r1,r2⟩:=ht t (by simp)
  exact ⟨a,b,Below.trod B3G r1 r2 h1 hb (fun x hx=>hlt x (by simp [hx])),A7V hb (fun t ht'=>ht t (by simp [ht'])) (fun x hx=>hlt x (by simp [hx])) h2,rfl⟩
theorem A8A {H : Type} {enc : TypeId × Value → H} {f : Func} {s : ChangeSpec} {apart : Bool} {W W' : World} {args : Array Value} {ds gs : List (DataW H)} {before : List MemPlace}
  (hW : DataW.Whole enc Tryz.prog f.params.toList s.vars apart W args.toList ds gs before) (hv : s.vars = []) (hf1 : (s.fn H (ds ++ gs)).results = [.lit (.bool true)]) (hf2 : (s.fn H (ds ++ gs)).args = ds) (hf3 : (s.fn H (ds ++ gs)).vars = []) (hr : f.resultTypes = #[4])
  (hp : ∀ t ∈ f.params.toList,Tryz.prog.readableRec t = true ∧ t < Tryz.prog.types.size) (hb : Below W.heap.size W W') : s.post enc Tryz.prog f apart true false false W args (.bool true) W':=by
 have hlt:=hW.lt
 have hW2:=hW
 obtain ⟨p,q,hA,hV,rfl,hz,hn⟩:=hW
 refine ⟨ds,gs,p ++ q,[],p,[],hW2,?_,?_,?_,?_,fun h=>by cases h⟩
 ·rw [hf1,hr]
  exact trodAll_cons_mk (shut_bool Tryz.underlying4 _) trodAll_mk0
 ·rw [hf2]
  exact A7V hb hp (fun x hx=>hlt x (by simp [hx])) hA
 ·rw [hf3,hv]
  rfl
 ·exact hb.frame _
def A4X : List Int:=[0,1,56,2,57,49,28,3,61,58,42,50,38,29,17,4,62,47,59,36,45,43,51,22,53,39,33,30,24,18,12,5,63,55,48,27,60,41,37,16,46,35,44,21,52,32,23,11,54,26,40,15,34,20,31,10,25,14,19,9,13,8,7,6]
theorem B1E : ∀ j,j < 64 → A4X.getD j 0 = ((Lib.deBruijn64tab.getD j 0 : Nat) : Int):=by decide
theorem B20 : (Tryz.prog.globals[2]?).map (·.type) = some 270:=by kernel_rfl
theorem B0z : Tryz.prog.cellsOf 270 = 64:=by kernel_rfl
theorem B2y : Tryz.prog.cellsOf 5 = 1:=by kernel_rfl
theorem A83 {W : World} {name : String} (hg : Tryz.prog.globalNamed name = some 2) (h : laidMetH Tryz.prog [(name,Lib.tabData .u8 A4X)] W) : Tab W:=fun j hj=>by
 have h1:=(Lib.tabIs_of_head (rest:=[]) hg B20 Tryz.underlying270 Tryz.underlying5 B2y B0z h).cell hg j (by show j < 64;exact hj)
 rw [B1E j hj] at h1
 exact h1
noncomputable def laidWorld (os : Os) : World :=
 { World.holding Tryz.prog os ⟨#[],#[],[]⟩ with heap:=(World.holding Tryz.prog os ⟨#[],#[],[]⟩).heap.modify 2 fun
   | .cells _ t frozen=>.cells (A4X.map fun x=>Value.int .u8 x).toArray t frozen
   | o=>o }
end Go.Proofs.YtjmopgepnndckaaGreatDoor
