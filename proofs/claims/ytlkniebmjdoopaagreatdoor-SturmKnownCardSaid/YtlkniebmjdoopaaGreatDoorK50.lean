/-
  The claim's theorem: Law StZ SturmKnownZ.
-/
import Derived.Test.YtlkniebmjdoopaaGreatDoorK49
import Derived.Test.YtlkniebmjdoopaaGreatDoorCards
import Derived.Test.YtlkniebmjdoopaaGreatDoorTie
import Derived.WalkKit
import Derived.ProofKit
import Derived.OpenShut
import Derived.Carry
import Derived.ChangeOld
import Derived.ChangeSlices
import Derived.Deep.DeepHandedRow
import Derived.Lib.LaidTab
set_option linter.unusedSimpArgs false
set_option linter.unusedVariables false
set_option maxHeartbeats 16000000
set_option maxRecDepth 100000
namespace Go.Proofs.YtlkniebmjdoopaaGreatDoor
open Go.ChangeShapes Go.WideShapes Go.ChangeAt Go.RowKit
theorem B1l : ownKnob Tryz.prog.godebug = none:=by kernel_rfl
theorem B18 : laidOutB Tryz.prog = true:=by kernel_rfl
theorem A7I {H : Type} {enc : TypeId × Value → H} {W W' : World} (hb : Below W.heap.size W W') : ∀ {ts : List TypeId} {vs : List Value} {ds : List (DataW H)} {ps : List MemPlace},(∀ t ∈ ts,Tryz.prog.readableRec t = true ∧ t < Tryz.prog.types.size) → (∀ x ∈ ps,x.block < W.heap.size) →
  DataW.TrodAll enc Tryz.prog W 0 (fun _=>true) true ts vs ds ps → DataW.TrodAll enc Tryz.prog W' 0 (fun b=>decide (b < W.heap.size)) true ts vs ds ps
 | [],vs,ds,ps,_,_,h=>by
  obtain ⟨rfl,rfl,rfl⟩:=trodAll_nil h
  exact trodAll_mk0
 | t :: ts,vs,ds,ps,ht,hlt,h=>by
  obtain ⟨v,vs1,d,ds1,a,b,rfl,rfl,rfl,h1,h2⟩:=trodAll_cons h
  obtain ⟨r1,r2⟩:=ht t (by simp)
  exact ⟨a,b,Below.trod B18 r1 r2 h1 hb (fun x hx=>hlt x (by simp [hx])),A7I hb (fun t ht'=>ht t (by simp [ht'])) (fun x hx=>hlt x (by simp [hx])) h2,rfl⟩
theorem B6q {H : Type} {enc : TypeId × Value → H} {f : Func} {s : ChangeSpec} {apart : Bool} {W W' : World} {args : Array Value} {ds gs : List (DataW H)} {before : List MemPlace}
  (hW : DataW.Whole enc Tryz.prog f.params.toList s.vars apart W args.toList ds gs before) (hv : s.vars = []) (hf1 : (s.fn H (ds ++ gs)).results = [.lit (.bool true)]) (hf2 : (s.fn H (ds ++ gs)).args = ds) (hf3 : (s.fn H (ds ++ gs)).vars = []) (hr : f.resultTypes = #[4])
  (hp : ∀ t ∈ f.params.toList,Tryz.prog.readableRec t = true ∧ t < Tryz.prog.types.size) (hb : Below W.heap.size W W') : s.post enc Tryz.prog f apart true false false W args (.bool true) W':=by
 have hlt:=hW.lt
 have hW2:=hW
 obtain ⟨p,q,hA,hV,rfl,hz,hn⟩:=hW
 refine ⟨ds,gs,p ++ q,[],p,[],hW2,?_,?_,?_,?_,fun h=>by cases h⟩
 ·rw [hf1,hr]
  exact trodAll_cons_mk (shut_bool Tryz.underlying4 _) trodAll_mk0
 ·rw [hf2]
  exact A7I hb hp (fun x hx=>hlt x (by simp [hx])) hA
 ·rw [hf3,hv]
  rfl
 ·exact hb.frame _
def A47 : List Int:=[0,1,56,2,57,49,28,3,61,58,42,50,38,29,17,4,62,47,59,36,45,43,51,22,53,39,33,30,24,18,12,5,63,55,48,27,60,41,37,16,46,35,44,21,52,32,23,11,54,26,40,15,34,20,31,10,25,14,19,9,13,8,7,6]
theorem B1J : ∀ j,j < 64 → A47.getD j 0 = ((Lib.deBruijn64tab.getD j 0 : Nat) : Int):=by decide
theorem B0c : (Tryz.prog.globals[2]?).map (·.type) = some 236:=by kernel_rfl
theorem B2L : Tryz.prog.cellsOf 236 = 64:=by kernel_rfl
theorem B2t : Tryz.prog.cellsOf 5 = 1:=by kernel_rfl
theorem B4q {W : World} {name : String} (hg : Tryz.prog.globalNamed name = some 2) (h : laidMetH Tryz.prog [(name,Lib.tabData .u8 A47)] W) : Tab W:=fun j hj=>by
 have h1:=(Lib.tabIs_of_head (rest:=[]) hg B0c Tryz.underlying236 Tryz.underlying5 B2t B2L h).cell hg j (by show j < 64;exact hj)
 rw [B1J j hj] at h1
 exact h1
noncomputable def laidWorld (os : Os) : World :=
 { World.holding Tryz.prog os ⟨#[],#[],[]⟩ with heap:=(World.holding Tryz.prog os ⟨#[],#[],[]⟩).heap.modify 2 fun
   | .cells _ t frozen=>.cells (A47.map fun x=>Value.int .u8 x).toArray t frozen
   | o=>o }
end Go.Proofs.YtlkniebmjdoopaaGreatDoor
namespace Go.Proofs.YtlkniebmjdoopaaGreatDoor
open Go Go.RowKit
theorem A4D (v : World) (l : List Rat) (n : Nat) (hn : l.length = n) : PR l (some ⟨v.heap.size,0,none⟩,n) (v.alloc (.cells (l.flatMap qL).toArray 39)) :=
 ⟨B2e v l,by omega,fun a ha=>by
  injection ha with ha
  subst ha
  exact ⟨_,_,Blk.new v 39 _⟩⟩
theorem B6R {u : World} {p q : Az} {a b : Rat} (h1 : Rn u p.1 a.num.natAbs) (h2 : Rn u p.2 a.den) (h3 : Rn u q.1 b.num.natAbs) (h4 : Rn u q.2 b.den) : H4 u [(p,a),(q,b)]:=fun x hx=>by
 simp only [List.mem_cons,List.not_mem_nil,or_false] at hx
 rcases hx with rfl | rfl
 ·exact ⟨h1,h2⟩
 ·exact ⟨h3,h4⟩
def kZ : List Rat:=List.replicate 3 0
def kL : List Rat:=(List.replicate 26 (0 : Rat)).set 25 (A8 1)
theorem B2I : S5 kZ = 6:=by kernel_rfl
theorem B00 : S5 kL = 4:=by kernel_rfl
theorem A6w {l : List Rat} {E : Int} (hE : S5 l = E) (hm : l.length ≤ 1000) (hs : ∀ x ∈ l,qs x ≤ BIG) (W : World) (x : Ax) (hx : PR l x W) : F9 50 #[.slice x.1 l.length x.2] W E:=by
 have := A3M x.1 l l.length x.2 rfl hx.2.1 (by omega) hs W hx.1
 rw [hE] at this
 exact this
theorem A9J {l : List Rat} {E : Int} (hE : S5 l = E) (h0 : (E != 0) = true) (hm : l.length ≤ 1000) (hs : ∀ x ∈ l,qs x ≤ BIG) (W : World) (x : Ax) (hx : PR l x W) : F5 10 #[.slice x.1 l.length x.2] W (.tuple #[.slice none 0 0,.int .i64 E]) :=
 B3E x.1 x.2 l.length E h0 0 W fun V hg=>B1t x.1 x.2 l.length E h0 V fun U hg2=>A6w hE hm hs U x (hx.grow (hg.trans hg2))
theorem B6n : spV 0 (A8 3) = .agg #[.bool false,.int .u64 0,.string ⟨#[]⟩,.int .u64 0,.string ⟨#[]⟩,.bool (D1 (A8 3).num),.int .u64 (B3 (A8 3).num.natAbs),.string (B1 (A8 3).num.natAbs),.int .u64 (B3 (G3 (A8 3).den)),.string (B1 (G3 (A8 3).den))]:=by kernel_rfl
theorem B6M : ∀ y ∈ kZ,qs y ≤ BIG:=fun y hy=>by
 have e:=List.eq_of_mem_replicate (show y ∈ List.replicate 3 (0 : Rat) from hy)
 rw [e,A5t]
 have := K5
 omega
theorem B11 : ∀ y ∈ kL,qs y ≤ BIG:=fun y hy=>by
 have eB:=K5
 rcases List.mem_or_eq_of_mem_set (show y ∈ (List.replicate 26 (0 : Rat)).set 25 (A8 1) from hy) with h | h
 ·rw [List.eq_of_mem_replicate h,A5t];omega
 ·have h9 : qs (A8 1) ≤ 1:=by decide
  rw [h];omega
theorem B0R (W : World) (x : Nat) (hx : PR kZ (some ⟨x,0,none⟩,3) W) : F5 10 #[.slice (some ⟨x,0,none⟩) 3 3] W (.tuple #[.slice none 0 0,.int .i64 6]):=by
 have hl : kZ.length = 3:=by simp [kZ]
 have h:=A9J (l:=kZ) B2I rfl (by omega) B6M W (some ⟨x,0,none⟩,3) hx
 rw [hl] at h
 exact h
theorem B1o (W : World) (x : Nat) (hx : PR kL (some ⟨x,0,none⟩,26) W) : F5 10 #[.slice (some ⟨x,0,none⟩) 26 26] W (.tuple #[.slice none 0 0,.int .i64 4]):=by
 have hl : kL.length = 26:=by simp [kL]
 have h:=A9J (l:=kL) B00 rfl (by omega) B11 W (some ⟨x,0,none⟩,26) hx
 rw [hl] at h
 exact h
theorem B6e (w : World) (HT : Tab w) : Calls Tryz.prog 6 #[] w fun e w'=>e = .returned (.bool true) ∧ A3 w w':=by
 have eB:=K5
 have hin : ∀ (l : List Rat) (n : Nat),l.length = n → n ≤ 1000 → (∀ x ∈ l,qs x ≤ BIG) → ∀ (W : World) (x : Nat),Lz W (some ⟨x,0,none⟩) l → Tab W → Calls Tryz.prog 8 #[.slice (some ⟨x,0,none⟩) n n] W (I1 (fun x : Ax=>.slice x.1 n x.2) (fun x W=>PR l x W) W):=fun l n h1 h2 h3 W x hz hT=>A6n (some ⟨x,0,none⟩) l n n h1.symm (by omega) h3 W hz hT
 have hinP:=hin kP 3 rfl (by omega) V3.qsB
 have hinQ:=hin kQ 2 rfl (by omega) A8y.qsB
 have hinR:=hin kR 3 rfl (by omega) A9P.qsB
 have hc0 : ∀ W,F5 14 #[.slice none 0 0,qV (A8 1),qV (A8 1)] W (.tuple #[.int .i64 0,.int .i64 6]):=fun W=>B58 none 0 0 (A8 1) (A8 1) 6 rfl W fun V hg=>A6w (l:=[]) (by kernel_rfl) (by simp) (fun x hx=>by cases hx) V (none,0) (PR.nil V)
 have hc1 : ∀ W (x : Ax),PR kP x W → F5 14 #[.slice x.1 3 x.2,qV (A8 1),qV (A8 0)] W (.tuple #[.int .i64 0,.int .i64 1]):=fun W x hx=>B3q x.1 x.2 3 (A8 1) (A8 0) W (fun V hg=>V3.refuse x.1 x.2 V (hx.grow hg)) (fun V=>A2S (A8 1) (A8 0) V (by have h9 : qs (A8 1) + qs (A8 0) + 1 ≤ 10:=(by decide);omega))
 have hr3 : ∀ W (x : Nat),PR kZ (some ⟨x,0,none⟩,3) W → F5 10 #[.slice (some ⟨x,0,none⟩) 3 3] W (.tuple #[.slice none 0 0,.int .i64 6]):=B0R
 have hr26 : ∀ W (x : Nat),PR kL (some ⟨x,0,none⟩,26) W → F5 10 #[.slice (some ⟨x,0,none⟩) 26 26] W (.tuple #[.slice none 0 0,.int .i64 4]):=B1o
 have hn1 : ∀ W (x : Ax),PR kP x W → Tab W → F5 36 #[.slice x.1 3 x.2,spV (A8 (-3)) (A8 3),qV (A8 1)] W (.tuple #[spV 0 0,.int .i64 1]):=fun W x hx hT=>B4J x.1 x.2 W hx hT
 have hn2 : ∀ W (x : Ax),PR kP x W → Tab W → F5 36 #[.slice x.1 3 x.2,.agg #[.bool false,.int .u64 0,.string ⟨#[]⟩,.int .u64 0,.string ⟨#[]⟩,.bool (D1 (A8 3).num),.int .u64 (B3 (A8 3).num.natAbs),.string (B1 (A8 3).num.natAbs),.int .u64 (B3 (G3 (A8 3).den)),.string (B1 (G3 (A8 3).den))],qV (A8 1)] W (.tuple #[spV (B5 3 4) (B5 3 2),.int .i64 0]):=fun W x hx hT=>by
  have h:=B4h x.1 x.2 W hx hT
  rw [B6n] at h
  exact h
 have hs1 : ∀ W (x y : Ax),PR kP x W → PR kQ y W → Tab W → F5 40 #[.slice x.1 3 x.2,spV (B5 3 4) (B5 3 2),.slice y.1 2 y.2] W (.tuple #[.int .i64 1,.int .i64 0]):=fun W x y hx hy hT=>B1g x.1 y.1 x.2 y.2 W hx hy hT
 have hs2 : ∀ W (x y : Ax),PR kP x W → PR kR y W → Tab W → F5 40 #[.slice x.1 3 x.2,spV (B5 3 4) (B5 3 2),.slice y.1 3 y.2] W (.tuple #[.int .i64 0,.int .i64 0]):=fun W x y hx hy hT=>B3G x.1 y.1 x.2 y.2 W hx hy hT
 have hb7 : ∀ W (x : Nat),PR kS (some ⟨x,0,none⟩,1) W → Tab W → F5 13 #[.slice (some ⟨x,0,none⟩) 1 1] W (.tuple #[qV (B5 1 1),.int .i64 0]):=fun W x hx hT=>by
  have h:=A51.bound (some ⟨x,0,none⟩) 1 W hx hT
  rw [A9C] at h
  exact h
 have hr7 : ∀ W (x : Nat),PR kS (some ⟨x,0,none⟩,1) W → Tab W → Calls Tryz.prog 10 #[.slice (some ⟨x,0,none⟩) 1 1] W (I1 (fun x : Ax=>.tuple #[.slice x.1 0 x.2,.int .i64 0]) (fun x W=>SW [] x W) W):=fun W x hx hT=>by
  have h:=A6t (A51.roots (some ⟨x,0,none⟩) 1 W hx hT)
  rw [B0k] at h
  exact h
 have hcP : ∀ W (x : Ax),PR kP x W → Tab W → Calls Tryz.prog 22 #[.slice x.1 3 x.2] W (I4 (chL (fun r=>r) kP) 3 W):=fun W x hx hT=>by
  have h:=V3.chain W x.1 x.2 hx hT
  rw [B5G] at h
  exact h
 have hcS : ∀ W (x : Nat),PR kS (some ⟨x,0,none⟩,1) W → Tab W → Calls Tryz.prog 22 #[.slice (some ⟨x,0,none⟩) 1 1] W (I4 (chL (fun r=>r) kS) 1 W):=fun W x hx hT=>by
  have h:=A51.chain W (some ⟨x,0,none⟩) 1 hx hT
  rw [B0p] at h
  exact h
 unfold I4 at hcP hcS
 have his : ∀ (n d : Int),(n = 3 ∧ d = 4) ∨ (n = 3 ∧ d = 2) ∨ (n = 1 ∧ d = 1) → ∀ W,Calls Tryz.prog 43 #[qV (B5 n d),.int .i64 n,.int .i64 d] W fun e w'=>e = .returned (.bool true) ∧ A3 W w':=fun n d hn W=>by
  rcases hn with ⟨rfl,rfl⟩ | ⟨rfl,rfl⟩ | ⟨rfl,rfl⟩ <;> exact A7r _ _ (by omega) (by omega) (by omega) (by omega) (by omega) (by decide) W
 have hS1 : kS = [A8 7]:=rfl
 have HinP:=Lib.hid hinP
 have HinQ:=Lib.hid hinQ
 have HinR:=Lib.hid hinR
 have Hc0:=Lib.hid hc0
 have Hc1:=Lib.hid hc1
 have Hr3:=Lib.hid hr3
 have Hr26:=Lib.hid hr26
 have Hn1:=Lib.hid hn1
 have Hn2:=Lib.hid hn2
 have Hs1:=Lib.hid hs1
 have Hs2:=Lib.hid hs2
 have Hb7:=Lib.hid hb7
 have Hr7:=Lib.hid hr7
 have HcP:=Lib.hid hcP
 have HcS:=Lib.hid hcS
 have His:=Lib.hid his
 clear hin hinP hinQ hinR hc0 hc1 hr3 hr26 hn1 hn2 hs1 hs2 hb7 hr7 hcP hcS his hS1 eB
 go_enter Tryz.func6,Tryz.ntmps6
 refine en0 ?_
 intro u hG hB hF
 refine wp_seq (rsE C2 [1,1,1,1,1,0] hB hG fun L hL=>?_)
 refine grd (L6 (A8 (-2))) (fun (x24 : Ax × Ax)=>?_) (C:=fun v _=>W8 (-2) (by omega) (by omega) _)
 refine grd (L6 (A8 0)) (fun (x25 : Ax × Ax)=>?_) (C:=by (rintro v ⟨⟨hgu,hB,hG,-⟩,hx24⟩;obtain ⟨hx24a,hx24b⟩ : Rn v x24.1 _ ∧ Rn v x24.2 _:=hx24;exact W8 0 (by omega) (by omega) _))
 refine grd (L6 (A8 1)) (fun (x26 : Ax × Ax)=>?_) (C:=by (rintro v ⟨⟨⟨hgu,hB,hG,-⟩,hx24⟩,hx25⟩;obtain ⟨hx24a,hx24b⟩ : Rn v x24.1 _ ∧ Rn v x24.2 _:=hx24;obtain ⟨hx25a,hx25b⟩ : Rn v x25.1 _ ∧ Rn v x25.2 _:=hx25;exact W8 1 (by omega) (by omega) _))
 refine gx Nat (fun b=>.slice (some ⟨b,0,none⟩) 3 3) (fun b W=>Blk W b 66 (([(x24,A8 (-2)),(x25,A8 0),(x26,A8 1)] : List Zr).flatMap zrL).toArray) (fun b u u' hg h=>h.grow hg) rfl ?_ (fun x27=>?_)
 ·(rintro v ⟨⟨⟨⟨hgu,hB,hG,-⟩,hx24⟩,hx25⟩,hx26⟩ N hN;go_simp;exact hN v.heap.size _ (Blk.new v 66 (([(x24,A8 (-2)),(x25,A8 0),(x26,A8 1)] : List Zr).flatMap zrL).toArray) (A3.alloc _ _))
 refine okf (by simp only [Act.put,List.setIfInBounds_toArray,List.set_cons_succ,List.set_cons_zero];exact rfl) ?_
 refine gxd (X:=Ax) (fun x : Ax=>.slice x.1 3 x.2) (fun x W=>PR kP x W) (fun x u u' hg h=>h.grow hg) (fun x28=>?_) (C:=by (rintro v ⟨⟨⟨⟨⟨hgu,hB,hG,-⟩,hx24⟩,hx25⟩,hx26⟩,hx27⟩;obtain ⟨hx24a,hx24b⟩ : Rn v x24.1 _ ∧ Rn v x24.2 _:=hx24;obtain ⟨hx25a,hx25b⟩ : Rn v x25.1 _ ∧ Rn v x25.2 _:=hx25;obtain ⟨hx26a,hx26b⟩ : Rn v x26.1 _ ∧ Rn v x26.2 _:=hx26;exact HinP.out _ x27 (A4A (ps:=[(x24,A8 (-2)),(x25,A8 0),(x26,A8 1)]) hx27 (A4u hx24a hx24b hx25a hx25b hx26a hx26b) (show (3 : Nat) ≤ 1000 by omega)) (HT.grow hG)))
 refine gs ?_
 refine geT hL ?_
 clear hB hG hL L
 rintro u ⟨⟨⟨⟨⟨⟨hgu,hB,hG,-⟩,hx24⟩,hx25⟩,hx26⟩,hx27⟩,hx28⟩
 obtain ⟨hx24a,hx24b⟩ : Rn u x24.1 _ ∧ Rn u x24.2 _:=hx24
 obtain ⟨hx25a,hx25b⟩ : Rn u x25.1 _ ∧ Rn u x25.2 _:=hx25
 obtain ⟨hx26a,hx26b⟩ : Rn u x26.1 _ ∧ Rn u x26.2 _:=hx26
 have HP:=Lib.hid hx28
 clear hx24a hx24b hx25a hx25b hx26a hx26b hx27 hx28
 clear hgu
 have HG0:=Lib.hid hG
 clear hB hF hG
 obtain ⟨w0,rfl⟩ : ∃ x,x = w:=⟨_,rfl⟩
 obtain ⟨w,hwu⟩ : ∃ x,x = u:=⟨_,rfl⟩
 rw [← hwu] at HG0 HP
 have hB:=Bx.nil u
 have hF:=Fr.nil w
 have hG : A3 w u:=hwu ▸ A3.refl u
 clear hwu
 refine wp_seq (rsC C2 [1,2] hB hG fun K L hN hL=>?_)
 refine gmw (C:=fun v=>O7 1 (by omega) (by omega) _) ?_
 refine gaa (N0 _ _ _ _ _) fun b2 hb2 hn2=>?_
 replace hF:=hF.n1 [] hB hG hb2 hn2
 refine geC hL ?_
 clear hB hG hL L
 rintro u ⟨⟨-,hB,hG,-⟩,h2⟩
 replace hB:=hB.cons' h2
 clear h2
 clear hb2 hn2
 refine gtT ?_
 clear hN K
 refine st hB hF hG 0 0 [_,_,_,_,_] ?_
 clear hB hG
 intro u hB hG
 refine wp_seq (rsE C2 [0,0,1,0,0,0,0,0] hB hG fun L hL=>?_)
 refine gs ?_
 refine gmw (C:=fun v=>Hc0.out _) ?_
 refine gs ?_
 refine geT hL ?_
 clear hB hG hL L
 rintro u ⟨-,hB,hG,-⟩
 refine wp_seq (rdC C2 [] [(0,0),(0,1),(1,2),(1,3),(0,4),(0,5),(0,6),(0,7)] hB hG fun K L hN hL=>?_)
 refine gs ?_
 refine gmw (C:=fun v=>O7 0 (by omega) (by omega) _) ?_
 refine gmd (C:=fun v ⟨hgu,hB,hG,_⟩=>Hc1.out _ x28 (HP.out.grow hG)) ?_
 refine gs ?_
 refine geC hL ?_
 clear hB hG hL L
 rintro u ⟨-,hB,hG,-⟩
 refine gtT ?_
 clear hN K
 refine wp_seq (rsE C2 [1,1,0,0,0,0,0] hB hG fun L hL=>?_)
 refine gx Nat (fun b=>.slice (some ⟨b,0,none⟩) 3 3) (fun b W=>PR kZ (some ⟨b,0,none⟩,3) W) (fun b u u' hg h=>h.grow hg) rfl ?_ (fun x44=>?_)
 ·(rintro v ⟨hgu,hB,hG,-⟩ N hN;have hmk:=A1V 3 (by omega) 3 rfl v;go_simp;exact hN v.heap.size _ (A4D v kZ 3 rfl) (A3.alloc _ _))
 refine okf (by simp only [Act.put,List.setIfInBounds_toArray,List.set_cons_succ,List.set_cons_zero];exact rfl) ?_
 refine gmd (C:=fun v ⟨⟨hgu,hB,hG,_⟩,hx44⟩=>Hr3.out _ x44 hx44) ?_
 refine gs ?_
 refine geT hL ?_
 clear hB hG hL L
 rintro u ⟨⟨hgu,hB,hG,-⟩,hx44⟩
 clear hx44
 clear hgu
 refine wp_seq (rsE C2 [1,0] hB hG fun L hL=>?_)
 refine gx Nat (fun b=>.slice (some ⟨b,0,none⟩) 26 26) (fun b W=>W.ownsRow w.heap.size 39 5 (.slice (some ⟨b,0,none⟩) 26 26) 26 ((List.replicate 26 (0 : Rat)).flatMap qL) ∧ b2 ≠ b) (fun b u u' hg h=>⟨F3 h.1 hg,h.2⟩) rfl ?_ (fun x48=>?_)
 ·(rintro v ⟨hgu,hB,hG,-⟩ N hN;have hmk:=A1V 26 (by omega) 26 rfl v;go_simp;exact hN v.heap.size _ ⟨A2q hG.sz (by omega) rfl,Nat.ne_of_lt hB.head.lt⟩ (A3.alloc _ _))
 refine okf (by simp only [Act.put,List.setIfInBounds_toArray,List.set_cons_succ,List.set_cons_zero];exact rfl) ?_
 refine gs ?_
 refine geT hL ?_
 clear hB hG hL L
 rintro u ⟨⟨hgu,hB,hG,-⟩,hx48⟩
 have HO:=Lib.hid hx48.1
 have h48:=hx48.2
 clear hx48
 clear hgu
 refine wp_seq ?_
 obtain ⟨z0,z1,z2,z3,z4,o0,o1,o2,o3,o4,hfz⟩:=A1X (enc:=qL) (fun _=>rfl) HO.out (by simp) 25 (by simp)
 refine r0N ?_
 clear o0 o1 o2 o3 o4 hfz
 generalize hu0 : World.setCell (World.setCell (World.setCell (World.setCell (World.setCell u _ _) _ _) _ _) _ _) _ _ = u0
 have hu1 : E9 u x48 (25 * 5) (qL (A8 1)) = u0:=hu0
 have hP:=A1J (enc:=qL) (size:=5) (ps:=List.replicate 26 (0 : Rat)) (fun _=>rfl) HO.out 25 (A8 1) (by simp)
 rw [hu1] at hP
 have hG2:=A4Z HO.out hG hP.2
 have hB2:=hB.grown_ hP.2 (fun e he hxe=>by
  have e2:=Option.some.inj hxe
  simp only [List.mem_cons,List.not_mem_nil,or_false] at he
  subst he
  exact h48 e2)
 obtain ⟨⟨ya,yb⟩,e9,HP9⟩:=B0A (l:=kL) hP.1
 have h9 : PR kL (some ⟨x48,0,none⟩,26) u0:=by
  simp only at e9
  injection e9 with e1 e2 e3
  subst e1
  subst e3
  exact HP9
 have HL:=Lib.hid h9
 clear hG hB HO hP hu1 hu0 h9 HP9 e9 h48
 have hG:=hG2
 have hB:=hB2
 clear hG2 hB2
 obtain ⟨u,rfl⟩ : ∃ x,x = u0:=⟨_,rfl⟩
 refine wp_seq (rsE C2 [0,1,0,0,0,0,0] hB hG fun L hL=>?_)
 refine gs ?_
 refine gmd (C:=fun v ⟨hgu,hB,hG,_⟩=>Hr26.out _ x48 (HL.out.grow hgu)) ?_
 refine gs ?_
 refine geT hL ?_
 clear hB hG hL L
 rintro u ⟨hgu,hB,hG,-⟩
 clear HL
 clear hgu
 refine wp_seq (rdC C2 [8] [(0,0),(0,4),(1,1),(1,2),(0,3),(1,5),(0,6),(0,7),(0,8),(2,9)] hB hG fun K L hN hL=>?_)
 refine gs ?_
 refine gmw (C:=fun v=>O7 (-3) (by omega) (by omega) _) ?_
 refine gmw (C:=fun v=>O7 3 (by omega) (by omega) _) ?_
 refine gs ?_
 refine gmd (C:=fun v ⟨hgu,hB,hG,_⟩=>Hn1.out _ x28 (HP.out.grow hG) (HT.grow (HG0.out.trans hG))) ?_
 refine gs ?_
 refine gaa (A4r _ _ _ _ _) fun b12 hb12 hn12=>?_
 replace hF:=hF.n1 [] hB hG hb12 hn12
 refine geC hL ?_
 clear hB hG hL L
 rintro u ⟨⟨-,hB,hG,-⟩,h12⟩
 replace hB:=hB.cons' h12
 clear h12
 clear hb12 hn12
 refine gtT ?_
 clear hN K
 refine st hB hF hG 0 0 [_,_,_,_,_,_,_,_,_,_] ?_
 clear hB hG
 intro u hB hG
 refine wp_seq (rdC C2 [7] [(0,0),(0,3),(1,1),(0,2),(1,4),(0,5),(0,6),(0,7),(2,8)] hB hG fun K L hN hL=>?_)
 refine gs ?_
 refine gmw (C:=fun v=>O7 3 (by omega) (by omega) _) ?_
 refine gs ?_
 refine gmd (C:=fun v ⟨hgu,hB,hG,_⟩=>Hn2.out _ x28 (HP.out.grow hG) (HT.grow (HG0.out.trans hG))) ?_
 refine gs ?_
 refine gaa (A4r _ _ _ _ _) fun b14 hb14 hn14=>?_
 replace hF:=hF.n1 [] hB hG hb14 hn14
 refine geC hL ?_
 clear hB hG hL L
 rintro u ⟨⟨-,hB,hG,-⟩,h14⟩
 replace hB:=hB.cons' h14
 clear h14
 clear hb14 hn14
 refine gtT ?_
 clear hN K
 refine st hB hF hG 0 0 [_,_,_,_,_,_,_,_,_,_] ?_
 clear hB hG
 intro u hB hG
 refine wp_seq (rdC C2 [] [(0,0),(0,1),(1,2),(1,3),(1,4),(1,5),(1,6),(0,7),(0,8),(0,9),(0,10)] hB hG fun K L hN hL=>?_)
 refine gs ?_
 refine grd (L6 (A8 (-1))) (fun (x77 : Ax × Ax)=>?_) (C:=fun v _=>W8 (-1) (by omega) (by omega) _)
 refine grd (L6 (A8 1)) (fun (x78 : Ax × Ax)=>?_) (C:=by (rintro v ⟨⟨hgu,hB,hG,-⟩,hx77⟩;obtain ⟨hx77a,hx77b⟩ : Rn v x77.1 _ ∧ Rn v x77.2 _:=hx77;exact W8 1 (by omega) (by omega) _))
 refine gx Nat (fun b=>.slice (some ⟨b,0,none⟩) 2 2) (fun b W=>Blk W b 66 (([(x77,A8 (-1)),(x78,A8 1)] : List Zr).flatMap zrL).toArray) (fun b u u' hg h=>h.grow hg) rfl ?_ (fun x79=>?_)
 ·(rintro v ⟨⟨⟨hgu,hB,hG,-⟩,hx77⟩,hx78⟩ N hN;go_simp;exact hN v.heap.size _ (Blk.new v 66 (([(x77,A8 (-1)),(x78,A8 1)] : List Zr).flatMap zrL).toArray) (A3.alloc _ _))
 refine okf (by simp only [Act.put,List.setIfInBounds_toArray,List.set_cons_succ,List.set_cons_zero];exact rfl) ?_
 refine gxd (X:=Ax) (fun x : Ax=>.slice x.1 2 x.2) (fun x W=>PR kQ x W) (fun x u u' hg h=>h.grow hg) (fun x80=>?_) (C:=by (rintro v ⟨⟨⟨⟨hgu,hB,hG,-⟩,hx77⟩,hx78⟩,hx79⟩;obtain ⟨hx77a,hx77b⟩ : Rn v x77.1 _ ∧ Rn v x77.2 _:=hx77;obtain ⟨hx78a,hx78b⟩ : Rn v x78.1 _ ∧ Rn v x78.2 _:=hx78;exact HinQ.out _ x79 (A4A (ps:=[(x77,A8 (-1)),(x78,A8 1)]) hx79 (B6R hx77a hx77b hx78a hx78b) (show (2 : Nat) ≤ 1000 by omega)) (HT.grow (HG0.out.trans hG))))
 refine gmd (C:=by (rintro v ⟨⟨⟨⟨⟨hgu,hB,hG,-⟩,hx77⟩,hx78⟩,hx79⟩,hx80⟩;obtain ⟨hx77a,hx77b⟩ : Rn v x77.1 _ ∧ Rn v x77.2 _:=hx77;obtain ⟨hx78a,hx78b⟩ : Rn v x78.1 _ ∧ Rn v x78.2 _:=hx78;exact Hs1.out _ x28 x80 (HP.out.grow hG) hx80 (HT.grow (HG0.out.trans hG)))) ?_
 refine gs ?_
 refine geC hL ?_
 clear hB hG hL L
 rintro u ⟨⟨⟨⟨⟨hgu,hB,hG,-⟩,hx77⟩,hx78⟩,hx79⟩,hx80⟩
 obtain ⟨hx77a,hx77b⟩ : Rn u x77.1 _ ∧ Rn u x77.2 _:=hx77
 obtain ⟨hx78a,hx78b⟩ : Rn u x78.1 _ ∧ Rn u x78.2 _:=hx78
 clear hx77a hx77b hx78a hx78b hx79 hx80
 clear hgu
 refine gtT ?_
 clear hN K
 refine wp_seq (rdC C2 [] [(0,0),(0,1),(1,2),(1,3),(1,4),(1,5),(1,6),(1,7),(0,8),(0,9),(0,10),(0,11)] hB hG fun K L hN hL=>?_)
 refine gs ?_
 refine grd (L6 (A8 (-4))) (fun (x87 : Ax × Ax)=>?_) (C:=fun v _=>W8 (-4) (by omega) (by omega) _)
 refine grd (L6 (A8 0)) (fun (x88 : Ax × Ax)=>?_) (C:=by (rintro v ⟨⟨hgu,hB,hG,-⟩,hx87⟩;obtain ⟨hx87a,hx87b⟩ : Rn v x87.1 _ ∧ Rn v x87.2 _:=hx87;exact W8 0 (by omega) (by omega) _))
 refine grd (L6 (A8 2)) (fun (x89 : Ax × Ax)=>?_) (C:=by (rintro v ⟨⟨⟨hgu,hB,hG,-⟩,hx87⟩,hx88⟩;obtain ⟨hx87a,hx87b⟩ : Rn v x87.1 _ ∧ Rn v x87.2 _:=hx87;obtain ⟨hx88a,hx88b⟩ : Rn v x88.1 _ ∧ Rn v x88.2 _:=hx88;exact W8 2 (by omega) (by omega) _))
 refine gx Nat (fun b=>.slice (some ⟨b,0,none⟩) 3 3) (fun b W=>Blk W b 66 (([(x87,A8 (-4)),(x88,A8 0),(x89,A8 2)] : List Zr).flatMap zrL).toArray) (fun b u u' hg h=>h.grow hg) rfl ?_ (fun x90=>?_)
 ·(rintro v ⟨⟨⟨⟨hgu,hB,hG,-⟩,hx87⟩,hx88⟩,hx89⟩ N hN;go_simp;exact hN v.heap.size _ (Blk.new v 66 (([(x87,A8 (-4)),(x88,A8 0),(x89,A8 2)] : List Zr).flatMap zrL).toArray) (A3.alloc _ _))
 refine okf (by simp only [Act.put,List.setIfInBounds_toArray,List.set_cons_succ,List.set_cons_zero];exact rfl) ?_
 refine gxd (X:=Ax) (fun x : Ax=>.slice x.1 3 x.2) (fun x W=>PR kR x W) (fun x u u' hg h=>h.grow hg) (fun x91=>?_) (C:=by (rintro v ⟨⟨⟨⟨⟨hgu,hB,hG,-⟩,hx87⟩,hx88⟩,hx89⟩,hx90⟩;obtain ⟨hx87a,hx87b⟩ : Rn v x87.1 _ ∧ Rn v x87.2 _:=hx87;obtain ⟨hx88a,hx88b⟩ : Rn v x88.1 _ ∧ Rn v x88.2 _:=hx88;obtain ⟨hx89a,hx89b⟩ : Rn v x89.1 _ ∧ Rn v x89.2 _:=hx89;exact HinR.out _ x90 (A4A (ps:=[(x87,A8 (-4)),(x88,A8 0),(x89,A8 2)]) hx90 (A4u hx87a hx87b hx88a hx88b hx89a hx89b) (show (3 : Nat) ≤ 1000 by omega)) (HT.grow (HG0.out.trans hG))))
 refine gmd (C:=by (rintro v ⟨⟨⟨⟨⟨⟨hgu,hB,hG,-⟩,hx87⟩,hx88⟩,hx89⟩,hx90⟩,hx91⟩;obtain ⟨hx87a,hx87b⟩ : Rn v x87.1 _ ∧ Rn v x87.2 _:=hx87;obtain ⟨hx88a,hx88b⟩ : Rn v x88.1 _ ∧ Rn v x88.2 _:=hx88;obtain ⟨hx89a,hx89b⟩ : Rn v x89.1 _ ∧ Rn v x89.2 _:=hx89;exact Hs2.out _ x28 x91 (HP.out.grow hG) hx91 (HT.grow (HG0.out.trans hG)))) ?_
 refine gs ?_
 refine geC hL ?_
 clear hB hG hL L
 rintro u ⟨⟨⟨⟨⟨⟨hgu,hB,hG,-⟩,hx87⟩,hx88⟩,hx89⟩,hx90⟩,hx91⟩
 obtain ⟨hx87a,hx87b⟩ : Rn u x87.1 _ ∧ Rn u x87.2 _:=hx87
 obtain ⟨hx88a,hx88b⟩ : Rn u x88.1 _ ∧ Rn u x88.2 _:=hx88
 obtain ⟨hx89a,hx89b⟩ : Rn u x89.1 _ ∧ Rn u x89.2 _:=hx89
 clear hx87a hx87b hx88a hx88b hx89a hx89b hx90 hx91
 clear hgu
 refine gtT ?_
 clear hN K
 refine wp_seq (rsC C2 [1,1,1,0,0,0,2] hB hG fun K L hN hL=>?_)
 refine gmw (C:=fun v=>O7 7 (by omega) (by omega) _) ?_
 refine gx Nat (fun b=>.slice (some ⟨b,0,none⟩) 1 1) (fun b W=>PR kS (some ⟨b,0,none⟩,1) W) (fun b u u' hg h=>h.grow hg) rfl ?_ (fun x97=>?_)
 ·(rintro v ⟨hgu,hB,hG,-⟩ N hN;go_simp;exact hN v.heap.size _ (A4D v [A8 7] 1 rfl) (A3.alloc _ _))
 refine okf (by simp only [Act.put,List.setIfInBounds_toArray,List.set_cons_succ,List.set_cons_zero];exact rfl) ?_
 refine gmd (C:=fun v ⟨⟨hgu,hB,hG,_⟩,hx97⟩=>Hb7.out _ x97 hx97 (HT.grow (HG0.out.trans hG))) ?_
 refine gs ?_
 refine gaa (N0 _ _ _ _ _) fun b20 hb20 hn20=>?_
 replace hF:=hF.n1 [] hB hG hb20 hn20
 refine geC hL ?_
 clear hB hG hL L
 rintro u ⟨⟨⟨hgu,hB,hG,-⟩,hx97⟩,h20⟩
 replace hB:=hB.cons' h20
 clear h20
 clear hx97
 clear hb20 hn20
 clear hgu
 refine gtT ?_
 clear hN K
 refine st hB hF hG 0 0 [_,_,_,_,_] ?_
 clear hB hG
 intro u hB hG
 refine wp_seq (rsE C2 [1,1,1,0,0,0,0,0] hB hG fun L hL=>?_)
 refine gmw (C:=fun v=>O7 7 (by omega) (by omega) _) ?_
 refine gx Nat (fun b=>.slice (some ⟨b,0,none⟩) 1 1) (fun b W=>PR kS (some ⟨b,0,none⟩,1) W) (fun b u u' hg h=>h.grow hg) rfl ?_ (fun x103=>?_)
 ·(rintro v ⟨hgu,hB,hG,-⟩ N hN;go_simp;exact hN v.heap.size _ (A4D v [A8 7] 1 rfl) (A3.alloc _ _))
 refine okf (by simp only [Act.put,List.setIfInBounds_toArray,List.set_cons_succ,List.set_cons_zero];exact rfl) ?_
 refine gxd (X:=Ax) (fun x : Ax=>.tuple #[.slice x.1 0 x.2,.int .i64 0]) (fun x W=>SW [] x W) (fun x u u' hg h=>h.grow hg) (fun x104=>?_) (C:=by (rintro v ⟨⟨hgu,hB,hG,-⟩,hx103⟩;exact Hr7.out _ x103 hx103 (HT.grow (HG0.out.trans hG))))
 refine gs ?_
 refine geT hL ?_
 clear hB hG hL L
 rintro u ⟨⟨⟨hgu,hB,hG,-⟩,hx103⟩,hx104⟩
 clear hx103 hx104
 clear hgu
 refine wp_seq ?_
 refine rsE C2 [1,0,0,0,0,0,0,0,0,0,0,0,0,0,0,0,0,0,0,0,0,0,0,0,0,0,0,0,1,0,0,0,0,1,0,0,0,0,0,0,0,0,0,0,0,0,0,0,0,0,0,0,0,0,0,0,0,1,0,0,0,0,0,0,0,0,0,0,0,0,1,0,0,0,0,1,1,1,0,0,0,0] hB hG (fun L hL=>?_) (hd:=by kernel_rfl) (hz:=rfl)
 refine gmd (C:=fun v ⟨hgu,hB,hG,_⟩=>B5J _ (HT.grow (HG0.out.trans hG))) ?_
 refine gs ?_
 first | refine gmw (C:=fun v=>His.out 3 4 (.inl ⟨rfl,rfl⟩) _) ?_ | refine G7 ?_
 refine gs ?_
 first | refine gmw (C:=fun v=>His.out 3 2 (.inr (.inl ⟨rfl,rfl⟩)) _) ?_ | refine G7 ?_
 refine gs ?_
 first | refine gmw (C:=fun v=>His.out 1 1 (.inr (.inr ⟨rfl,rfl⟩)) _) ?_ | refine G7 ?_
 refine gs ?_
 refine gxd (X:=Ax) (fun y : Ax=>.slice y.1 3 y.2) (fun y W=>RW (chL (fun r=>r) kP) y.1 W ∧ 3 ≤ y.2) (fun x u u' hg h=>⟨h.1.grow hg,h.2⟩) (fun x177=>?_) (C:=by (rintro v ⟨hgu,hB,hG,-⟩;exact HcP.out _ x28 (HP.out.grow hG) (HT.grow (HG0.out.trans hG))))
 refine gs ?_
 first | refine gmw (C:=fun v=>O7 7 (by omega) (by omega) _) ?_ | refine G7 ?_
 refine gx Nat (fun b=>.slice (some ⟨b,0,none⟩) 1 1) (fun b W=>PR kS (some ⟨b,0,none⟩,1) W) (fun b u u' hg h=>h.grow hg) rfl ?_ (fun x183=>?_)
 ·(rintro v ⟨⟨hgu,hB,hG,-⟩,hx177⟩ N hN;go_simp;exact hN v.heap.size _ (A4D v [A8 7] 1 rfl) (A3.alloc _ _))
 refine okf (by simp only [Act.put,List.setIfInBounds_toArray,List.set_cons_succ,List.set_cons_zero];exact rfl) ?_
 refine gxd (X:=Ax) (fun y : Ax=>.slice y.1 1 y.2) (fun y W=>RW (chL (fun r=>r) kS) y.1 W ∧ 1 ≤ y.2) (fun x u u' hg h=>⟨h.1.grow hg,h.2⟩) (fun x184=>?_) (C:=by (rintro v ⟨⟨⟨hgu,hB,hG,-⟩,hx177⟩,hx183⟩;exact HcS.out _ x183 hx183 (HT.grow (HG0.out.trans hG))))
 refine gs ?_
 refine geE hL ?_
 clear hB hG hL L
 rintro u ⟨⟨⟨⟨-,hB,hG,-⟩,hx177⟩,hx183⟩,hx184⟩
 clear hx177 hx183 hx184
 refine A4 ?_
 refine rt Tryz.results6 ?_
 exact ⟨rfl,HG0.out.trans hG⟩
end Go.Proofs.YtlkniebmjdoopaaGreatDoor
namespace Go.Proofs.YtlkniebmjdoopaaGreatDoor.sturmKnown
open Go.ChangeShapes Go.WideShapes Go.ChangeAt Go.RowKit
theorem B6H : ∀ t ∈ Tryz.f6.params.toList,Tryz.prog.readableRec t = true ∧ t < Tryz.prog.types.size:=by
 have h : (Tryz.f6.params.toList.all fun t=>Tryz.prog.readableRec t && decide (t < Tryz.prog.types.size)) = true:=by kernel_rfl
 intro t ht
 have := List.all_eq_true.1 h t ht
 simpa using this
theorem B3L (H : Type) (enc : TypeId × Value → H) (W : World) (base : Nat) (args : Array Value) (ds gs : List (DataW H)) (before : List MemPlace)
  (hval : ∀ (j : Nat) t v,Tryz.f6.params[j]? = some t → args[j]? = some v → Value.okWide Tryz.prog W .any base t v)
  (hW : DataW.Whole enc Tryz.prog Tryz.f6.params.toList Rows.sturmKnownSpec.vars false W args.toList ds gs before) (hL : laidMetH Tryz.prog Rows.sturmKnownRow.laid W) :
  Calls Tryz.prog 6 args W fun e W'=>∃ v,e = .returned v ∧ Rows.sturmKnownSpec.post enc Tryz.prog Tryz.f6 false true false false W args v W':=by
 have hW':=hW
 obtain ⟨p,q,hA0,hV,rfl,hfz,hnd⟩:=hW
 have hA : DataW.TrodAll enc Tryz.prog W 0 (fun _=>true) true Tryz.f6.params.toList args.toList ds p:=hA0
 rw [Tryz.params6] at hA
 obtain ⟨hargs,rfl,rfl⟩:=trodAll_nil hA
 obtain rfl : args = #[]:=by cases args;simp_all
 obtain ⟨rfl,rfl⟩:=trodVars_none hV
 refine (B6e W (B4q (by kernel_rfl) hL)).mono fun e W' ⟨he,hg⟩=>?_
 exact ⟨_,he,B6q hW' rfl rfl rfl rfl (by kernel_rfl) B6H hg⟩
def wit : Array Value:=#[]
theorem B6O (os : Os) : laidMet Tryz.prog Rows.sturmKnownRow.laid ((laidWorld os).forCall (fun _ _=>0) ⟨#[],wit,[]⟩).memory :=
 laidMet_of_run' 8 (by kernel_rfl) (by kernel_rfl)
theorem reads (os : Os) {H : Type} (enc : TypeId × Value → H) : ∃ places,DataW.whole enc Tryz.prog ((laidWorld os).forCall (fun _ _=>0) ⟨#[],wit,[]⟩).memory Tryz.f6.params.toList Rows.sturmKnownSpec.vars false wit.toList 8 = some ([],[],places) :=
 ⟨[],by kernel_rfl⟩
theorem B1u (os : Os) (started : os.Started) (H : Type) (enc : TypeId × Value → H) (F : Stop.Interp) :
  ReturnsInHanded {} Tryz.checked os 6 .any ((OpenSpec.ofChange Rows.sturmKnownSpec).preRow enc Tryz.prog Tryz.f6 Rows.sturmKnownRow.domain false Rows.sturmKnownRow.laid) (((OpenSpec.ofChange Rows.sturmKnownSpec).at F).post enc Tryz.prog Tryz.f6 false true false false):=by
 obtain ⟨places,hx⟩:=reads os enc
 refine returnsInHanded_of_row (C:=Tryz.checked) (s:=OpenSpec.ofChange Rows.sturmKnownSpec) B1l started (by kernel_rfl) Tryz.func6
  (witness_row_at (enc:=enc) (C:=Tryz.checked) false (laidWorld os) wit rfl (by kernel_rfl) (by kernel_rfl) (by kernel_rfl)
   (OpenSpec.preRow_of_cond 8 hx (by kernel_rfl) (fun k hk=>by cases hk) (by kernel_rfl) (B6O os))) ?_
 intro W base args ds gs before hval hW _ _ _ hL _ _
 exact B3L H enc W base args ds gs before hval hW hL
theorem B5D : Rows.SturmKnownSaid :=
 OpenClaim.holds_of_cond 6 Tryz.f6 rfl rfl rfl rfl rfl rfl rfl ⟨rfl,rfl,rfl,rfl,rfl⟩ rfl rfl rfl rfl rfl (by kernel_rfl) Tryz.func6 (by kernel_rfl)
  (of_decide_eq_true (by kernel_rfl)) (by unfold Func.isWrapper;first | (rw [if_pos (by decide +kernel)];kernel_rfl) | (rw [if_neg (by decide +kernel)];exact ⟨rfl,rfl⟩))
  (fun os started H enc _ F=>by rw [OpenClaim.pre_eq_preRow];exact B1u os started H enc F)
theorem plain (f : FuncId) (fn : Func) (hf : Tryz.pinned.checked.prog.funcNamed Rows.sturmKnownRow.func = some f) (hfn : Tryz.pinned.checked.prog.funcs[f]? = some fn) :
  false = Tryz.pinned.checked.prog.looks [] ∧ ∀ (j : Nat) t,fn.params[j]? = some t → Tryz.pinned.checked.prog.wantsStandIn t = false:=by
 obtain rfl : f = 6:=Option.some.inj ((show Tryz.prog.funcNamed Rows.sturmKnownRow.func = some 6 by kernel_rfl).symm.trans hf) |>.symm
 obtain rfl : fn = Tryz.f6:=(Option.some.inj (Tryz.func6.symm.trans hfn)).symm
 refine ⟨by kernel_rfl,fun j t ht=>?_⟩
 have h : (Tryz.f6.params.toList.all fun t=>!Tryz.prog.wantsStandIn t) = true:=by kernel_rfl
 have := List.all_eq_true.1 h t (Array.mem_toList_iff.2 (Array.mem_of_getElem? ht))
 have h2 : Tryz.prog.wantsStandIn t = false:=by simpa using this
 exact h2
theorem card : Rows.SturmKnownCardSaid :=
 Claim7.holds_tied_plain_at .later [] _ _ _ _ B5D (fun _ h=>by cases h) (by kernel_rfl) (fun _ h=>by cases h) sturmKnown_row_tie rfl ⟨rfl,rfl⟩ (by kernel_rfl) rfl plain (by kernel_rfl)
end Go.Proofs.YtlkniebmjdoopaaGreatDoor.sturmKnown
namespace Go.Proofs.YtlkniebmjdoopaaGreatDoor
theorem sturmKnown_holds : Rows.SturmKnownCardSaid:=sturmKnown.card
#print axioms sturmKnown_holds
end Go.Proofs.YtlkniebmjdoopaaGreatDoor
