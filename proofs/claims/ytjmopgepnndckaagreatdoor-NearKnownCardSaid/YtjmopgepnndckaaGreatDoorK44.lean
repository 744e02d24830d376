/- Contracts and laws. -/
import Derived.Test.YtjmopgepnndckaaGreatDoorK39
set_option linter.unusedSimpArgs false
set_option linter.unusedVariables false
set_option maxHeartbeats 8000000
set_option maxRecDepth 100000
namespace Go.Proofs.YtjmopgepnndckaaGreatDoor
def L9 (ls : List Int) (r : Int) : Bool:=decide (r < 0) || decide ((ls.length : Int) ≤ r) || decide (gi ls r.toNat < 0) || decide (12 ≤ gi ls r.toNat)
def O2 (hs ls : List Int) : Nat → Nat → Nat
 | 0,_=>0
 | j + 1,k=>O2 hs ls j k + if gi ls (gi hs j).toNat = k then 1 else 0
theorem A6I (hs ls : List Int) (k : Nat) : ∀ j,O2 hs ls j k ≤ j
 | 0=>Nat.le_refl _
 | j + 1=>by
  have := A6I hs ls k j
  unfold O2
  split <;> omega
def P6 (hs ls : List Int) (j : Nat) : List Int:=(List.range 12).map fun k=>(O2 hs ls j k : Int)
theorem A7v (hs ls : List Int) (j : Nat) : (P6 hs ls j).length = 12:=by unfold P6;simp
theorem A9s (hs ls : List Int) (j k : Nat) (h : gi ls (gi hs j).toNat = (k : Int)) (hk : k < 12) : (P6 hs ls j).set k ((O2 hs ls j k : Int) + 1) = P6 hs ls (j + 1):=by
 unfold P6
 apply List.ext_getElem
 ·simp
 ·intro i h1 h2
  rw [List.getElem_set]
  simp only [List.getElem_map,List.getElem_range]
  by_cases e : k = i
  ·subst e
   rw [if_pos rfl]
   simp only [O2,h,if_true]
   omega
  ·rw [if_neg e]
   have : ¬ (k : Int) = (i : Int):=by omega
   simp only [O2,h,if_neg this]
   omega
def M8 (c : Nat → Nat) : Nat → Nat
 | 0=>0
 | n + 1=>if c (M8 c n) < c n then n else M8 c n
theorem A7F (c : Nat → Nat) : ∀ n,0 < n → M8 c n < n
 | 0,h=>absurd h (by omega)
 | n + 1,_=>by
  unfold M8
  split
  ·omega
  ·rcases Nat.eq_zero_or_pos n with rfl | h
   ·show M8 c 0 < 1
    unfold M8
    omega
   ·have := A7F c n h
    omega
def U7 (hs ls : List Int) : Nat × Nat:=if hs = [] then (0,5) else if hs.any (L9 ls) then (0,1) else (M8 (O2 hs ls hs.length) 12,0)
theorem A6m {l : List Int} {j : Nat} (h : j < l.length) : gi l j ∈ l:=by
 unfold gi
 rw [List.getElem?_eq_getElem h]
 exact List.getElem_mem h
theorem A8g {hs ls : List Int} {j : Nat} (h : j < hs.length) (hb : L9 ls (gi hs j) = true) : U7 hs ls = (0,1):=by
 unfold U7
 rw [if_neg (by intro e;rw [e] at h;simp at h),if_pos (List.any_eq_true.2 ⟨_,A6m h,hb⟩)]
theorem B2T {hs ls : List Int} (h0 : hs ≠ []) (h : ∀ j,j < hs.length → L9 ls (gi hs j) = false) : U7 hs ls = (M8 (O2 hs ls hs.length) 12,0):=by
 unfold U7
 rw [if_neg h0,if_neg]
 intro hh
 obtain ⟨x,hx,hb⟩:=List.any_eq_true.1 hh
 obtain ⟨j,hj,rfl⟩:=List.getElem_of_mem hx
 have h1:=h j hj
 unfold gi at h1
 rw [List.getElem?_eq_getElem hj] at h1
 rw [show (some hs[j]).getD 0 = hs[j] from rfl,hb] at h1
 cases h1
def Q4 (n : Nat) (r : Int) : Bool:=decide (r < 0) || decide ((n : Int) ≤ r)
def T4 (hs : List Int) (vs : List Rat) (j : Nat) : List Rat:=(List.range j).map fun i=>gq vs (gi hs i).toNat
theorem B3R (hs : List Int) (vs : List Rat) (j : Nat) : (T4 hs vs j).length = j:=by unfold T4;simp
def U9 (hs : List Int) (vs : List Rat) : Rat × Nat:=if hs.any (Q4 vs.length) then (0,1) else if hs = [] then (0,5) else (A1A (T4 hs vs hs.length) hs.length,0)
theorem A9W {hs : List Int} {vs : List Rat} {j : Nat} (h : j < hs.length) (hb : Q4 vs.length (gi hs j) = true) : U9 hs vs = (0,1):=by
 unfold U9
 rw [if_pos (List.any_eq_true.2 ⟨_,A6m h,hb⟩)]
theorem B0i {hs : List Int} {vs : List Rat} (h0 : hs ≠ []) (h : ∀ j,j < hs.length → Q4 vs.length (gi hs j) = false) : U9 hs vs = (A1A (T4 hs vs hs.length) hs.length,0):=by
 unfold U9
 rw [if_neg,if_neg h0]
 intro hh
 obtain ⟨x,hx,hb⟩:=List.any_eq_true.1 hh
 obtain ⟨j,hj,rfl⟩:=List.getElem_of_mem hx
 have h1:=h j hj
 unfold gi at h1
 rw [List.getElem?_eq_getElem hj] at h1
 rw [show (some hs[j]).getD 0 = hs[j] from rfl,hb] at h1
 cases h1
end Go.Proofs.YtjmopgepnndckaaGreatDoor
namespace Go.Proofs.YtjmopgepnndckaaGreatDoor
open Go Go.RowKit
def Le {α : Type} (enc : α → List Value) (k : Nat) (u : World) (A : Option Addr) (l : List α) : Prop :=
 l ≠ [] → ∃ b off,A = some ⟨b,off,none⟩ ∧ b < u.heap.size ∧ ∀ i x,l[i]? = some x → ∀ j v,(enc x)[j]? = some v → u.cell? ⟨b,off + i * k + j,none⟩ = some v
theorem Le.grow {α : Type} {enc : α → List Value} {k : Nat} {u u' : World} {A : Option Addr} {l : List α} (h : Le enc k u A l) (hg : A3 u u') : Le enc k u' A l:=fun hn=>by
 obtain ⟨b,off,e,hb,hc⟩:=h hn
 exact ⟨b,off,e,Nat.lt_of_lt_of_le hb hg.size,fun i q hi j v hj=>(hg.cell (p:=⟨b,off + i * k + j,none⟩) hb).trans (hc i q hi j v hj)⟩
theorem B2K {α : Type} {enc : α → List Value} {k : Nat} (he : ∀ x,(enc x).length = k) (hk : 0 < k) {u : World} {B n : Nat} {e : TypeId} {v : Value} {l : List α} (h : u.ownsRow B e k v n (l.flatMap enc)) : ∃ A c,v = .slice A n c ∧ n ≤ c ∧ Le enc k u A l ∧ n = l.length:=by
 have hn : n = l.length:=by
  have h1:=h.1
  rw [U8 he] at h1
  exact (Nat.eq_of_mul_eq_mul_right hk h1).symm
 obtain ⟨_,h | ⟨g,cap,cur,rfl,hb,hh,hn',hc,hs,ht⟩⟩:=h
 ·obtain ⟨rfl,h0⟩:=h
  exact ⟨none,0,by rw [h0],by omega,fun hne=>absurd (List.eq_nil_of_length_eq_zero (l:=l) (by omega)) hne,hn⟩
 ·refine ⟨_,cap,rfl,hn',fun _=>⟨g,0,rfl,M9 hh,fun i q hi j v hj=>?_⟩,hn⟩
  have hil : i < l.length:=(List.getElem?_eq_some_iff.1 hi).1
  have er : l[i] = q:=by rw [List.getElem?_eq_getElem hil] at hi;exact Option.some.inj hi
  have hjl : j < k:=by have := (List.getElem?_eq_some_iff.1 hj).1;rw [he] at this;exact this
  rw [cell_of_row u g _ cur e (0,0) hh,Nat.zero_add]
  have h1 : (cur.toList.take (n * k))[i * k + j]? = some v:=by rw [ht,A2l he l i j hil hjl,er,hj]
  have hlt : i * k + j < n * k:=by
   have : i * k + k ≤ l.length * k:=by rw [← Nat.succ_mul];exact Nat.mul_le_mul_right _ hil
   rw [hn];omega
  rw [List.getElem?_take,if_pos hlt] at h1
  simpa using h1
theorem Le.at {α : Type} {enc : α → List Value} {k : Nat} {u : World} {A : Option Addr} {l : List α} (h : Le enc k u A l) {i : Nat} (hi : i < l.length) : ∃ b off,A = some ⟨b,off,none⟩ ∧ ∀ W,A3 u W → ∀ j v,(enc l[i])[j]? = some v → W.cell? ⟨b,off + i * k + j,none⟩ = some v:=by
 obtain ⟨b,off,e,hb,hc⟩:=h (fun e=>by rw [e] at hi;simp at hi)
 exact ⟨b,off,e,fun W hg j v hj=>(hg.cell (p:=⟨b,off + i * k + j,none⟩) hb).trans (hc i _ (List.getElem?_eq_getElem hi) j v hj)⟩
abbrev hvL (r : Int) : List Value:=[.int .i64 r,.bool false,.int .u64 0,.string ⟨#[]⟩,.int .u64 0,.string ⟨#[]⟩]
theorem A5Y {l : List Int} {i : Nat} (h : i < l.length) : gi l i = l[i]:=by unfold gi;rw [List.getElem?_eq_getElem h];rfl
theorem A5J (d : Option Tmp) (ty : TypeId) (pos : String) (af : Array Edge) (gd : Option (Nat × Bool)) : I1 Tryz.prog ⟨d,.alloc 112,ty,pos,af,gd⟩ = .cells #[.int .i64 0,.int .i64 0,.int .i64 0,.int .i64 0,.int .i64 0,.int .i64 0,.int .i64 0,.int .i64 0,.int .i64 0,.int .i64 0,.int .i64 0,.int .i64 0] 112:=by kernel_rfl
theorem V7 : ∀ t ∈ [45,47,49,51,112,57],J7 Tryz.prog t:=by
 intro t ht
 simp only [List.mem_cons,List.not_mem_nil,or_false] at ht
 rcases ht with rfl | rfl | rfl | rfl | rfl | rfl
 ·exact fun _ _ _ _ _ _=>by rw [F8];kernel_rfl
 ·exact fun _ _ _ _ _ _=>by rw [A0E];kernel_rfl
 ·exact fun _ _ _ _ _ _=>by rw [K9];kernel_rfl
 ·exact fun _ _ _ _ _ _=>by rw [V6];kernel_rfl
 ·exact fun _ _ _ _ _ _=>by rw [A5J];kernel_rfl
 ·exact fun _ _ _ _ _ _=>by rw [A3j];kernel_rfl
theorem B1v (C : Nat → Nat) (k : Nat) (hk : k < 12) (W : World) : (Instr.index 112 (.agg #[.int .i64 (C 0 : Nat),.int .i64 (C 1 : Nat),.int .i64 (C 2 : Nat),.int .i64 (C 3 : Nat),.int .i64 (C 4 : Nat),.int .i64 (C 5 : Nat),.int .i64 (C 6 : Nat),.int .i64 (C 7 : Nat),.int .i64 (C 8 : Nat),.int .i64 (C 9 : Nat),.int .i64 (C 10 : Nat),.int .i64 (C 11 : Nat)]) (.int .i64 (k : Nat))).run Tryz.prog W = .ok (.int .i64 (C k : Nat)) W:=by
 rcases (show k = 0 ∨ k = 1 ∨ k = 2 ∨ k = 3 ∨ k = 4 ∨ k = 5 ∨ k = 6 ∨ k = 7 ∨ k = 8 ∨ k = 9 ∨ k = 10 ∨ k = 11 by omega) with rfl | rfl | rfl | rfl | rfl | rfl | rfl | rfl | rfl | rfl | rfl | rfl <;> kernel_rfl
theorem B16 (ls : List Int) (R : Int) : (R < 0 ∧ L9 ls R = true) ∨ (∃ r : Nat,R = r ∧ ls.length ≤ r ∧ L9 ls R = true) ∨ (∃ r : Nat,R = r ∧ r < ls.length ∧ gi ls r < 0 ∧ L9 ls R = true) ∨ (∃ r : Nat,R = r ∧ r < ls.length ∧ 12 ≤ gi ls r ∧ L9 ls R = true) ∨ ∃ r k : Nat,R = r ∧ r < ls.length ∧ gi ls r = k ∧ k < 12 ∧ L9 ls R = false:=by
 by_cases h1 : R < 0
 ·exact .inl ⟨h1,by unfold L9;simp [h1]⟩
 ·obtain ⟨r,rfl⟩ : ∃ r : Nat,R = r:=⟨R.toNat,by omega⟩
  by_cases h2 : ls.length ≤ r
  ·exact .inr (.inl ⟨r,rfl,h2,by unfold L9;simp [h2]⟩)
  ·by_cases h3 : gi ls r < 0
   ·exact .inr (.inr (.inl ⟨r,rfl,by omega,h3,by unfold L9;simp [h3]⟩))
   ·by_cases h4 : 12 ≤ gi ls r
    ·exact .inr (.inr (.inr (.inl ⟨r,rfl,by omega,h4,by unfold L9;simp [h4]⟩)))
    ·refine .inr (.inr (.inr (.inr ⟨r,(gi ls r).toNat,rfl,by omega,by omega,by omega,?_⟩)))
     unfold L9
     simp only [Int.toNat_natCast,Bool.or_eq_false_iff,decide_eq_false_iff_not]
     omega
theorem A6C (A B : Option Addr) (m c d : Nat) (w : World) : Calls Tryz.prog 22 #[.slice A 0 c,.slice B m d] w fun e w'=>e = .returned (.tuple #[.int .i64 0,.int .i64 5]) ∧ A3 w w':=by
 go_enter Tryz.func22,Tryz.ntmps22
 refine en0 ?_
 intro u hG hB hF
 refine wp_seq ?_
 refine r0T ?_
 refine wp_cond_true (rfl) ?_
 refine r0T ?_
 refine rt Tryz.results22 ?_
 exact ⟨rfl,hG⟩
theorem A7x (A B : Option Addr) (hs ls : List Int) (n m c d : Nat) (hn : n = hs.length) (hn0 : 0 < n) (hm : m = ls.length) (hnm : n ≤ 1048576) (w : World) (h : Le hvL 6 w A hs) (h' : Li w B ls) :
  Calls Tryz.prog 22 #[.slice A n c,.slice B m d] w fun e w'=>e = .returned (.tuple #[.int .i64 ((U7 hs ls).1 : Nat),.int .i64 ((U7 hs ls).2 : Nat)]) ∧ A3 w w':=by
 have H:=Lib.hid h
 have H':=Lib.hid h'
 have Hn:=Lib.hid hn
 have Hm:=Lib.hid hm
 have fn : ((n : Int) == 0) = false:=by simp;omega
 have fnd : decide (n = 0) = false:=by simp;omega
 clear h h' hn hm
 go_enter Tryz.func22,Tryz.ntmps22
 refine en0 ?_
 intro u hG hB hF
 refine wp_seq ?_
 refine r0T ?_
 refine wp_cond_false (rfl) ?_
 refine wp_skip ?_
 refine A4 ?_
 refine wp_seq (rsE V7 [2] hB hG fun L hL=>?_)
 refine gaa (A5J _ _ _ _ _) fun b6 hb6 hn6=>?_
 replace hF:=hF.n1 [] hB hG hb6 hn6
 refine geT hL ?_
 clear hB hG hL L
 rintro u ⟨⟨-,hB,hG,-⟩,h6⟩
 replace hB:=hB.cons' h6
 clear h6
 clear hb6 hn6
 refine wp_seq ?_
 refine r0T ?_
 refine wp_block ?_
 go_loopw [18] (fun s0 wr=>∃ j : Nat,j ≤ n ∧ s0 = .int .i64 j ∧ (∀ i,i < j → L9 ls (gi hs i) = false) ∧ Bx wr [(b6,112,G8 (P6 hs ls j))] ∧ A3 w wr) (fun s0 _=>n - (intOf s0).toNat)
 case atStart=>exact ⟨0,Nat.zero_le _,rfl,(fun i hi=>absurd hi (by omega)),hB,hG⟩
 case round =>
  clear hB hG
  obtain ⟨j,hj,rfl,hbad,hB,hG⟩:=hrel
  obtain ⟨u,rfl⟩ : ∃ x,x = wr:=⟨_,rfl⟩
  rcases Nat.lt_or_ge j n with hlt | hge
  ·have hdec : decide ((j : Int) < (n : Int)) = true:=by simp;omega
   have hji : (j : Int) < (n : Int):=by omega
   have hjl : j < hs.length:=by rw [← Hn.out];exact hlt
   obtain ⟨ba,oa,rfl,hrd⟩:=H.out.at hjl
   rw [← A5Y hjl] at hrd
   have hv1:=fun hb=>A8g (ls:=ls) hjl hb
   have hb0:=fun (hb : L9 ls (gi hs j) = false) (i : Nat) (hi : i < j + 1)=>(if e : i = j then by rw [e];exact hb else hbad i (by omega) : L9 ls (gi hs i) = false)
   have hcs:=fun k e hk=>A9s hs ls j k e hk
   have hcg:=fun k (hk : k < 12)=>(A6I hs ls k j)
   have hcl:=A7v hs ls j
   obtain ⟨R,hR⟩ : ∃ R,R = gi hs j:=⟨_,rfl⟩
   rw [← hR] at hrd hv1 hb0
   simp only [← hR] at hcs
   have Hrd:=Lib.hid hrd
   have HR:=Lib.hid hR
   clear hrd hbad hR
   rcases B16 ls R with ⟨e1,e2⟩ | ⟨r,rfl,e1,e2⟩ | ⟨r,rfl,e1,e2,e3⟩ | ⟨r,rfl,e1,e2,e3⟩ | ⟨r,k,rfl,e1,e2,e3,e4⟩
   ·have d1 : decide (R < 0) = true:=decide_eq_true e1
    rw [hv1 e2]
    clear hv1 hb0 hcs hcg hcl e1 e2
    refine r0T ?_
    refine wp_seq ?_
    refine wp_cond_true (rfl) ?_
    refine wp_skip ?_
    refine A4 ?_
    refine wp_seq ?_
    refine wp_block ?_
    refine wp_seq (rsC V7 [0,0,2] hB hG fun K L hN hL=>?_)
    repeat first | refine gya ?_ | refine gyr ?_ | refine gna ?_ | refine gyb (by (rintro v ⟨hgu,hB,hG,-⟩ N hN;have r:=hB.r;simp only [BxR] at r;have q0:=Hrd.out v hG 0 _ rfl;have q1:=Hrd.out v hG 1 _ rfl;have q2:=Hrd.out v hG 2 _ rfl;have q3:=Hrd.out v hG 3 _ rfl;have q4:=Hrd.out v hG 4 _ rfl;have q5:=Hrd.out v hG 5 _ rfl;simp only [Nat.add_zero] at q0;go_simp;exact hN)) ?_
    refine gaa (V6 _ _ _ _ _) fun b8 hb8 hn8=>?_
    replace hF:=hF.n1 [] hB hG hb8 hn8
    refine geC hL ?_
    clear hB hG hL L
    rintro u ⟨⟨-,hB,hG,-⟩,h8⟩
    replace hB:=hB.cons' h8
    clear h8
    clear hb8 hn8
    refine gtT ?_
    clear hN K
    refine st hB hF hG 0 0 [_,_,_,_,_,_] ?_
    clear hB hG
    intro u hB hG
    refine wp_seq ?_
    refine wp_seq ?_
    have q0:=Hrd.out u hG 0 _ rfl;have q1:=Hrd.out u hG 1 _ rfl;have q2:=Hrd.out u hG 2 _ rfl;have q3:=Hrd.out u hG 3 _ rfl;have q4:=Hrd.out u hG 4 _ rfl;have q5:=Hrd.out u hG 5 _ rfl;simp only [Nat.add_zero] at q0
    refine r0N ?_
    refine wp_cond_true (rfl) ?_
    refine r0T ?_
    refine rt Tryz.results22 ?_
    exact ⟨rfl,hG⟩
   ·rw [← Hm.out] at e1
    have d2 : decide ((m : Int) ≤ (r : Int)) = true:=by simp;omega
    have d3 : decide (m ≤ r) = true:=by simp;omega
    rw [hv1 e2]
    clear hv1 hb0 hcs hcg hcl e2
    refine r0T ?_
    refine wp_seq ?_
    refine wp_cond_true (rfl) ?_
    refine wp_skip ?_
    refine A4 ?_
    refine wp_seq ?_
    refine wp_block ?_
    refine wp_seq (rsC V7 [0,0,2] hB hG fun K L hN hL=>?_)
    repeat first | refine gya ?_ | refine gyr ?_ | refine gna ?_ | refine gyb (by (rintro v ⟨hgu,hB,hG,-⟩ N hN;have r:=hB.r;simp only [BxR] at r;have q0:=Hrd.out v hG 0 _ rfl;have q1:=Hrd.out v hG 1 _ rfl;have q2:=Hrd.out v hG 2 _ rfl;have q3:=Hrd.out v hG 3 _ rfl;have q4:=Hrd.out v hG 4 _ rfl;have q5:=Hrd.out v hG 5 _ rfl;simp only [Nat.add_zero] at q0;go_simp;exact hN)) ?_
    refine gaa (V6 _ _ _ _ _) fun b8 hb8 hn8=>?_
    replace hF:=hF.n1 [] hB hG hb8 hn8
    refine geC hL ?_
    clear hB hG hL L
    rintro u ⟨⟨-,hB,hG,-⟩,h8⟩
    replace hB:=hB.cons' h8
    clear h8
    clear hb8 hn8
    refine gtT ?_
    clear hN K
    refine st hB hF hG 0 0 [_,_,_,_,_,_] ?_
    clear hB hG
    intro u hB hG
    refine wp_seq ?_
    refine wp_seq ?_
    have q0:=Hrd.out u hG 0 _ rfl;have q1:=Hrd.out u hG 1 _ rfl;have q2:=Hrd.out u hG 2 _ rfl;have q3:=Hrd.out u hG 3 _ rfl;have q4:=Hrd.out u hG 4 _ rfl;have q5:=Hrd.out u hG 5 _ rfl;simp only [Nat.add_zero] at q0
    refine r0N ?_
    refine wp_cond_true (rfl) ?_
    refine r0T ?_
    refine rt Tryz.results22 ?_
    exact ⟨rfl,hG⟩
   ·obtain ⟨bb,ob,rfl,hlb⟩:=H'.out.at e1
    rw [← Hm.out] at e1
    have d2 : decide ((m : Int) ≤ (r : Int)) = false:=by simp;omega
    have d3 : decide (m ≤ r) = false:=by simp;omega
    have hri : (r : Int) < (m : Int):=by omega
    obtain ⟨L0,hL0⟩ : ∃ L,L = gi ls r:=⟨_,rfl⟩
    rw [← hL0] at e2 hlb
    have Hlb:=Lib.hid hlb
    have d4 : decide (L0 < 0) = true:=decide_eq_true e2
    rw [hv1 e3]
    clear hv1 hb0 hcs hcg hcl e2 e3 hlb hL0
    refine r0T ?_
    refine wp_seq ?_
    refine wp_cond_true (rfl) ?_
    refine wp_skip ?_
    refine A4 ?_
    refine wp_seq ?_
    refine wp_block ?_
    refine wp_seq (rsC V7 [0,0,2] hB hG fun K L hN hL=>?_)
    repeat first | refine gya ?_ | refine gyr ?_ | refine gna ?_ | refine gyb (by (rintro v ⟨hgu,hB,hG,-⟩ N hN;have r:=hB.r;simp only [BxR] at r;have q0:=Hrd.out v hG 0 _ rfl;have q1:=Hrd.out v hG 1 _ rfl;have q2:=Hrd.out v hG 2 _ rfl;have q3:=Hrd.out v hG 3 _ rfl;have q4:=Hrd.out v hG 4 _ rfl;have q5:=Hrd.out v hG 5 _ rfl;simp only [Nat.add_zero] at q0;have y0:=Hlb.out v hG;go_simp;exact hN)) ?_
    refine gaa (V6 _ _ _ _ _) fun b8 hb8 hn8=>?_
    replace hF:=hF.n1 [] hB hG hb8 hn8
    refine geC hL ?_
    clear hB hG hL L
    rintro u ⟨⟨-,hB,hG,-⟩,h8⟩
    replace hB:=hB.cons' h8
    clear h8
    clear hb8 hn8
    refine gtT ?_
    clear hN K
    refine st hB hF hG 0 0 [_,_,_,_,_,_] ?_
    clear hB hG
    intro u hB hG
    refine wp_seq ?_
    refine wp_seq ?_
    have q0:=Hrd.out u hG 0 _ rfl;have q1:=Hrd.out u hG 1 _ rfl;have q2:=Hrd.out u hG 2 _ rfl;have q3:=Hrd.out u hG 3 _ rfl;have q4:=Hrd.out u hG 4 _ rfl;have q5:=Hrd.out u hG 5 _ rfl;simp only [Nat.add_zero] at q0;have y0:=Hlb.out u hG
    refine r0N ?_
    refine wp_cond_false (rfl) ?_
    refine wp_skip ?_
    refine A4 ?_
    refine wp_seq ?_
    have q0:=Hrd.out u hG 0 _ rfl;have q1:=Hrd.out u hG 1 _ rfl;have q2:=Hrd.out u hG 2 _ rfl;have q3:=Hrd.out u hG 3 _ rfl;have q4:=Hrd.out u hG 4 _ rfl;have q5:=Hrd.out u hG 5 _ rfl;simp only [Nat.add_zero] at q0;have y0:=Hlb.out u hG
    refine r0N ?_
    refine wp_seq ?_
    refine r0T ?_
    refine wp_cond_true (rfl) ?_
    refine r0T ?_
    refine rt Tryz.results22 ?_
    exact ⟨rfl,hG⟩
   ·obtain ⟨bb,ob,rfl,hlb⟩:=H'.out.at e1
    rw [← Hm.out] at e1
    have d2 : decide ((m : Int) ≤ (r : Int)) = false:=by simp;omega
    have d3 : decide (m ≤ r) = false:=by simp;omega
    have hri : (r : Int) < (m : Int):=by omega
    obtain ⟨L0,hL0⟩ : ∃ L,L = gi ls r:=⟨_,rfl⟩
    rw [← hL0] at e2 hlb
    have Hlb:=Lib.hid hlb
    have d4 : decide (L0 < 0) = false:=by simp;omega
    have d5 : decide (12 ≤ L0) = true:=decide_eq_true e2
    rw [hv1 e3]
    clear hv1 hb0 hcs hcg hcl e2 e3 hlb hL0
    refine r0T ?_
    refine wp_seq ?_
    refine wp_cond_true (rfl) ?_
    refine wp_skip ?_
    refine A4 ?_
    refine wp_seq ?_
    refine wp_block ?_
    refine wp_seq (rsC V7 [0,0,2] hB hG fun K L hN hL=>?_)
    repeat first | refine gya ?_ | refine gyr ?_ | refine gna ?_ | refine gyb (by (rintro v ⟨hgu,hB,hG,-⟩ N hN;have r:=hB.r;simp only [BxR] at r;have q0:=Hrd.out v hG 0 _ rfl;have q1:=Hrd.out v hG 1 _ rfl;have q2:=Hrd.out v hG 2 _ rfl;have q3:=Hrd.out v hG 3 _ rfl;have q4:=Hrd.out v hG 4 _ rfl;have q5:=Hrd.out v hG 5 _ rfl;simp only [Nat.add_zero] at q0;have y0:=Hlb.out v hG;go_simp;exact hN)) ?_
    refine gaa (V6 _ _ _ _ _) fun b8 hb8 hn8=>?_
    replace hF:=hF.n1 [] hB hG hb8 hn8
    refine geC hL ?_
    clear hB hG hL L
    rintro u ⟨⟨-,hB,hG,-⟩,h8⟩
    replace hB:=hB.cons' h8
    clear h8
    clear hb8 hn8
    refine gtT ?_
    clear hN K
    refine st hB hF hG 0 0 [_,_,_,_,_,_] ?_
    clear hB hG
    intro u hB hG
    refine wp_seq ?_
    refine wp_seq ?_
    have q0:=Hrd.out u hG 0 _ rfl;have q1:=Hrd.out u hG 1 _ rfl;have q2:=Hrd.out u hG 2 _ rfl;have q3:=Hrd.out u hG 3 _ rfl;have q4:=Hrd.out u hG 4 _ rfl;have q5:=Hrd.out u hG 5 _ rfl;simp only [Nat.add_zero] at q0;have y0:=Hlb.out u hG
    refine r0N ?_
    refine wp_cond_false (rfl) ?_
    refine wp_skip ?_
    refine A4 ?_
    refine wp_seq ?_
    have q0:=Hrd.out u hG 0 _ rfl;have q1:=Hrd.out u hG 1 _ rfl;have q2:=Hrd.out u hG 2 _ rfl;have q3:=Hrd.out u hG 3 _ rfl;have q4:=Hrd.out u hG 4 _ rfl;have q5:=Hrd.out u hG 5 _ rfl;simp only [Nat.add_zero] at q0;have y0:=Hlb.out u hG
    refine r0N ?_
    refine wp_seq ?_
    refine r0T ?_
    refine wp_cond_true (rfl) ?_
    refine r0T ?_
    refine rt Tryz.results22 ?_
    exact ⟨rfl,hG⟩
   ·obtain ⟨bb,ob,rfl,hlb⟩:=H'.out.at e1
    rw [← Hm.out] at e1
    have d2 : decide ((m : Int) ≤ (r : Int)) = false:=by simp;omega
    have d3 : decide (m ≤ r) = false:=by simp;omega
    have hri : (r : Int) < (m : Int):=by omega
    have hcs2:=hcs k (by simpa using e2) e3
    rw [e2] at hlb
    have Hlb:=Lib.hid hlb
    have d5 : decide ((12 : Int) ≤ (k : Int)) = false:=by simp;omega
    have d6 : decide (12 ≤ k) = false:=by simp;omega
    have hki : (k : Int) < 12:=by omega
    have hcb:=hcg k e3
    have Hb0:=Lib.hid (hb0 e4)
    have g1 : (G8 (P6 hs ls j))[k]? = some (.int .i64 (O2 hs ls j k : Nat)):=by
     rw [A4E]
     unfold P6
     simp [e3]
    obtain ⟨C,hC⟩ : ∃ C,C = O2 hs ls j k:=⟨_,rfl⟩
    rw [← hC] at hcs2 hcb g1
    have g3 : (G8 (P6 hs ls j)).setIfInBounds k (.int .i64 ((C : Int) + 1)) = G8 (P6 hs ls (j + 1)):=by rw [A7T,hcs2]
    have G3:=Lib.hid g3
    have hCi : (C : Int) ≤ 1048576:=by omega
    clear hv1 hb0 hcs hcg hcl e2 e4 hlb hcs2 hC g3
    refine r0T ?_
    refine wp_seq ?_
    refine wp_cond_true (rfl) ?_
    refine wp_skip ?_
    refine A4 ?_
    refine wp_seq ?_
    refine wp_block ?_
    refine wp_seq (rsC V7 [0,0,2] hB hG fun K L hN hL=>?_)
    repeat first | refine gya ?_ | refine gyr ?_ | refine gna ?_ | refine gyb (by (rintro v ⟨hgu,hB,hG,-⟩ N hN;have r:=hB.r;simp only [BxR] at r;have q0:=Hrd.out v hG 0 _ rfl;have q1:=Hrd.out v hG 1 _ rfl;have q2:=Hrd.out v hG 2 _ rfl;have q3:=Hrd.out v hG 3 _ rfl;have q4:=Hrd.out v hG 4 _ rfl;have q5:=Hrd.out v hG 5 _ rfl;simp only [Nat.add_zero] at q0;have y0:=Hlb.out v hG;go_simp;exact hN)) ?_
    refine gaa (V6 _ _ _ _ _) fun b8 hb8 hn8=>?_
    replace hF:=hF.n1 [] hB hG hb8 hn8
    refine geC hL ?_
    clear hB hG hL L
    rintro u ⟨⟨-,hB,hG,-⟩,h8⟩
    replace hB:=hB.cons' h8
    clear h8
    clear hb8 hn8
    refine gtT ?_
    clear hN K
    refine st hB hF hG 0 0 [_,_,_,_,_,_] ?_
    clear hB hG
    intro u hB hG
    refine wp_seq ?_
    refine wp_seq ?_
    have q0:=Hrd.out u hG 0 _ rfl;have q1:=Hrd.out u hG 1 _ rfl;have q2:=Hrd.out u hG 2 _ rfl;have q3:=Hrd.out u hG 3 _ rfl;have q4:=Hrd.out u hG 4 _ rfl;have q5:=Hrd.out u hG 5 _ rfl;simp only [Nat.add_zero] at q0;have y0:=Hlb.out u hG
    refine r0N ?_
    refine wp_cond_false (rfl) ?_
    refine wp_skip ?_
    refine A4 ?_
    refine wp_seq ?_
    have q0:=Hrd.out u hG 0 _ rfl;have q1:=Hrd.out u hG 1 _ rfl;have q2:=Hrd.out u hG 2 _ rfl;have q3:=Hrd.out u hG 3 _ rfl;have q4:=Hrd.out u hG 4 _ rfl;have q5:=Hrd.out u hG 5 _ rfl;simp only [Nat.add_zero] at q0;have y0:=Hlb.out u hG
    refine r0N ?_
    refine wp_seq ?_
    refine r0T ?_
    refine wp_cond_false (rfl) ?_
    refine wp_skip ?_
    refine A4 ?_
    have q0:=Hrd.out u hG 0 _ rfl;have q1:=Hrd.out u hG 1 _ rfl;have q2:=Hrd.out u hG 2 _ rfl;have q3:=Hrd.out u hG 3 _ rfl;have q4:=Hrd.out u hG 4 _ rfl;have q5:=Hrd.out u hG 5 _ rfl;simp only [Nat.add_zero] at q0;have y0:=Hlb.out u hG
    refine r0E ?_
    generalize hu0 : World.setCell u _ _ = u0
    have hBG:=hB.over hF hG 1 rfl k [_] hu0
    clear hB hG
    simp only [List.modify_succ_cons,List.modify_zero_cons,F0,G3.out] at hBG
    obtain ⟨hB,hG⟩:=hBG
    obtain ⟨u,rfl⟩ : ∃ x,x = u0:=⟨_,rfl⟩
    refine E7 ?_
    refine A4 ?_
    refine r0E ?_
    refine A4 ?_
    go_roundw
    case rel=>exact ⟨j + 1,by omega,by go_num,Hb0.out,hB.tail,hG⟩
    case measure=>simp [intOf];omega
  ·obtain rfl : n = j:=by omega
   have hdec : decide ((n : Int) < (n : Int)) = false:=by simp
   have hne : hs ≠ []:=fun e=>by
    have := Hn.out
    rw [e] at this
    simp at this
    omega
   have hv : U7 hs ls = (M8 (O2 hs ls n) 12,0):=by
    have h1:=B2T (ls:=ls) hne (by rw [← Hn.out];exact hbad)
    rw [h1,← Hn.out]
   rw [hv]
   have hgc : ∀ k,k < 12 → (G8 (P6 hs ls n))[k]? = some (.int .i64 (O2 hs ls n k : Nat)):=fun k hk=>by
    rw [A4E]
    unfold P6
    simp [hk]
   clear hv hne hbad
   obtain ⟨CC,hCC⟩ : ∃ C,C = O2 hs ls n:=⟨_,rfl⟩
   simp only [← hCC] at hgc ⊢
   obtain ⟨X12,hX12⟩ : ∃ X,X = G8 (P6 hs ls n):=⟨_,rfl⟩
   rw [← hX12] at hB
   simp only [← hX12] at hgc
   have Hgc:=Lib.hid hgc
   have g0:=hgc 0 (by omega)
   have g1:=hgc 1 (by omega)
   have g2:=hgc 2 (by omega)
   have g3:=hgc 3 (by omega)
   have g4:=hgc 4 (by omega)
   have g5:=hgc 5 (by omega)
   have g6:=hgc 6 (by omega)
   have g7:=hgc 7 (by omega)
   have g8:=hgc 8 (by omega)
   have g9:=hgc 9 (by omega)
   have g10:=hgc 10 (by omega)
   have g11:=hgc 11 (by omega)
   clear hX12 hCC hgc
   refine r0T ?_
   refine wp_seq ?_
   refine wp_cond_false (rfl) ?_
   refine wp_exit ?_
   refine C9 ?_
   refine C9 ?_
   refine G6 ?_
   refine A4 ?_
   refine r0T ?_
   refine wp_seq ?_
   refine r0T ?_
   refine wp_block ?_
   go_loopw [10,50] (fun s0 s1 wr=>∃ k : Nat,k ≤ 12 ∧ s1 = .int .i64 k ∧ s0 = .int .i64 (M8 CC k : Nat) ∧ Bx wr [(b6,112,X12)] ∧ A3 w wr) (fun _ s1 _=>12 - (intOf s1).toNat)
   case atStart=>exact ⟨0,Nat.zero_le _,rfl,rfl,hB,hG⟩
   case round =>
    clear hB hG
    obtain ⟨k,hk,rfl,rfl,hB,hG⟩:=hrel
    obtain ⟨u,rfl⟩ : ∃ x,x = wr:=⟨_,rfl⟩
    rcases Nat.lt_or_ge k 12 with hlt | hge
    ·have hT : M8 CC k < 12:=by
      rcases Nat.eq_zero_or_pos k with rfl | h0
      ·show 0 < 12
       omega
      ·have := A7F CC k h0
       omega
     have gT:=Hgc.out _ hT
     have hsu : M8 CC (k + 1) = if CC (M8 CC k) < CC k then k else M8 CC k:=rfl
     obtain ⟨T,hTe⟩ : ∃ T,T = M8 CC k:=⟨_,rfl⟩
     rw [← hTe] at hT gT hsu ⊢
     have hTi : (T : Int) < 12:=by omega
     have hki : (k : Int) < 12:=by omega
     have hTd : decide ((k : Int) < 12) = true:=by simp;omega
     have hkn : decide (k < 12) = true:=by simp;omega
     have hix:=fun W=>B1v CC k hlt W
     obtain ⟨Y,hY⟩ : ∃ Y,Y = CC T:=⟨_,rfl⟩
     rw [← hY] at gT hsu
     by_cases hc : Y < CC k
     ·rw [if_pos hc] at hsu
      have dn : decide (Y < CC k) = true:=decide_eq_true hc
      have di : decide ((Y : Int) < (CC k : Int)) = true:=by simp;omega
      clear hc hY hTe
      refine r0T ?_
      refine wp_seq ?_
      refine wp_cond_true (rfl) ?_
      refine wp_skip ?_
      refine A4 ?_
      refine wp_seq ?_
      refine wp_block ?_
      refine r0T ?_
      refine r0T ?_
      refine wp_cond_true (rfl) ?_
      refine r0E ?_
      refine E7 ?_
      refine A4 ?_
      refine r0E ?_
      refine A4 ?_
      go_roundw
      case rel=>exact ⟨k + 1,hlt,by go_num,by rw [hsu],hB,hG⟩
      case measure=>simp [intOf];omega
     ·rw [if_neg hc] at hsu
      have dn : decide (Y < CC k) = false:=decide_eq_false hc
      have di : decide ((Y : Int) < (CC k : Int)) = false:=by simp;omega
      clear hc hY hTe
      refine r0T ?_
      refine wp_seq ?_
      refine wp_cond_true (rfl) ?_
      refine wp_skip ?_
      refine A4 ?_
      refine wp_seq ?_
      refine wp_block ?_
      refine r0T ?_
      refine r0T ?_
      refine wp_cond_false (rfl) ?_
      refine wp_skip ?_
      refine E7 ?_
      refine A4 ?_
      refine r0E ?_
      refine A4 ?_
      go_roundw
      case rel=>exact ⟨k + 1,hlt,by go_num,by rw [hsu],hB,hG⟩
      case measure=>simp [intOf];omega
    ·obtain rfl : k = 12:=by omega
     have hTd : decide ((12 : Int) < 12) = false:=by simp
     refine r0T ?_
     refine wp_seq ?_
     refine wp_cond_false (rfl) ?_
     refine wp_exit ?_
     refine C9 ?_
     refine C9 ?_
     refine G6 ?_
     refine A4 ?_
     refine r0T ?_
     refine rt Tryz.results22 ?_
     exact ⟨rfl,hG⟩
theorem A75 (A B : Option Addr) (hs ls : List Int) (n m c d : Nat) (hn : n = hs.length) (hm : m = ls.length) (hnm : n ≤ 1048576) (w : World) (h : Le hvL 6 w A hs) (h' : Li w B ls) :
  Calls Tryz.prog 22 #[.slice A n c,.slice B m d] w fun e w'=>e = .returned (.tuple #[.int .i64 ((U7 hs ls).1 : Nat),.int .i64 ((U7 hs ls).2 : Nat)]) ∧ A3 w w':=by
 rcases Nat.eq_zero_or_pos n with h0 | h0
 ·obtain rfl : hs = []:=List.eq_nil_of_length_eq_zero (by omega)
  subst h0
  exact A6C A B m c d w
 ·exact A7x A B hs ls n m c d hn h0 hm hnm w h h'
end Go.Proofs.YtjmopgepnndckaaGreatDoor
