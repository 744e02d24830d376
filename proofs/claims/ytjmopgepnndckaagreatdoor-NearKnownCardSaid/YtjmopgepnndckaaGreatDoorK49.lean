/- Contracts and laws. -/
import Derived.Test.YtjmopgepnndckaaGreatDoorK44
set_option linter.unusedSimpArgs false
set_option linter.unusedVariables false
set_option maxHeartbeats 8000000
set_option maxRecDepth 100000
namespace Go.Proofs.YtjmopgepnndckaaGreatDoor
open Go Go.RowKit
theorem A9c : (Tryz.prog.info? 49).map (fun i=>(i.zero,i.size,i.bytes)) = some (some (.agg (qL 0).toArray),5,56):=by kernel_rfl
theorem B3U (n : Nat) : madeCells (Value.agg (qL 0).toArray).cells (n * 5) = ((List.replicate n (0 : Rat)).flatMap qL).toArray:=by
 unfold madeCells
 refine Array.ext (by simp [A1c,show (qL 0).length = 5 from rfl]) fun i h1 h2=>?_
 have h1' : i < n * 5:=by simpa using h1
 have hg:=A2M (List.replicate n (0 : Rat)) (i:=i / 5) (q:=0) (by rw [List.getElem?_replicate,if_pos (by omega)]) (j:=i % 5) (by omega)
 rw [show i / 5 * 5 + i % 5 = i by omega] at hg
 have h3 : ((List.replicate n (0 : Rat)).flatMap qL)[i]? = some ((List.replicate n (0 : Rat)).flatMap qL)[i]:=List.getElem?_eq_getElem _
 rw [h3] at hg
 have h4 : (qL 0)[i % 5]? = some ((qL 0)[i % 5]'(by show i % 5 < 5;omega)):=List.getElem?_eq_getElem _
 rw [h4] at hg
 injection hg with hg
 simp only [List.getElem_toArray,Value.cells,Array.getElem_ofFn]
 rw [hg]
 simp [show (qL 0).length = 5 from rfl]
 rw [h4]
 rfl
theorem A8c (n : Nat) (hn : n ≤ 1048576) (x : Int) (hx : x = n) (W : World) : (Instr.makeSlice 35 (.int .i64 x) (.int .i64 x)).run Tryz.prog W =
  .ok (.slice (some ⟨W.heap.size,0,none⟩) n n) (W.alloc (.cells ((List.replicate n (0 : Rat)).flatMap qL).toArray 49)):=by
 obtain ⟨i0,hi0,hz0,hz1,hz2⟩:=info_parts A9c
 have hr:=run_make (P:=Tryz.prog) W 35 49 i0 (.agg (qL 0).toArray) Tryz.underlying35 hi0 hz0 .i64 .i64 n n (by omega) (by omega) (by rw [hz2];omega) (by omega)
 rw [hx]
 rw [hr,hz1]
 simp only [Int.toNat_natCast]
 rw [B3U]
theorem B12 {u v : World} {B n : Nat} (hB : B ≤ u.heap.size) (hn : n ≤ 1048576) (hv : u.alloc (.cells ((List.replicate n (0 : Rat)).flatMap qL).toArray 49) = v) : v.ownsRow B 49 5 (.slice (some ⟨u.heap.size,0,none⟩) n n) n ((List.replicate n (0 : Rat)).flatMap qL):=by
 subst hv
 have h:=World.ownsRow_lit (base:=B) (e:=49) (size:=5) u ((List.replicate n (0 : Rat)).flatMap qL).toArray n hB (by unfold maxLen;omega) (by simp [A1c,show (qL 0).length = 5 from rfl])
 simpa using h
def R4 (hs : List Int) (vs : List Rat) (n i : Nat) : List Rat:=(List.range n).map fun t=>if t < i then gq vs (gi hs t).toNat else 0
theorem A37 (hs : List Int) (vs : List Rat) (n i : Nat) : (R4 hs vs n i).length = n:=by unfold R4;simp
theorem A70 (hs : List Int) (vs : List Rat) (n : Nat) : R4 hs vs n 0 = List.replicate n 0:=by
 unfold R4
 apply List.ext_getElem
 ·simp
 ·intro i h1 h2;simp
theorem B2Z (hs : List Int) (vs : List Rat) (n : Nat) : R4 hs vs n n = T4 hs vs n:=by
 unfold R4 T4
 refine List.map_congr_left fun j hj=>?_
 rw [if_pos (List.mem_range.1 hj)]
theorem B3Y {hs : List Int} {vs : List Rat} {n i : Nat} (h : i < n) : (R4 hs vs n i).set i (gq vs (gi hs i).toNat) = R4 hs vs n (i + 1):=by
 unfold R4
 apply List.ext_getElem
 ·simp
 ·intro j h1 h2
  rw [List.getElem_set]
  simp only [List.getElem_map,List.getElem_range]
  by_cases e : i = j
  ·subst e;simp
  ·rw [if_neg e]
   by_cases hj : j < i
   ·rw [if_pos hj,if_pos (by omega)]
   ·rw [if_neg hj,if_neg (by omega)]
theorem B2w (m : Nat) (R : Int) : (R < 0 ∧ Q4 m R = true) ∨ (∃ r : Nat,R = r ∧ m ≤ r ∧ Q4 m R = true) ∨ ∃ r : Nat,R = r ∧ r < m ∧ Q4 m R = false:=by
 by_cases h1 : R < 0
 ·exact .inl ⟨h1,by unfold Q4;simp [h1]⟩
 ·obtain ⟨r,rfl⟩ : ∃ r : Nat,R = r:=⟨R.toNat,by omega⟩
  by_cases h2 : m ≤ r
  ·exact .inr (.inl ⟨r,rfl,h2,by unfold Q4;simp [h2]⟩)
  ·refine .inr (.inr ⟨r,rfl,by omega,?_⟩)
   unfold Q4
   simp only [Bool.or_eq_false_iff,decide_eq_false_iff_not]
   omega
theorem A73 {hs : List Int} {vs : List Rat} {n : Nat} (h : ∀ x ∈ vs,qs x ≤ 50) : ∀ x ∈ T4 hs vs n,qs x ≤ 50:=fun x hx=>by
 unfold T4 at hx
 obtain ⟨i,-,rfl⟩:=List.mem_map.1 hx
 unfold gq
 cases hg : vs[(gi hs i).toNat]? with
 | none=>show qs 0 ≤ 50;rw [A22];omega
 | some q=>exact h q (List.mem_of_getElem? hg)
theorem A9h (A B : Option Addr) (m c d : Nat) (w : World) : Calls Tryz.prog 24 #[.slice A 0 c,.slice B m d] w fun e w'=>e = .returned (.tuple #[qV 0,.int .i64 5]) ∧ A3 w w':=by
 go_enter Tryz.func24,Tryz.ntmps24
 refine en1 ?_
 intro u hG b4 hB hF
 refine wp_seq ?_
 refine r0T ?_
 refine wp_cond_true (rfl) ?_
 refine r0T ?_
 refine st hB hF hG 0 0 [_,_,_,_,_] ?_
 clear hB hG
 intro u hB hG
 refine rt Tryz.results24 ?_
 exact ⟨rfl,hG⟩
theorem B2G (A B : Option Addr) (hs : List Int) (vs : List Rat) (n m c d : Nat) (hn : n = hs.length) (hn0 : 0 < n) (hm : m = vs.length) (hnm : n ≤ 1000) (hz : ∀ x ∈ vs,qs x ≤ 50) (w : World) (h : Le hvL 6 w A hs) (h' : Lq w B vs) (HT : Tab w) :
  Calls Tryz.prog 24 #[.slice A n c,.slice B m d] w fun e w'=>e = .returned (.tuple #[qV (U9 hs vs).1,.int .i64 ((U9 hs vs).2 : Nat)]) ∧ A3 w w':=by
 have hBB : 100000 ≤ BIG:=by unfold BIG;omega
 have hMe:=fun (W : World) (A' : Option Addr) (c' : Nat) (hX : Lq W A' (T4 hs vs n)) (hT : Tab W)=>B0B A' (T4 hs vs n) c' n (B3R hs vs n).symm hn0 (by omega) 50 (A73 hz) (by omega) W hX hT
 have hmk:=A8c n (by omega) (n : Int) rfl
 have H:=Lib.hid h
 have H':=Lib.hid h'
 have Hn:=Lib.hid hn
 have Hm:=Lib.hid hm
 have HMe:=Lib.hid hMe
 have Hmk:=Lib.hid hmk
 have fn : ((n : Int) == 0) = false:=by simp;omega
 have fnd : decide (n = 0) = false:=by simp;omega
 clear h h' hn hm hMe hmk hz
 go_enter Tryz.func24,Tryz.ntmps24
 refine en1 ?_
 intro u hG b4 hB hF
 refine wp_seq ?_
 refine r0T ?_
 refine wp_cond_false (rfl) ?_
 refine wp_skip ?_
 refine A4 ?_
 refine wp_seq ?_
 have hmk:=Hmk.out
 refine F1 ?_
 intro K hN
 go_wp2_with fail
 generalize hv : World.alloc u _ = v
 have hrow:=B12 hG.sz (by omega) hv
 have hgv : A3 u v:=hv ▸ A3.alloc u _
 have hG2:=hG.trans hgv
 have hB2:=hB.grow hgv
 have hg4 : u.heap.size ≠ b4:=Nat.ne_of_gt hB.head.lt
 clear hv hG hB hmk hgv
 rw [← A70 hs vs n] at hrow
 generalize u.heap.size = g at hrow hg4 ⊢
 have Ho:=Lib.hid hrow
 have hG:=hG2
 have hB:=hB2
 clear hrow hG2 hB2
 obtain ⟨u,rfl⟩ : ∃ x,x = v:=⟨_,rfl⟩
 refine NoK.norm (hN _ _ ?_)
 clear hN K
 refine A4 ?_
 refine wp_seq ?_
 refine r0T ?_
 refine wp_block ?_
 go_loopw [20] (fun s0 wr=>∃ j : Nat,j ≤ n ∧ s0 = .int .i64 j ∧ (∀ i,i < j → Q4 m (gi hs i) = false) ∧ wr.ownsRow w.heap.size 49 5 (.slice (some ⟨g,0,none⟩) n n) n ((R4 hs vs n j).flatMap qL) ∧ Bx wr [(b4,49,A66)] ∧ A3 w wr) (fun s0 _=>n - (intOf s0).toNat)
 case atStart=>exact ⟨0,Nat.zero_le _,rfl,(fun i hi=>absurd hi (by omega)),Ho.out,hB,hG⟩
 case round =>
  clear hB hG Ho
  obtain ⟨j,hj,rfl,hbad,ho,hB,hG⟩:=hrel
  obtain ⟨u,rfl⟩ : ∃ x,x = wr:=⟨_,rfl⟩
  have Ho:=Lib.hid ho
  clear ho
  rcases Nat.lt_or_ge j n with hlt | hge
  ·have hdec : decide ((j : Int) < (n : Int)) = true:=by simp;omega
   have hji : (j : Int) < (n : Int):=by omega
   have hjl : j < hs.length:=by rw [← Hn.out];exact hlt
   obtain ⟨ba,oa,rfl,hrd⟩:=H.out.at hjl
   rw [← A5Y hjl] at hrd
   have hv1:=fun hb=>A9W (vs:=vs) hjl hb
   have hb0:=fun (hb : Q4 m (gi hs j) = false) (i : Nat) (hi : i < j + 1)=>(if e : i = j then by rw [e];exact hb else hbad i (by omega) : Q4 m (gi hs i) = false)
   have hst:=B3Y (hs:=hs) (vs:=vs) hlt
   rw [← Hm.out] at hv1
   obtain ⟨R,hR⟩ : ∃ R,R = gi hs j:=⟨_,rfl⟩
   rw [← hR] at hrd hv1 hb0 hst
   have Hrd:=Lib.hid hrd
   clear hrd hbad hR
   rcases B2w m R with ⟨e1,e2⟩ | ⟨r,rfl,e1,e2⟩ | ⟨r,rfl,e1,e2⟩
   ·have d1 : decide (R < 0) = true:=decide_eq_true e1
    rw [hv1 e2]
    clear hv1 hb0 hst e1 e2
    refine r0T ?_
    refine wp_seq ?_
    refine wp_cond_true (rfl) ?_
    refine wp_skip ?_
    refine A4 ?_
    refine wp_seq ?_
    refine wp_block ?_
    refine wp_seq (rsC V7 [0,0,0,2,0] hB hG fun K L hN hL=>?_)
    repeat first | refine gya ?_ | refine gyr ?_ | refine gna ?_ | refine gyb (by (rintro v ⟨hgu,hB,hG,-⟩ N hN;have r:=hB.r;simp only [BxR] at r;have q0:=Hrd.out v hG 0 _ rfl;have q1:=Hrd.out v hG 1 _ rfl;have q2:=Hrd.out v hG 2 _ rfl;have q3:=Hrd.out v hG 3 _ rfl;have q4:=Hrd.out v hG 4 _ rfl;have q5:=Hrd.out v hG 5 _ rfl;simp only [Nat.add_zero] at q0;go_simp;exact hN)) ?_
    refine gaa (V6 _ _ _ _ _) fun b8 hb8 hn8=>?_
    refine gs ?_
    replace hF:=hF.n1 [] hB hG hb8 hn8
    refine geC hL ?_
    clear hB hG hL L
    rintro u ⟨⟨hgu,hB,hG,-⟩,h8⟩
    replace hB:=hB.cons' h8
    clear h8
    have g8 : g ≠ b8:=by
     have := (Ho.out.lt g rfl).2
     omega
    have Ho2:=Lib.hid (E5 Ho.out hgu)
    clear Ho
    have Ho:=Ho2
    clear Ho2
    clear hb8 hn8
    clear hgu
    refine gtT ?_
    clear hN K
    refine sv hB hF hG 0 0 [_,_,_,_,_,_] ?_
    intro u hu hBG
    have Ho2:=Lib.hid (O7 Ho.out (fun e=>g8 (Option.some.inj e)) hu)
    clear Ho
    have Ho:=Ho2
    clear Ho2
    clear hB hG hu
    obtain ⟨hB,hG⟩:=hBG
    refine wp_seq ?_
    refine wp_seq ?_
    have q0:=Hrd.out u hG 0 _ rfl;have q1:=Hrd.out u hG 1 _ rfl;have q2:=Hrd.out u hG 2 _ rfl;have q3:=Hrd.out u hG 3 _ rfl;have q4:=Hrd.out u hG 4 _ rfl;have q5:=Hrd.out u hG 5 _ rfl;simp only [Nat.add_zero] at q0
    refine r0N ?_
    refine wp_cond_true (rfl) ?_
    refine wp_seq ?_
    have q0:=Hrd.out u hG 0 _ rfl;have q1:=Hrd.out u hG 1 _ rfl;have q2:=Hrd.out u hG 2 _ rfl;have q3:=Hrd.out u hG 3 _ rfl;have q4:=Hrd.out u hG 4 _ rfl;have q5:=Hrd.out u hG 5 _ rfl;simp only [Nat.add_zero] at q0
    refine r0N ?_
    refine st hB hF hG 1 0 [_,_,_,_,_] ?_
    clear hB hG
    intro u hB hG
    refine rt Tryz.results24 ?_
    exact ⟨rfl,hG⟩
   ·have d2 : decide ((m : Int) ≤ (r : Int)) = true:=by simp;omega
    have d3 : decide (m ≤ r) = true:=by simp;omega
    rw [hv1 e2]
    clear hv1 hb0 hst e2
    refine r0T ?_
    refine wp_seq ?_
    refine wp_cond_true (rfl) ?_
    refine wp_skip ?_
    refine A4 ?_
    refine wp_seq ?_
    refine wp_block ?_
    refine wp_seq (rsC V7 [0,0,0,2,0] hB hG fun K L hN hL=>?_)
    repeat first | refine gya ?_ | refine gyr ?_ | refine gna ?_ | refine gyb (by (rintro v ⟨hgu,hB,hG,-⟩ N hN;have r:=hB.r;simp only [BxR] at r;have q0:=Hrd.out v hG 0 _ rfl;have q1:=Hrd.out v hG 1 _ rfl;have q2:=Hrd.out v hG 2 _ rfl;have q3:=Hrd.out v hG 3 _ rfl;have q4:=Hrd.out v hG 4 _ rfl;have q5:=Hrd.out v hG 5 _ rfl;simp only [Nat.add_zero] at q0;go_simp;exact hN)) ?_
    refine gaa (V6 _ _ _ _ _) fun b8 hb8 hn8=>?_
    refine gs ?_
    replace hF:=hF.n1 [] hB hG hb8 hn8
    refine geC hL ?_
    clear hB hG hL L
    rintro u ⟨⟨hgu,hB,hG,-⟩,h8⟩
    replace hB:=hB.cons' h8
    clear h8
    have g8 : g ≠ b8:=by
     have := (Ho.out.lt g rfl).2
     omega
    have Ho2:=Lib.hid (E5 Ho.out hgu)
    clear Ho
    have Ho:=Ho2
    clear Ho2
    clear hb8 hn8
    clear hgu
    refine gtT ?_
    clear hN K
    refine sv hB hF hG 0 0 [_,_,_,_,_,_] ?_
    intro u hu hBG
    have Ho2:=Lib.hid (O7 Ho.out (fun e=>g8 (Option.some.inj e)) hu)
    clear Ho
    have Ho:=Ho2
    clear Ho2
    clear hB hG hu
    obtain ⟨hB,hG⟩:=hBG
    refine wp_seq ?_
    refine wp_seq ?_
    have q0:=Hrd.out u hG 0 _ rfl;have q1:=Hrd.out u hG 1 _ rfl;have q2:=Hrd.out u hG 2 _ rfl;have q3:=Hrd.out u hG 3 _ rfl;have q4:=Hrd.out u hG 4 _ rfl;have q5:=Hrd.out u hG 5 _ rfl;simp only [Nat.add_zero] at q0
    refine r0N ?_
    refine wp_cond_true (rfl) ?_
    refine wp_seq ?_
    have q0:=Hrd.out u hG 0 _ rfl;have q1:=Hrd.out u hG 1 _ rfl;have q2:=Hrd.out u hG 2 _ rfl;have q3:=Hrd.out u hG 3 _ rfl;have q4:=Hrd.out u hG 4 _ rfl;have q5:=Hrd.out u hG 5 _ rfl;simp only [Nat.add_zero] at q0
    refine r0N ?_
    refine st hB hF hG 1 0 [_,_,_,_,_] ?_
    clear hB hG
    intro u hB hG
    refine rt Tryz.results24 ?_
    exact ⟨rfl,hG⟩
   ·have hrl : r < vs.length:=by rw [← Hm.out];exact e1
    obtain ⟨bb,ob,rfl⟩:=H'.out.addr (by omega)
    have hlb : ∀ W,A3 w W → Cq W bb (ob + r * 5) (gq vs r):=fun W hg=>(H'.out.grow hg).read hrl
    have d2 : decide ((m : Int) ≤ (r : Int)) = false:=by simp;omega
    have d3 : decide (m ≤ r) = false:=by simp;omega
    have hri : (r : Int) < (m : Int):=by omega
    simp only [Int.toNat_natCast] at hst
    obtain ⟨X,hX⟩ : ∃ X,X = gq vs r:=⟨_,rfl⟩
    rw [← hX] at hst
    simp only [← hX] at hlb
    have Hlb:=Lib.hid hlb
    have Hst:=Lib.hid hst
    have Hb0:=Lib.hid (hb0 e2)
    clear hv1 hb0 e2 hlb hst hX hrl
    refine r0T ?_
    refine wp_seq ?_
    refine wp_cond_true (rfl) ?_
    refine wp_skip ?_
    refine A4 ?_
    refine wp_seq ?_
    refine wp_block ?_
    refine wp_seq (rsC V7 [0,0,0,2,0] hB hG fun K L hN hL=>?_)
    repeat first | refine gya ?_ | refine gyr ?_ | refine gna ?_ | refine gyb (by (rintro v ⟨hgu,hB,hG,-⟩ N hN;have r:=hB.r;simp only [BxR] at r;have q0:=Hrd.out v hG 0 _ rfl;have q1:=Hrd.out v hG 1 _ rfl;have q2:=Hrd.out v hG 2 _ rfl;have q3:=Hrd.out v hG 3 _ rfl;have q4:=Hrd.out v hG 4 _ rfl;have q5:=Hrd.out v hG 5 _ rfl;simp only [Nat.add_zero] at q0;go_simp;exact hN)) ?_
    refine gaa (V6 _ _ _ _ _) fun b8 hb8 hn8=>?_
    refine gs ?_
    replace hF:=hF.n1 [] hB hG hb8 hn8
    refine geC hL ?_
    clear hB hG hL L
    rintro u ⟨⟨hgu,hB,hG,-⟩,h8⟩
    replace hB:=hB.cons' h8
    clear h8
    have g8 : g ≠ b8:=by
     have := (Ho.out.lt g rfl).2
     omega
    have Ho2:=Lib.hid (E5 Ho.out hgu)
    clear Ho
    have Ho:=Ho2
    clear Ho2
    clear hb8 hn8
    clear hgu
    refine gtT ?_
    clear hN K
    refine sv hB hF hG 0 0 [_,_,_,_,_,_] ?_
    intro u hu hBG
    have Ho2:=Lib.hid (O7 Ho.out (fun e=>g8 (Option.some.inj e)) hu)
    clear Ho
    have Ho:=Ho2
    clear Ho2
    clear hB hG hu
    obtain ⟨hB,hG⟩:=hBG
    refine wp_seq ?_
    refine wp_seq ?_
    have q0:=Hrd.out u hG 0 _ rfl;have q1:=Hrd.out u hG 1 _ rfl;have q2:=Hrd.out u hG 2 _ rfl;have q3:=Hrd.out u hG 3 _ rfl;have q4:=Hrd.out u hG 4 _ rfl;have q5:=Hrd.out u hG 5 _ rfl;simp only [Nat.add_zero] at q0;obtain ⟨y1,y2,y3,y4,y5⟩:=Hlb.out u hG
    refine r0N ?_
    refine wp_cond_false (rfl) ?_
    refine wp_skip ?_
    refine A4 ?_
    obtain ⟨z0,z1,z2,z3,z4,o0,o1,o2,o3,o4,hfz⟩:=A8q (enc:=qL) (fun _=>rfl) Ho.out (A37 hs vs n j).symm j (by rw [A37];exact hlt)
    have q0:=Hrd.out u hG 0 _ rfl;have q1:=Hrd.out u hG 1 _ rfl;have q2:=Hrd.out u hG 2 _ rfl;have q3:=Hrd.out u hG 3 _ rfl;have q4:=Hrd.out u hG 4 _ rfl;have q5:=Hrd.out u hG 5 _ rfl;simp only [Nat.add_zero] at q0;obtain ⟨y1,y2,y3,y4,y5⟩:=Hlb.out u hG
    refine r0E ?_
    clear o0 o1 o2 o3 o4 hfz
    generalize hu0 : World.setCell (World.setCell (World.setCell (World.setCell (World.setCell u _ _) _ _) _ _) _ _) _ _ = u0
    have hu1 : E1 u g (j * 5) (qL X) = u0:=hu0
    have hP:=A4O (enc:=qL) (size:=5) (ps:=R4 hs vs n j) (fun _=>rfl) Ho.out j X (by rw [A37];exact hlt)
    rw [Hst.out,hu1] at hP
    have hG2:=A61 Ho.out hG hP.2
    have hB2:=hB.tail.grown_ hP.2 (fun e he hxe=>by
     have e1 : e = _:=List.mem_singleton.1 he
     subst e1
     exact hg4 (Option.some.inj hxe).symm)
    have Ho2:=Lib.hid hP.1
    clear hG hB Ho hP hu1 hu0
    have hG:=hG2
    have hB:=hB2
    have Ho:=Ho2
    clear hG2 hB2 Ho2
    obtain ⟨u,rfl⟩ : ∃ x,x = u0:=⟨_,rfl⟩
    refine E7 ?_
    refine A4 ?_
    refine r0E ?_
    refine A4 ?_
    go_roundw
    case rel=>exact ⟨j + 1,by omega,by go_num,Hb0.out,Ho.out,hB,hG⟩
    case measure=>simp [intOf];omega
  ·obtain rfl : n = j:=by omega
   have hdec : decide ((n : Int) < (n : Int)) = false:=by simp
   have hne : hs ≠ []:=fun e=>by
    have := Hn.out
    rw [e] at this
    simp at this
    omega
   have hv : U9 hs vs = (A1A (T4 hs vs n) n,0):=by
    have h1:=B0i (vs:=vs) hne (by rw [← Hn.out,← Hm.out];exact hbad)
    rw [h1,← Hn.out]
   rw [hv]
   have ho:=Ho.out
   rw [B2Z] at ho
   obtain ⟨A9,c9,e9,-,-,hL,-⟩:=A5j ho
   cases e9
   have HL:=Lib.hid hL
   clear hv hne hbad ho hL Ho
   refine r0T ?_
   refine wp_seq ?_
   refine wp_cond_false (rfl) ?_
   refine wp_exit ?_
   refine C9 ?_
   refine C9 ?_
   refine G6 ?_
   refine A4 ?_
   refine wp_seq (rsC V7 [0,1,0,0,0,2] hB hG fun K L hN hL=>?_)
   refine gs ?_
   refine gmd (C:=fun v ⟨hgu,hB,hG,_⟩=>HMe.out _ _ _ (HL.out.grow hgu) (HT.grow hG)) ?_
   refine gs ?_
   refine gaa (K9 _ _ _ _ _) fun b9 hb9 hn9=>?_
   replace hF:=hF.n1 [] hB hG hb9 hn9
   refine geC hL ?_
   clear hB hG hL L
   rintro u ⟨⟨-,hB,hG,-⟩,h9⟩
   replace hB:=hB.cons' h9
   clear h9
   clear hb9 hn9
   refine gtT ?_
   clear hN K
   refine st hB hF hG 0 0 [_,_,_,_,_] ?_
   clear hB hG
   intro u hB hG
   refine r0T ?_
   refine st hB hF hG 1 0 [_,_,_,_,_] ?_
   clear hB hG
   intro u hB hG
   refine rt Tryz.results24 ?_
   exact ⟨rfl,hG⟩
theorem B2C (A B : Option Addr) (hs : List Int) (vs : List Rat) (n m c d : Nat) (hn : n = hs.length) (hm : m = vs.length) (hnm : n ≤ 1000) (hz : ∀ x ∈ vs,qs x ≤ 50) (w : World) (h : Le hvL 6 w A hs) (h' : Lq w B vs) (HT : Tab w) :
  Calls Tryz.prog 24 #[.slice A n c,.slice B m d] w fun e w'=>e = .returned (.tuple #[qV (U9 hs vs).1,.int .i64 ((U9 hs vs).2 : Nat)]) ∧ A3 w w':=by
 rcases Nat.eq_zero_or_pos n with h0 | h0
 ·obtain rfl : hs = []:=List.eq_nil_of_length_eq_zero (by omega)
  subst h0
  exact A9h A B m c d w
 ·exact B2G A B hs vs n m c d hn h0 hm hnm hz w h h' HT
end Go.Proofs.YtjmopgepnndckaaGreatDoor
