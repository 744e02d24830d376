/-
  The claim's theorem: NearVW NearVotesZ.
-/
import Derived.Test.YtjmopgepnndckaaGreatDoorV49
set_option linter.unusedSimpArgs false
set_option linter.unusedVariables false
namespace Go.Proofs.YtjmopgepnndckaaGreatDoor
open Go Go.RowKit
/-- the rows of the first hits, the first labels -/
def hitP (l : List Int) (j : Nat) : List Int := (List.range j).map fun i => pick (gi l i) 8 - 1
def labP (l : List Int) (j : Nat) : List Int := (List.range j).map fun i => pick (gi l i) 14 - 1
theorem hitP_succ (l : List Int) (j : Nat) : hitP l (j + 1) = hitP l j ++ [pick (gi l j) 8 - 1] := by unfold hitP; rw [List.range_succ, List.map_append]; rfl
theorem labP_succ (l : List Int) (j : Nat) : labP l (j + 1) = labP l j ++ [pick (gi l j) 14 - 1] := by unfold labP; rw [List.range_succ, List.map_append]; rfl
theorem hitP_len (l : List Int) (j : Nat) : (hitP l j).length = j := by unfold hitP; simp
theorem labP_len (l : List Int) (j : Nat) : (labP l j).length = j := by unfold labP; simp
theorem bs_HitI (r : Int) (w : World) : (Instr.buildSlice 29 1 #[(0, .agg #[.int .i64 r, .bool false, .int .u64 0, .string ⟨#[]⟩, .int .u64 0, .string ⟨#[]⟩])]).run Tryz.prog w = .ok (.slice (some ⟨w.heap.size, 0, none⟩) 1 1) (w.alloc (.cells (hvL r).toArray 51)) := by
 go_simp
theorem bs_RHitI (r : Int) (w : World) : (Instr.buildSlice 40 1 #[(0, .agg #[.int .i64 r, .bool false, .slice none 0 0, .slice none 0 0])]).run Tryz.prog w = .ok (.slice (some ⟨w.heap.size, 0, none⟩) 1 1) (w.alloc (.cells (hwL r).toArray 59)) := by
 go_simp
/-- a row of the call's own that is kept while another grows -/
def OwnV (B : Nat) (e : TypeId) (k n : Nat) (v : Value) (xs : List Value) (u : World) : Prop := u.ownsRow B e k v n xs
theorem OwnV.grow {B : Nat} {e : TypeId} {k n : Nat} {v : Value} {xs : List Value} {u u' : World} (h : OwnV B e k n v xs u) (hg : Grow u u') : OwnV B e k n v xs u' := own_grow' h hg
theorem OwnV.own {B0 : Nat} {e0 : TypeId} {k0 n0 : Nat} {v0 : Value} {xs0 : List Value} {u w' : World} {B : Nat} {e : TypeId} {size n : Nat} {v : Value} {xs : List Value} {o : Obj} (hl : OwnV B0 e0 k0 n0 v0 xs0 u) (h : u.ownsRow B e size v n xs) (ht : e ≠ e0) (hg : (u.alloc o).grownBy w' v.ownBlock) : OwnV B0 e0 k0 n0 v0 xs0 w' :=
 World.ownsRow.kept (World.ownsRow.alloc hl o) hg (by
  cases hb : v0.ownBlock with
  | none => exact .inl rfl
  | some g => exact .inr fun e1 => apart_types h hl ht g e1.symm hb)
theorem own_liI {u : World} {B n : Nat} {v : Value} {l : List Int} (h : u.ownsRow B 3 1 v n (l.flatMap fun x => [Value.int .i64 x])) : ∃ A c, v = .slice A n c ∧ Li u A l ∧ n = l.length := by
 obtain ⟨A, c, e, -, h1, h2⟩ := own_le (k := 1) (enc := fun x => [Value.int .i64 x]) (fun _ => rfl) (by omega) h
 refine ⟨A, c, e, fun hne => ?_, h2⟩
 obtain ⟨b, off, e1, hb, hc⟩ := h1 hne
 exact ⟨b, off, e1, hb, fun i x hi => by
  have := hc i x hi 0 _ rfl
  simpa using this⟩
theorem meanV_sz {hs : List Int} {vs : List Rat} (hl : hs.length ≤ 9) (hz : ∀ x ∈ vs, qs x ≤ 50) : qs (meanV hs vs).1 ≤ LIM := by
 have hL : LIM = 1099511627760 := rfl
 unfold meanV
 split
 ·show qs 0 ≤ LIM; rw [qs_zero]; omega
 ·split
  ·show qs 0 ≤ LIM; rw [qs_zero]; omega
  ·show qs (qMean (valsM hs vs hs.length) hs.length) ≤ LIM
   have h1 := mean_size (f := gq (valsM hs vs hs.length)) (m := hs.length) (s := 50) (by omega) (fun i hi => valsM_sz hz _ (gq_mem (by rw [valsM_len]; exact hi)))
   have h2 : hs.length * (50 + 1) ≤ 9 * 51 := Nat.mul_le_mul_right _ hl
   unfold qMean
   omega
set_option maxHeartbeats 16000000 in
set_option maxRecDepth 100000 in
theorem law23_NearVotes (A : Option Addr) (la : List Int) (ca : Nat) (B : Option Addr) (lb : List Int) (cb : Nat) (C : Option Addr) (lc : List Int) (cc : Nat) (hla : la.length ≤ 9223372036854775807) (hba : ∀ x ∈ la, -9223372036854775808 ≤ x ∧ x ≤ 9223372036854775807) (hlb : lb.length ≤ 9223372036854775807) (hbb : ∀ x ∈ lb, -9223372036854775808 ≤ x ∧ x ≤ 9223372036854775807) (hlc : lc.length ≤ 9223372036854775807) (hbc : ∀ x ∈ lc, -9223372036854775808 ≤ x ∧ x ≤ 9223372036854775807)
  (w : World) (h1 : Li w A la) (h2 : Li w B lb) (h3 : Li w C lc) (HT : Tab w) :
  Calls Tryz.prog 4 #[.slice A la.length ca, .slice B lb.length cb, .slice C lc.length cc] w fun e w' => e = .returned (.bool true) ∧ Grow w w' := by
 obtain ⟨pa, hpa⟩ : ∃ p, p = la.length := ⟨_, rfl⟩
 obtain ⟨pb, hpb⟩ : ∃ p, p = lb.length := ⟨_, rfl⟩
 obtain ⟨pc, hpc⟩ : ∃ p, p = lc.length := ⟨_, rfl⟩
 rw [← hpa, ← hpb, ← hpc]
 have hBB : 100000 ≤ BIG := by unfold BIG; omega
 obtain ⟨na, hna⟩ : ∃ x, x = min pa 9 := ⟨_, rfl⟩
 obtain ⟨nb, hnb⟩ : ∃ x, x = min pb 7 := ⟨_, rfl⟩
 obtain ⟨nc, hnc⟩ : ∃ x, x = min pc 7 := ⟨_, rfl⟩
 have fmin : min (pc : Int) 7 = (nc : Int) := by omega
 have hq : ∀ W, Grow w W → Calls Tryz.prog 13 #[.slice C pc cc, .int .i64 nc] W (RetY (fun x : Ax => .slice x.1 nc x.2) (fun x W' => Lz W' x.1 (rowQ lc nc)) W) := fun W hg =>
  (hand_RowO C lc cc pc nc hpc (by omega) (by omega) hbc W (h3.grow hg)).mono fun e w' ⟨v, ps, he, e1, e2, e3, hg'⟩ => by
   obtain ⟨A2, c2, rfl, -, -, hLz, -⟩ := own_lz e3 e2
   rw [e1] at hLz
   exact ⟨(A2, c2), he, hLz, hg'⟩
 have lP := rowQ_len lc nc
 have sP := rowQ_szN lc nc
 generalize rowQ lc nc = P at *
 have hip : ∀ (W : World) (X : Ax), Lz W X.1 P → Tab W → Calls Tryz.prog 17 #[.slice X.1 nc X.2] W (RetY (fun x : Ax => .slice x.1 nc x.2) (fun x W => Lq W x.1 P) W) := fun W X hX hT =>
  (hand_InRow X.1 P X.2 nc lP.symm (by omega) (fun x hx => Nat.le_trans (sP x hx) (by omega)) W hX hT).mono fun e w' ⟨A', c', he, h, hg'⟩ => ⟨(A', c'), he, h, hg'⟩
 have H1 := Lib.hid h1
 have H2 := Lib.hid h2
 have Hq := Lib.hid hq
 have Hip := Lib.hid hip
 have LP := Lib.hid lP
 have SP := Lib.hid sP
 have Hpa := Lib.hid hpa
 have Hpb := Lib.hid hpb
 have Hna := Lib.hid hna
 have Hnb := Lib.hid hnb
 have hna9 : na ≤ 9 := by omega
 have hnb7 : nb ≤ 7 := by omega
 clear hba hbb h1 h2 h3 hq hip lP sP hpa hpb hpc hna hnb hnc hla hlb hlc hbc
 go_enter Tryz.func4, Tryz.ntmps4
 refine en0 ?_
 intro u hG hB hF
 refine r0T ?_
 refine r0T ?_
 refine wp_seqK fun Kj hKj => ?_
 go_cut [7, 8] from 9 to 47 (fun s7 s8 wx => ∃ (HA OA : Option Addr) (HC OC : Nat), s7 = .slice HA na HC ∧ s8 = .slice OA na OC ∧ Le hvL 6 wx HA (hitP la na) ∧ Le hwL 4 wx OA (hitP la na) ∧ Grow w wx)
 case first =>
  rename_i Jj Kk hJj hMj
  refine r0T ?_
  refine wp_block ?_
  go_loopw [9, 7, 8] (fun s0 s1 s2 wr => ∃ j : Nat, j ≤ na ∧ s0 = .int .i64 j ∧ wr.ownsRow w.heap.size 51 6 s1 j ((hitP la j).flatMap hvL) ∧ OwnV w.heap.size 59 4 j s2 ((hitP la j).flatMap hwL) wr ∧ Grow w wr) (fun s0 _ _ _ => na - (intOf s0).toNat)
  case atStart => exact ⟨0, Nat.zero_le _, rfl, World.ownsRow_nil _ _ _ _, World.ownsRow_nil _ _ _ _, hG⟩
  case round =>
   clear hB hG
   obtain ⟨j, hj, rfl, ho, OX, hG⟩ := hrel
   obtain ⟨u, rfl⟩ : ∃ x, x = wr := ⟨_, rfl⟩
   have hB := Bx.nil u
   have Ho := Lib.hid ho
   clear ho
   have e0 := Hna.out
   rcases Nat.lt_or_ge j na with hlt | hge
   ·have hdec : decide ((j : Int) < (pa : Int)) = true := by simp; omega
    have hdec9 : decide ((j : Int) < 9) = true := by simp; omega
    have hdec9n : decide (j < 9) = true := by simp; omega
    have hji : (j : Int) < (pa : Int) := by omega
    have hjl : j < la.length := by rw [← Hpa.out]; omega
    obtain ⟨ba, oa, rfl, hrd⟩ := H1.out.at hjl
    have hst := hitP_succ la j
    have hpk := fun W => hand_PickG (gi la j) 8 (by omega) (by omega) W
    have hpr := pick_range (gi la j) (m := 8) (by omega)
    obtain ⟨Y, hY⟩ : ∃ Y, Y = gi la j := ⟨_, rfl⟩
    rw [← hY] at hrd hst hpr
    simp only [← hY] at hpk
    obtain ⟨Z, hZ⟩ : ∃ Z, Z = pick Y 8 := ⟨_, rfl⟩
    rw [← hZ] at hst hpr
    simp only [← hZ] at hpk
    obtain ⟨R, hR⟩ : ∃ R, R = Z - 1 := ⟨_, rfl⟩
    rw [← hR] at hst
    have fR : IntKind.i64.wrap (Z - 1) = R := by rw [IntWalk.i64_in _ (by omega)]; exact hR.symm
    have Hrd := Lib.hid hrd
    have Hpk := Lib.hid hpk
    have Hst := Lib.hid hst
    clear e0 hrd hpk hst hpr hY hZ hR
    refine wp_seq ?_
    refine r0T ?_
    refine wp_cond_true (rfl) ?_
    refine wp_skip ?_
    refine then_norm ?_
    refine wp_seq ?_
    refine wp_block ?_
    refine wp_seq (rsE allocsV [0, 0, 0, 0, 1, 0, 0] hB hG fun L hL => ?_)
    repeat first | refine gya ?_ | refine gyr ?_ | refine gna ?_ | refine gyb (by (rintro v ⟨hgu, hB, hG, -⟩ N hN; have r := hB.r; simp only [BxR] at r; have q0 := Hrd.out v hG; go_simp; exact hN)) ?_
    refine gmw (C := fun v => Hpk.out _) ?_
    refine gs ?_
    refine geT hL ?_
    clear hB hG hL L
    rintro u ⟨hgu, hB, hG, -⟩
    replace OX := OX.grow hgu
    have Ho2 := Lib.hid (own_grow' Ho.out hgu)
    clear Ho
    have Ho := Ho2
    clear Ho2
    clear hgu
    refine wp_seq ?_
    refine wp_rs (w := w) allocsV 3 [0, 0, 0] (by kernel_rfl) (by simp only [List.drop_succ_cons, List.drop_zero]; exact rfl) (fun _ => True) noG hB hG trivial ?_
    intro K L hN hL
    simp only [List.zip_cons_cons, List.zip_nil_left]
    refine gs ?_
    refine gend ?_
    rintro v ⟨hgu, hB1, hG1, -⟩
    replace OX := OX.grow hgu
    have ROWn := Lib.hid (own_grow' Ho.out hgu)
    clear Ho
    have Ho := ROWn
    clear ROWn
    clear hB hG
    have hB := hB1
    have hG := hG1
    clear hB1 hG1
    refine hL _ _ ?_
    clear hL L hgu
    obtain ⟨u, rfl⟩ : ∃ x, x = v := ⟨_, rfl⟩
    refine app_tailG ei_Hit w.heap.size _ _ _ _ (hvL R) rfl rfl (bs_HitI R u) rfl (fun _ => rfl) (fun _ => rfl) (fun _ _ => rfl) Ho.out (by omega) (by omega) hG.sz fun p v' w' g1 g2 g3 => ?_
    have hBn := Bx.nil w'
    have hGn := own_growth Ho.out hG g2
    replace OX := OX.own Ho.out (by decide) g2
    clear Ho hB hG
    have Ho := Lib.hid g1
    have hB := hBn
    have hG := hGn
    clear g1 g2 g3 hBn hGn
    obtain ⟨u, rfl⟩ : ∃ x, x = w' := ⟨_, rfl⟩
    simp only [Act.put, List.setIfInBounds_toArray, List.set_cons_succ, List.set_cons_zero]
    refine NoK.norm (hN _ _ ?_)
    clear hN K
    refine then_norm ?_
    have OY : OwnV w.heap.size 51 6 (j + 1) _ _ u := Ho.out
    clear Ho
    have Ho := Lib.hid (show u.ownsRow w.heap.size 59 4 _ j _ from OX)
    clear OX
    have OX := OY
    clear OY
    refine wp_rs (w := w) allocsV 3 [0, 0, 0] (by kernel_rfl) (by simp only [List.drop_succ_cons, List.drop_zero]; exact rfl) (fun _ => True) noG hB hG trivial ?_
    intro K L hN hL
    simp only [List.zip_cons_cons, List.zip_nil_left]
    refine gs ?_
    refine gend ?_
    rintro v ⟨hgu, hB1, hG1, -⟩
    replace OX := OX.grow hgu
    have ROWn := Lib.hid (own_grow' Ho.out hgu)
    clear Ho
    have Ho := ROWn
    clear ROWn
    clear hB hG
    have hB := hB1
    have hG := hG1
    clear hB1 hG1
    refine hL _ _ ?_
    clear hL L hgu
    obtain ⟨u, rfl⟩ : ∃ x, x = v := ⟨_, rfl⟩
    refine app_tailG ei_RHit w.heap.size _ _ _ _ (hwL R) rfl rfl (bs_RHitI R u) rfl (fun _ => rfl) (fun _ => rfl) (fun _ _ => rfl) Ho.out (by omega) (by omega) hG.sz fun p v' w' g1 g2 g3 => ?_
    have hBn := Bx.nil w'
    have hGn := own_growth Ho.out hG g2
    replace OX := OX.own Ho.out (by decide) g2
    clear Ho hB hG
    have Ho := Lib.hid g1
    have hB := hBn
    have hG := hGn
    clear g1 g2 g3 hBn hGn
    obtain ⟨u, rfl⟩ : ∃ x, x = w' := ⟨_, rfl⟩
    simp only [Act.put, List.setIfInBounds_toArray, List.set_cons_succ, List.set_cons_zero]
    refine NoK.norm (hN _ _ ?_)
    clear hN K
    refine blk_norm ?_
    refine then_norm ?_
    refine r0E ?_
    refine then_norm ?_
    go_roundw
    case rel => exact ⟨j + 1, by omega, by go_num, by rw [Hst.out, List.flatMap_append]; simpa using (show World.ownsRow _ _ _ _ _ _ _ from OX), by rw [Hst.out, List.flatMap_append]; simpa using (show OwnV _ _ _ _ _ _ _ from Ho.out), hG⟩
    case measure => simp [intOf]; omega
   ·obtain rfl : na = j := by omega
    obtain ⟨HA, HC, rfl, -, hLh, -⟩ := own_le (enc := hvL) (k := 6) (fun _ => rfl) (by omega) Ho.out
    obtain ⟨OA, OC, rfl, -, hLo, -⟩ := own_le (enc := hwL) (k := 4) (fun _ => rfl) (by omega) OX
    rcases Nat.lt_or_ge na pa with hlt | hge2
    ·have hdec : decide ((na : Int) < (pa : Int)) = true := by simp; omega
     have hdec9 : decide ((na : Int) < 9) = false := by simp; omega
     have hdec9n : decide (na < 9) = false := by simp; omega
     clear e0 Ho OX
     refine wp_seq ?_
     refine r0T ?_
     refine wp_cond_false (rfl) ?_
     refine wp_exit ?_
     refine then_exit ?_
     refine then_exit ?_
     refine blk_exit ?_
     refine then_norm ?_
     refine hMj _ _ (Met.intro (hJj _ _ ?_))
     repeat apply Exists.intro
     refine ⟨?rel, rfl⟩
     case rel =>
      exact ⟨HA, OA, HC, OC, rfl, rfl, hLh, hLo, hG⟩
    ·have hdec : decide ((na : Int) < (pa : Int)) = false := by simp; omega
     clear e0 Ho OX
     refine wp_seq ?_
     refine r0T ?_
     refine wp_cond_false (rfl) ?_
     refine wp_exit ?_
     refine then_exit ?_
     refine then_exit ?_
     refine blk_exit ?_
     refine then_norm ?_
     refine hMj _ _ (Met.intro (hJj _ _ ?_))
     repeat apply Exists.intro
     refine ⟨?rel, rfl⟩
     case rel =>
      exact ⟨HA, OA, HC, OC, rfl, rfl, hLh, hLo, hG⟩
 case rest =>
  clear hB hG
  obtain ⟨HA, OA, HC, OC, rfl, rfl, hLh, hLo, hG⟩ := hcut
  obtain ⟨u, rfl⟩ : ∃ x, x = wc := ⟨_, rfl⟩
  have HLh := Lib.hid hLh
  have HLo := Lib.hid hLo
  have H2' := Lib.hid (H2.out.grow hG)
  have HT' := HT.grow hG
  have Hq' := Lib.hid (fun W hg => Hq.out W (hG.trans hg))
  have HGa := Lib.hid hG
  clear hF hG H1 H2 Hq HT hLh hLo Hpa Hna
  obtain ⟨w0, rfl⟩ : ∃ x, x = w := ⟨_, rfl⟩
  obtain ⟨w, hwu⟩ : ∃ x, x = u := ⟨_, rfl⟩
  rw [← hwu] at HGa HLh HLo H2' HT' Hq'
  have hB := Bx.nil u
  have hF := Fr.nil w
  have hG : Grow w u := hwu ▸ Grow.refl u
  have HT := HT'
  have Hq := Hq'
  have H2 := H2'
  have LH := hitP_len la na
  obtain ⟨hs, hhs⟩ : ∃ x, x = hitP la na := ⟨_, rfl⟩
  rw [← hhs] at HLh HLo LH
  clear hhs
  clear hwu HT' Hq' H2'
  refine hKj _ _ ?_
  clear hKj Kj
  refine r0T ?_
  refine wp_seqK fun Kj hKj => ?_
  go_cut [11] from 12 to 66 (fun s11 wx => ∃ (CA : Option Addr) (CC : Nat), s11 = .slice CA nb CC ∧ Li wx CA (labP lb nb) ∧ Grow w wx)
  case first =>
   rename_i Jj Kk hJj hMj
   refine r0T ?_
   refine wp_block ?_
   go_loopw [12, 11] (fun s0 s1 wr => ∃ j : Nat, j ≤ nb ∧ s0 = .int .i64 j ∧ wr.ownsRow w.heap.size 3 1 s1 j ((labP lb j).flatMap fun x => [Value.int .i64 x]) ∧ Grow w wr) (fun s0 _ _ => nb - (intOf s0).toNat)
   case atStart => exact ⟨0, Nat.zero_le _, rfl, World.ownsRow_nil _ _ _ _, hG⟩
   case round =>
    clear hB hG
    obtain ⟨j, hj, rfl, ho, hG⟩ := hrel
    obtain ⟨u, rfl⟩ : ∃ x, x = wr := ⟨_, rfl⟩
    have hB := Bx.nil u
    have Ho := Lib.hid ho
    clear ho
    have e0 := Hnb.out
    rcases Nat.lt_or_ge j nb with hlt | hge
    ·have hdec : decide ((j : Int) < (pb : Int)) = true := by simp; omega
     have hdec9 : decide ((j : Int) < 7) = true := by simp; omega
     have hdec9n : decide (j < 7) = true := by simp; omega
     have hji : (j : Int) < (pb : Int) := by omega
     have hjl : j < lb.length := by rw [← Hpb.out]; omega
     obtain ⟨ba, oa, rfl, hrd⟩ := H2.out.at hjl
     have hst := labP_succ lb j
     have hpk := fun W => hand_PickG (gi lb j) 14 (by omega) (by omega) W
     have hpr := pick_range (gi lb j) (m := 14) (by omega)
     obtain ⟨Y, hY⟩ : ∃ Y, Y = gi lb j := ⟨_, rfl⟩
     rw [← hY] at hrd hst hpr
     simp only [← hY] at hpk
     obtain ⟨Z, hZ⟩ : ∃ Z, Z = pick Y 14 := ⟨_, rfl⟩
     rw [← hZ] at hst hpr
     simp only [← hZ] at hpk
     obtain ⟨R, hR⟩ : ∃ R, R = Z - 1 := ⟨_, rfl⟩
     rw [← hR] at hst
     have fR : IntKind.i64.wrap (Z - 1) = R := by rw [IntWalk.i64_in _ (by omega)]; exact hR.symm
     have Hrd := Lib.hid hrd
     have Hpk := Lib.hid hpk
     have Hst := Lib.hid hst
     clear e0 hrd hpk hst hpr hY hZ hR
     refine wp_seq ?_
     refine r0T ?_
     refine wp_cond_true (rfl) ?_
     refine wp_skip ?_
     refine then_norm ?_
     refine wp_seq ?_
     refine wp_block ?_
     refine wp_rs (w := w) allocsV 7 [0, 0, 0, 0, 0, 1, 0] (by kernel_rfl) (by simp only [List.drop_succ_cons, List.drop_zero]; exact rfl) (fun _ => True) noG hB hG trivial ?_
     intro K L hN hL
     simp only [List.zip_cons_cons, List.zip_nil_left]
     repeat first | refine gya ?_ | refine gyr ?_ | refine gna ?_ | refine gyb (by (rintro v ⟨hgu, hB, hG, -⟩ N hN; have r := hB.r; simp only [BxR] at r; have q0 := Hrd.out v hG; go_simp; exact hN)) ?_
     refine gmw (C := fun v => Hpk.out _) ?_
     refine gs ?_
     refine gend ?_
     rintro v ⟨hgu, hB1, hG1, -⟩
     have ROWn := Lib.hid (own_grow' Ho.out hgu)
     clear Ho
     have Ho := ROWn
     clear ROWn
     clear hB hG
     have hB := hB1
     have hG := hG1
     clear hB1 hG1
     refine hL _ _ ?_
     clear hL L hgu
     obtain ⟨u, rfl⟩ : ∃ x, x = v := ⟨_, rfl⟩
     refine app_tailG ei_int w.heap.size _ _ _ _ [Value.int .i64 R] rfl rfl (bs_int R u) rfl (fun _ => rfl) (fun _ => rfl) (fun _ _ => rfl) Ho.out (by omega) (by omega) hG.sz fun p v' w' g1 g2 g3 => ?_
     have hBn := Bx.nil w'
     have hGn := own_growth Ho.out hG g2
     clear Ho hB hG
     have Ho := Lib.hid g1
     have hB := hBn
     have hG := hGn
     clear g1 g2 g3 hBn hGn
     obtain ⟨u, rfl⟩ : ∃ x, x = w' := ⟨_, rfl⟩
     simp only [Act.put, List.setIfInBounds_toArray, List.set_cons_succ, List.set_cons_zero]
     refine NoK.norm (hN _ _ ?_)
     clear hN K
     refine blk_norm ?_
     refine then_norm ?_
     refine r0E ?_
     refine then_norm ?_
     go_roundw
     case rel => exact ⟨j + 1, by omega, by go_num, by rw [Hst.out, List.flatMap_append]; simpa using Ho.out, hG⟩
     case measure => simp [intOf]; omega
    ·obtain rfl : nb = j := by omega
     obtain ⟨CA, CC, rfl, hLi, -⟩ := own_liI Ho.out
     rcases Nat.lt_or_ge nb pb with hlt | hge2
     ·have hdec : decide ((nb : Int) < (pb : Int)) = true := by simp; omega
      have hdec9 : decide ((nb : Int) < 7) = false := by simp; omega
      have hdec9n : decide (nb < 7) = false := by simp; omega
      clear e0 Ho
      refine wp_seq ?_
      refine r0T ?_
      refine wp_cond_false (rfl) ?_
      refine wp_exit ?_
      refine then_exit ?_
      refine then_exit ?_
      refine blk_exit ?_
      refine then_norm ?_
      refine hMj _ _ (Met.intro (hJj _ _ ?_))
      repeat apply Exists.intro
      refine ⟨?rel, rfl⟩
      case rel =>
       exact ⟨CA, CC, rfl, hLi, hG⟩
     ·have hdec : decide ((nb : Int) < (pb : Int)) = false := by simp; omega
      clear e0 Ho
      refine wp_seq ?_
      refine r0T ?_
      refine wp_cond_false (rfl) ?_
      refine wp_exit ?_
      refine then_exit ?_
      refine then_exit ?_
      refine blk_exit ?_
      refine then_norm ?_
      refine hMj _ _ (Met.intro (hJj _ _ ?_))
      repeat apply Exists.intro
      refine ⟨?rel, rfl⟩
      case rel =>
       exact ⟨CA, CC, rfl, hLi, hG⟩
  case rest =>
   clear hB hG
   obtain ⟨CA, CC, rfl, hLi, hG⟩ := hcut
   obtain ⟨u, rfl⟩ : ∃ x, x = wc := ⟨_, rfl⟩
   have HLi := Lib.hid hLi
   have HLh' := Lib.hid (HLh.out.grow hG)
   have HLo' := Lib.hid (HLo.out.grow hG)
   have HT' := HT.grow hG
   have Hq' := Lib.hid (fun W hg => Hq.out W (hG.trans hg))
   have HGb := Lib.hid hG
   clear hF hG H2 Hq HT hLi Hpb Hnb HLh HLo
   obtain ⟨w1, rfl⟩ : ∃ x, x = w := ⟨_, rfl⟩
   obtain ⟨w, hwu⟩ : ∃ x, x = u := ⟨_, rfl⟩
   rw [← hwu] at HGb HLh' HLo' HLi HT' Hq'
   have hB := Bx.nil u
   have hF := Fr.nil w
   have hG : Grow w u := hwu ▸ Grow.refl u
   have HT := HT'
   have Hq := Hq'
   have HLh := HLh'
   have HLo := HLo'
   have LL := labP_len lb nb
   obtain ⟨ls, hls⟩ : ∃ x, x = labP lb nb := ⟨_, rfl⟩
   rw [← hls] at HLi LL
   clear hls
   clear hwu HT' Hq' HLh' HLo'
   refine hKj _ _ ?_
   clear hKj Kj
   refine wp_seq (rsE allocsV [0, 0, 0, 0, 1, 0] hB hG fun L hL => ?_)
   refine gs ?_
   refine gxd (X := Ax) (fun x : Ax => .slice x.1 nc x.2) (fun x W => Lz W x.1 P) (fun x u u' hg h => Lz.grow h hg) (fun x71 => ?_) (C := by (rintro v ⟨hgu, hB, hG, -⟩; exact Hq.out _ hG))
   refine gs ?_
   refine geT hL ?_
   clear hB hG hL L
   rintro u ⟨⟨hgu, hB, hG, -⟩, hx71⟩
   have HX := Lib.hid hx71
   clear hx71
   clear hgu
   have HG0 := Lib.hid hG
   clear hB hF hG
   obtain ⟨w0, rfl⟩ : ∃ x, x = w := ⟨_, rfl⟩
   obtain ⟨w, hwu⟩ : ∃ x, x = u := ⟨_, rfl⟩
   rw [← hwu] at HG0 HX
   have hB := Bx.nil u
   have hF := Fr.nil w
   have hG : Grow w u := hwu ▸ Grow.refl u
   clear hwu
   obtain ⟨XA, XC⟩ := x71
   have HT' := HT.grow HG0.out
   have hv1 := fun W (hg : Grow w W) => near_Vote HA CA hs ls na nb HC CC LH.symm LL.symm (by omega) W (HLh.out.grow (HG0.out.trans hg)) (HLi.out.grow (HG0.out.trans hg))
   have hv2 := fun W (hg : Grow w W) => ref22_Vote OA CA hs ls na nb OC CC LH.symm LL.symm (by omega) W (HLo.out.grow (HG0.out.trans hg)) (HLi.out.grow (HG0.out.trans hg))
   have hzz := meanV_sz (hs := hs) (vs := P) (by omega) SP.out
   have hi := fun W (hg : Grow w W) hT => Hip.out W (XA, XC) (HX.out.grow hg) hT
   have hm1 := fun W (hg : Grow w W) (X : Ax) hX hT => near_Mean HA X.1 hs P na nc HC X.2 LH.symm LP.out.symm (by omega) SP.out W (HLh.out.grow (HG0.out.trans hg)) hX hT
   have hm2 := fun W (hg : Grow w W) => ref22_MeanOf OA XA hs P na nc OC XC LH.symm LP.out.symm (by omega) SP.out W (HLo.out.grow (HG0.out.trans hg)) (HX.out.grow hg)
   obtain ⟨V, hV⟩ : ∃ V, V = voteV hs ls := ⟨_, rfl⟩
   obtain ⟨M, hM⟩ : ∃ V, V = meanV hs P := ⟨_, rfl⟩
   rw [← hM] at hzz
   simp only [← hV] at hv1 hv2
   simp only [← hM] at hm1 hm2
   obtain ⟨V1, V2⟩ := V
   obtain ⟨M1, M2⟩ := M
   simp only at hv1 hv2 hm1 hm2 hzz hi
   have Hv1 := Lib.hid hv1
   have Hv2 := Lib.hid hv2
   have Hm1 := Lib.hid hm1
   have Hm2 := Lib.hid hm2
   have Hi := Lib.hid hi
   clear hv1 hv2 hm1 hm2 hV hM LH LL hi HLh HLo HLi HX HT Hq Hip
   have HT := HT'
   clear HT'
   refine wp_seq (rsE allocsV [0, 0, 1, 0, 0, 0, 0, 0] hB hG fun L hL => ?_)
   refine gs ?_
   refine gmd (C := fun v ⟨hgu, hB, hG, _⟩ => Hv1.out _ hG) ?_
   refine gs ?_
   refine geT hL ?_
   clear hB hG hL L
   rintro u ⟨-, hB, hG, -⟩
   refine wp_seq (rsE allocsV [0, 0, 1, 0, 0, 0, 0, 0] hB hG fun L hL => ?_)
   refine gs ?_
   refine gmd (C := fun v ⟨hgu, hB, hG, _⟩ => Hv2.out _ hG) ?_
   refine gs ?_
   refine geT hL ?_
   clear hB hG hL L
   rintro u ⟨-, hB, hG, -⟩
   refine wp_seq (rsC allocsV [0, 0, 1, 1, 0, 0, 0, 2] hB hG fun K L hN hL => ?_)
   refine gs ?_
   refine gxd (X := Ax) (fun x : Ax => .slice x.1 nc x.2) (fun x W => Lq W x.1 P) (fun x u u' hg h => Lq.grow h hg) (fun x87 => ?_) (C := by (rintro v ⟨hgu, hB, hG, -⟩; exact Hi.out _ hG (HT.grow hG)))
   refine gmd (C := fun v ⟨⟨hgu, hB, hG, _⟩, hx87⟩ => Hm1.out _ hG x87 hx87 (HT.grow hG)) ?_
   refine gs ?_
   refine gaa (newObj_Q _ _ _ _ _) fun b18 hb18 hn18 => ?_
   replace hF := hF.n1 [] hB hG hb18 hn18
   refine geC hL ?_
   clear hB hG hL L
   rintro u ⟨⟨⟨-, hB, hG, -⟩, hx87⟩, h18⟩
   replace hB := hB.cons' h18
   clear h18
   clear hb18 hn18
   refine gtT ?_
   clear hN K
   refine st hB hF hG 0 0 [_, _, _, _, _] ?_
   clear hB hG
   intro u hB hG
   refine wp_seq (rsC allocsV [0, 0, 1, 0, 0, 0, 2] hB hG fun K L hN hL => ?_)
   refine gs ?_
   refine gxd (X := Az) (fun p : Az => .tuple #[rzV p M1, .int .i64 (M2 : Nat)]) (fun p W => Rz W p M1) (fun p u u' hg h => Rz.grow h hg) (fun x94 => ?_) (C := by (rintro v ⟨hgu, hB, hG, -⟩; exact Hm2.out _ hG))
   refine gs ?_
   refine gaa (newObj_RQ _ _ _ _ _) fun b20 hb20 hn20 => ?_
   replace hF := hF.n1 [] hB hG hb20 hn20
   refine geC hL ?_
   clear hB hG hL L
   rintro u ⟨⟨⟨-, hB, hG, -⟩, hx94⟩, h20⟩
   replace hB := hB.cons' h20
   clear h20
   clear hb20 hn20
   refine gtT ?_
   clear hN K
   refine sv hB hF hG 0 0 [_, _, _] ?_
   intro u hu hBG
   replace hx94 := hx94.put hB 0 rfl (by first | decide | simp) _ _ hu
   clear hB hG hu
   obtain ⟨hB, hG⟩ := hBG
   refine wp_seq (rsE allocsV [1, 0, 0, 0, 0, 0, 0, 0, 0, 0, 0, 0, 0, 0, 1, 0, 0, 0, 0, 0, 0, 0] hB hG fun L hL => ?_)
   refine gmd (C := fun v ⟨hgu, hB, hG, _⟩ => law23_known _ (HT.grow hG)) ?_
   refine gs ?_
   first | refine gmd (C := fun v ⟨hgu, hB, hG, _⟩ => hand_Same M1 x94.1 x94.2 hzz _ (hx94.grow hgu).1 (hx94.grow hgu).2) ?_ | refine gmna ?_
   refine gs ?_
   refine geT hL ?_
   clear hB hG hL L
   rintro u ⟨hgu, hB, hG, -⟩
   replace hx94 := hx94.grow hgu
   clear hgu
   refine rt Tryz.results4 ?_
   exact ⟨rfl, HGa.out.trans (HGb.out.trans (HG0.out.trans hG))⟩
end Go.Proofs.YtjmopgepnndckaaGreatDoor
namespace Go.Proofs.YtjmopgepnndckaaGreatDoor.nearVotes
open Go.ChangeShapes Go.WideShapes Go.ChangeAt Go.RowKit
theorem params_ok : ∀ t ∈ Tryz.f4.params.toList, Tryz.prog.readableRec t = true ∧ t < Tryz.prog.types.size := by
 have h : (Tryz.f4.params.toList.all fun t => Tryz.prog.readableRec t && decide (t < Tryz.prog.types.size)) = true := by kernel_rfl
 intro t ht
 have := List.all_eq_true.1 h t ht
 simpa using this
set_option maxRecDepth 100000 in
theorem contract (H : Type) (enc : TypeId × Value → H) (W : World) (base : Nat) (args : Array Value) (ds gs : List (DataW H)) (before : List MemPlace)
  (hval : ∀ (j : Nat) t v, Tryz.f4.params[j]? = some t → args[j]? = some v → Value.okWide Tryz.prog W .any base t v)
  (hW : DataW.Whole enc Tryz.prog Tryz.f4.params.toList Rows.nearVotesSpec.vars false W args.toList ds gs before) (hL : laidMetH Tryz.prog Rows.nearVotesRow.laid W) :
  Calls Tryz.prog 4 args W fun e W' => ∃ v, e = .returned v ∧ Rows.nearVotesSpec.post enc Tryz.prog Tryz.f4 false true false false W args v W' := by
 have hW' := hW
 obtain ⟨p, q, hA0, hV, rfl, hfz, hnd⟩ := hW
 have hA : DataW.TrodAll enc Tryz.prog W 0 (fun _ => true) true Tryz.f4.params.toList args.toList ds p := hA0
 rw [Tryz.params4] at hA hval
 obtain ⟨v0, vs0, d0, ds0, p0, q0, ha0, rfl, rfl, h0, hA1⟩ := trodAll_cons hA
 obtain ⟨v1, vs1, d1, ds1, p1, q1, rfl, rfl, rfl, h1, hA2⟩ := trodAll_cons hA1
 obtain ⟨v2, vs2, d2, ds2, p2, q2, rfl, rfl, rfl, h2, hA3⟩ := trodAll_cons hA2
 obtain ⟨rfl, rfl, rfl⟩ := trodAll_nil hA3
 obtain rfl : args = #[v0, v1, v2] := by
  cases args
  simp_all
 obtain ⟨rfl, rfl⟩ := trodVars_none hV
 obtain ⟨A0, l0, c0, rfl, hl0, hn0, hb0⟩ := arg_ints (hval 0 22 v0 rfl rfl) h0
 obtain ⟨A1, l1, c1, rfl, hl1, hn1, hb1⟩ := arg_ints (hval 1 22 v1 rfl rfl) h1
 obtain ⟨A2, l2, c2, rfl, hl2, hn2, hb2⟩ := arg_ints (hval 2 22 v2 rfl rfl) h2
 refine (law23_NearVotes A0 l0 c0 A1 l1 c1 A2 l2 c2 hn0 hb0 hn1 hb1 hn2 hb2 W hl0 hl1 hl2 (tab_laid (by kernel_rfl) hL)).mono fun e W' ⟨he, hg⟩ => ?_
 exact ⟨_, he, law_post hW' rfl rfl rfl rfl (by kernel_rfl) params_ok hg⟩
def wit : Array Value := #[.slice none 0 0, .slice none 0 0, .slice none 0 0]
theorem laid_met (os : Os) : laidMet Tryz.prog Rows.nearVotesRow.laid ((laidWorld os).forCall (fun _ _ => 0) ⟨#[], wit, []⟩).memory :=
 laidMet_of_run' 8 (by kernel_rfl) (by kernel_rfl)
theorem reads (os : Os) {H : Type} (enc : TypeId × Value → H) : ∃ places, DataW.whole enc Tryz.prog ((laidWorld os).forCall (fun _ _ => 0) ⟨#[], wit, []⟩).memory Tryz.f4.params.toList Rows.nearVotesSpec.vars false wit.toList 8 = some ([.nil, .nil, .nil], [], places) :=
 ⟨[], by kernel_rfl⟩
set_option maxRecDepth 100000 in
theorem lifted (os : Os) (started : os.Started) (H : Type) (enc : TypeId × Value → H) (F : Stop.Interp) :
  ReturnsInHanded {} Tryz.checked os 4 .any ((OpenSpec.ofChange Rows.nearVotesSpec).preRow enc Tryz.prog Tryz.f4 Rows.nearVotesRow.domain false Rows.nearVotesRow.laid) (((OpenSpec.ofChange Rows.nearVotesSpec).at F).post enc Tryz.prog Tryz.f4 false true false false) := by
 obtain ⟨places, hx⟩ := reads os enc
 refine returnsInHanded_of_row (C := Tryz.checked) (s := OpenSpec.ofChange Rows.nearVotesSpec) ownK started (by kernel_rfl) Tryz.func4
  (witness_row_at (enc := enc) (C := Tryz.checked) false (laidWorld os) wit rfl (by kernel_rfl) (by kernel_rfl) (by kernel_rfl)
   (OpenSpec.preRow_of_cond 8 hx (by kernel_rfl) (fun k hk => by cases hk) (by kernel_rfl) (laid_met os))) ?_
 intro W base args ds gs before hval hW _ _ _ hL _ _
 exact contract H enc W base args ds gs before hval hW hL
theorem said : Rows.NearVotesSaid :=
 OpenClaim.holds_of_cond 4 Tryz.f4 rfl rfl rfl rfl rfl rfl rfl ⟨rfl, rfl, rfl, rfl, rfl⟩ rfl rfl rfl rfl rfl (by kernel_rfl) Tryz.func4 (by kernel_rfl)
  (of_decide_eq_true (by kernel_rfl)) (by unfold Func.isWrapper; first | (rw [if_pos (by decide +kernel)]; kernel_rfl) | (rw [if_neg (by decide +kernel)]; exact ⟨rfl, rfl⟩))
  (fun os started H enc _ F => by rw [OpenClaim.pre_eq_preRow]; exact lifted os started H enc F)
theorem plain (f : FuncId) (fn : Func) (hf : Tryz.pinned.checked.prog.funcNamed Rows.nearVotesRow.func = some f) (hfn : Tryz.pinned.checked.prog.funcs[f]? = some fn) :
  false = Tryz.pinned.checked.prog.looks [] ∧ ∀ (j : Nat) t, fn.params[j]? = some t → Tryz.pinned.checked.prog.wantsStandIn t = false := by
 obtain rfl : f = 4 := Option.some.inj ((show Tryz.prog.funcNamed Rows.nearVotesRow.func = some 4 by kernel_rfl).symm.trans hf) |>.symm
 obtain rfl : fn = Tryz.f4 := (Option.some.inj (Tryz.func4.symm.trans hfn)).symm
 refine ⟨by kernel_rfl, fun j t ht => ?_⟩
 have h : (Tryz.f4.params.toList.all fun t => !Tryz.prog.wantsStandIn t) = true := by kernel_rfl
 have := List.all_eq_true.1 h t (Array.mem_toList_iff.2 (Array.mem_of_getElem? ht))
 have h2 : Tryz.prog.wantsStandIn t = false := by simpa using this
 exact h2
theorem card : Rows.NearVotesCardSaid :=
 Claim7.holds_tied_plain_at .later [] _ _ _ _ said (fun _ h => by cases h) (by kernel_rfl) (fun _ h => by cases h) nearVotes_row_tie rfl ⟨rfl, rfl⟩ (by kernel_rfl) rfl plain (by kernel_rfl)
end Go.Proofs.YtjmopgepnndckaaGreatDoor.nearVotes
namespace Go.Proofs.YtjmopgepnndckaaGreatDoor
theorem nearVotes_holds : Rows.NearVotesCardSaid := nearVotes.card
#print axioms nearVotes_holds
end Go.Proofs.YtjmopgepnndckaaGreatDoor
