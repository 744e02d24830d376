/-
  Contracts and laws: NearQ NearMo NearCp NearSt NearTk.
-/
import Derived.Test.YtjmopgepnndckaaGreatDoorO40
import Derived.Laws.CopyRow
import Derived.Deep.AppendLies
set_option linter.unusedSimpArgs false
set_option linter.unusedVariables false
namespace Go.Proofs.YtjmopgepnndckaaGreatDoor
open Go Go.RowKit
theorem Lh.at {u : World} {A : Option Addr} {l : List Ht} (h : Lh u A l) {i : Nat} (hi : i < l.length) : ∃ b off, A = some ⟨b, off, none⟩ ∧ ∀ W, Grow u W → W.cell? ⟨b, off + i * 6, none⟩ = some (.int .i64 (l[i].1 : Nat)) ∧ W.cell? ⟨b, off + i * 6 + 1, none⟩ = some (.bool (intNeg l[i].2.num)) ∧ W.cell? ⟨b, off + i * 6 + 2, none⟩ = some (.int .u64 (natLo l[i].2.num.natAbs)) ∧ W.cell? ⟨b, off + i * 6 + 3, none⟩ = some (.string (natMo l[i].2.num.natAbs)) ∧ W.cell? ⟨b, off + i * 6 + 4, none⟩ = some (.int .u64 (natLo (keptDen l[i].2.den))) ∧ W.cell? ⟨b, off + i * 6 + 5, none⟩ = some (.string (natMo (keptDen l[i].2.den))) := by
 obtain ⟨b, off, e, hb, hc⟩ := h (fun e => by rw [e] at hi; simp at hi)
 have hk : ∀ W, Grow u W → ∀ j v, (htL l[i])[j]? = some v → W.cell? ⟨b, off + i * 6 + j, none⟩ = some v := fun W hg j v hj => (hg.cell (p := ⟨b, off + i * 6 + j, none⟩) hb).trans (hc i _ (List.getElem?_eq_getElem hi) j v hj)
 exact ⟨b, off, e, fun W hg => ⟨hk W hg 0 _ rfl, hk W hg 1 _ rfl, hk W hg 2 _ rfl, hk W hg 3 _ rfl, hk W hg 4 _ rfl, hk W hg 5 _ rfl⟩⟩
/-- where a hit belongs -/
def PosH (l : List Ht) (h : Ht) (p : Nat) : Prop := p ≤ l.length ∧ (∀ j (hj : j < l.length), j < p → cmpH l[j] h < 0) ∧ ∀ j (hj : j < l.length), p ≤ j → ¬ cmpH l[j] h < 0
theorem cmpH_mono {l : List Ht} (hs : l.Pairwise leH) {h : Ht} {i j : Nat} (hi : i < l.length) (hj : j < l.length) (hij : i ≤ j) (hc : cmpH l[j] h < 0) : cmpH l[i] h < 0 := by
 rw [cmpH_lt] at *
 rcases Nat.eq_or_lt_of_le hij with rfl | hij
 ·exact hc
 ·exact fun h1 => hc (leH_trans h1 (List.pairwise_iff_getElem.1 hs i j hi hj hij))
theorem posH_ins {l : List Ht} {h : Ht} {p : Nat} (hs : l.Pairwise leH) (hp : PosH l h p) : insAt l p h = insS h l := by
 obtain ⟨h1, h2, h3⟩ := hp
 refine hits_uniq ((insAt_perm l p h).trans (insS_perm h l).symm) ?_ (insS_sorted h l hs)
 refine insAt_sorted (R := leH) (fun a b => leH_trans a b) l p h h1 hs (fun j hj hpj => ?_) (fun j hj hpj => ?_)
 ·have := h3 j hj hpj
  rw [cmpH_lt] at this
  exact Decidable.byContradiction this
 ·have := h2 j hj (by omega)
  rw [cmpH_lt] at this
  exact (leH_total l[j] h).resolve_right this
set_option maxHeartbeats 4000000 in
set_option maxRecDepth 100000 in
theorem slices_BinarySearchH (A : Option Addr) (l : List Ht) (n c : Nat) (h : Ht) (hn : l.length = n) (hm : n ≤ 100000) (hs : l.Pairwise leH) (s : Nat) (hz : ∀ x ∈ l, qs x.2 ≤ s) (hz2 : qs h.2 ≤ s) (hBz : 2 * s + 1 ≤ BIG) (w : World) (hL : Lh w A l) :
  Calls Tryz.prog 147 #[.slice A n c, htV h.1 h.2, .func (.func 52) #[] #[]] w (RetY (fun x : Nat × Bool => .tuple #[.int .i64 (x.1 : Nat), .bool x.2]) (fun x W => PosH l h x.1) w) := by
 have hco := fun (i : Nat) (hi : i < l.length) W => near_order l[i] h W (by have := hz _ (List.getElem_mem hi); omega)
 have hat := fun (i : Nat) (hi : i < l.length) => hL.at hi
 have hmono := fun i j hi hj hij => @cmpH_mono l hs h i j hi hj hij
 obtain ⟨J, Y⟩ := h
 have Hco := Lib.hid hco
 have Hat := Lib.hid hat
 have Hn := Lib.hid hn
 have Hmono := Lib.hid hmono
 clear hco hat hn hs hz hz2 hBz hL hmono
 go_enter Tryz.func147, Tryz.ntmps147
 refine en1 ?_
 intro u hG b4 hB hF
 refine r0T ?_
 refine r0T ?_
 refine wp_seq ?_
 refine wp_block ?_
 go_loopw [9, 10] (fun s0 s1 wr => ∃ i j : Nat, i ≤ j ∧ j ≤ n ∧ s0 = .int .i64 i ∧ s1 = .int .i64 j ∧ (∀ x (hx : x < l.length), x < i → cmpH l[x] (J, Y) < 0) ∧ (∀ x (hx : x < l.length), j ≤ x → 0 ≤ cmpH l[x] (J, Y)) ∧ Bx wr [(b4, 51, #[.int .i64 (J : Nat), .bool (intNeg Y.num), .int .u64 (natLo Y.num.natAbs), .string (natMo Y.num.natAbs), .int .u64 (natLo (keptDen Y.den)), .string (natMo (keptDen Y.den))])] ∧ Grow w wr) (fun s0 s1 _ => (intOf s1).toNat - (intOf s0).toNat)
 case atStart => exact ⟨0, n, Nat.zero_le _, Nat.le_refl _, rfl, rfl, fun x hx h => absurd h (Nat.not_lt_zero _), fun x hx h => by have := Hn.out; omega, hB, hG⟩
 case round =>
  clear hB hG
  obtain ⟨i, j, hij, hjn, rfl, rfl, hlo, hhi, hB, hG⟩ := hrel
  obtain ⟨u, rfl⟩ : ∃ x, x = wr := ⟨_, rfl⟩
  have Hlo := Lib.hid hlo
  have Hhi := Lib.hid hhi
  clear hlo hhi
  rcases Nat.lt_or_ge i j with hlt | hge
  ·have hdec : decide ((i : Int) < (j : Int)) = true := by simp; omega
   obtain ⟨k, hk⟩ : ∃ k, k = (i + j) / 2 := ⟨_, rfl⟩
   obtain ⟨t, ht⟩ : ∃ t, t = i + j := ⟨_, rfl⟩
   have fij : IntKind.i64.wrap ((i : Int) + (j : Int)) = (t : Int) := by rw [IntWalk.i64_in _ (by omega)]; omega
   have hdecn : decide (i < j) = true := by simp; omega
   have htk : t / 2 = k := by omega
   have Ht := Lib.hid (And.intro ht htk)
   have fu : IntKind.u64.wrap (t : Int) = (t : Int) := IntWalk.u64_in _ ⟨by omega, by omega⟩
   have fw : wrap64 ((t : Int) / 2) = (k : Int) := (IntWalk.wrap64_in _ (by omega)).trans (by omega)
   have hkj : k < j := by omega
   have hik : i ≤ k := by omega
   have hkl : k < l.length := by have := Hn.out; omega
   have hki : (k : Int) < (n : Int) := by omega
   obtain ⟨bb, ob, rfl, hrd⟩ := Hat.out k hkl
   have hc := fun W => Hco.out k hkl W
   obtain ⟨P, hP⟩ : ∃ P, P = cmpH l[k] (J, Y) := ⟨_, rfl⟩
   simp only [← hP] at hc
   by_cases hP0 : P < 0
   ·have fP : decide (P < 0) = true := decide_eq_true hP0
    have Hlo2 := Lib.hid (fun x (hx : x < l.length) (h : x < k + 1) => Hmono.out x k hx hkl (by omega) (by rw [← hP]; exact hP0))
    obtain ⟨x, hx⟩ : ∃ x, x = l[k] := ⟨_, rfl⟩
    simp only [← hx] at hrd hc
    obtain ⟨I, X⟩ := x
    have Hrd := Lib.hid hrd
    have Hc := Lib.hid hc
    have Hk := Lib.hid hk
    clear hP0 hP hx hrd hc hk ht htk
    refine wp_seq ?_
    refine wp_seq ?_
    refine wp_r0 ?_
    intro K hN
    go_wp2_with fail
    refine NoK.norm (hN _ _ ?_)
    clear hN K
    refine then_norm ?_
    refine wp_cond_true (rfl) ?_
    refine wp_skip ?_
    refine then_norm ?_
    refine wp_block ?_
    refine wp_seq ?_
    refine wp_r0 ?_
    intro K hN
    go_wp2_with fail
    refine NoK.norm (hN _ _ ?_)
    clear hN K
    refine then_norm ?_
    refine wp_seq (rdC allocsN [] [(0, 0), (0, 1), (0, 2), (0, 3), (0, 4), (0, 5), (1, 6)] hB hG fun K L hN hL => ?_)
    repeat first | refine gya ?_ | refine gyr ?_ | refine gna ?_ | refine gyb (by (rintro v ⟨hgu, hB, hG, -⟩ N hN; have r := hB.r; simp only [BxR] at r; obtain ⟨c0, c1, c2, c3, c4, c5⟩ := Hrd.out v hG; go_simp; exact hN)) ?_
    refine gmw (C := fun v => Hc.out _) ?_
    refine geC hL ?_
    clear hB hG hL L
    rintro u ⟨-, hB, hG, -⟩
    refine gtT ?_
    clear hN K
    refine wp_cond_true (rfl) ?_
    refine r0E ?_
    refine blk_norm ?_
    refine then_norm ?_
    go_roundw
    case rel => exact ⟨k + 1, j, by omega, by omega, by go_num, rfl, Hlo2.out, Hhi.out, hB, hG⟩
    case measure => simp [intOf]; omega
   ·have fP : decide (P < 0) = false := decide_eq_false hP0
    have Hhi2 := Lib.hid (fun x (hx : x < l.length) (h : k ≤ x) => (Int.not_lt.1 (fun h1 => hP0 (by rw [hP]; exact Hmono.out k x hkl hx h h1)) : 0 ≤ cmpH l[x] (J, Y)))
    obtain ⟨x, hx⟩ : ∃ x, x = l[k] := ⟨_, rfl⟩
    simp only [← hx] at hrd hc
    obtain ⟨I, X⟩ := x
    have Hrd := Lib.hid hrd
    have Hc := Lib.hid hc
    have Hk := Lib.hid hk
    clear hP0 hP hx hrd hc hk ht htk
    refine wp_seq ?_
    refine wp_seq ?_
    refine wp_r0 ?_
    intro K hN
    go_wp2_with fail
    refine NoK.norm (hN _ _ ?_)
    clear hN K
    refine then_norm ?_
    refine wp_cond_true (rfl) ?_
    refine wp_skip ?_
    refine then_norm ?_
    refine wp_block ?_
    refine wp_seq ?_
    refine wp_r0 ?_
    intro K hN
    go_wp2_with fail
    refine NoK.norm (hN _ _ ?_)
    clear hN K
    refine then_norm ?_
    refine wp_seq (rdC allocsN [] [(0, 0), (0, 1), (0, 2), (0, 3), (0, 4), (0, 5), (1, 6)] hB hG fun K L hN hL => ?_)
    repeat first | refine gya ?_ | refine gyr ?_ | refine gna ?_ | refine gyb (by (rintro v ⟨hgu, hB, hG, -⟩ N hN; have r := hB.r; simp only [BxR] at r; obtain ⟨c0, c1, c2, c3, c4, c5⟩ := Hrd.out v hG; go_simp; exact hN)) ?_
    refine gmw (C := fun v => Hc.out _) ?_
    refine geC hL ?_
    clear hB hG hL L
    rintro u ⟨-, hB, hG, -⟩
    refine gtT ?_
    clear hN K
    refine wp_cond_false (rfl) ?_
    refine r0E ?_
    refine blk_norm ?_
    refine then_norm ?_
    go_roundw
    case rel => exact ⟨i, k, by omega, by omega, rfl, congrArg (Value.int .i64) fw, Hlo.out, Hhi2.out, hB, hG⟩
    case measure =>
     simp only [fw]
     simp [intOf]
     omega
  ·obtain rfl : i = j := by omega
   have hdec : decide ((i : Int) < (i : Int)) = false := by simp
   clear hge hij
   refine wp_seq ?_
   refine wp_seq ?_
   refine wp_r0 ?_
   intro K hN
   go_wp2_with fail
   refine NoK.norm (hN _ _ ?_)
   clear hN K
   refine then_norm ?_
   refine wp_cond_false (rfl) ?_
   refine wp_exit ?_
   refine then_exit ?_
   refine then_exit ?_
   refine blk_exit ?_
   refine then_norm ?_
   rcases Nat.lt_or_ge i n with hin | hin
   ·have fin : decide ((i : Int) < (n : Int)) = true := by simp; omega
    have hil : i < l.length := by have := Hn.out; omega
    have hini : (i : Int) < (n : Int) := by omega
    obtain ⟨bb, ob, rfl, hrd⟩ := Hat.out i hil
    have hc := fun W => Hco.out i hil W
    obtain ⟨P, hP⟩ : ∃ P, P = cmpH l[i] (J, Y) := ⟨_, rfl⟩
    simp only [← hP] at hc
    obtain ⟨x, hx⟩ : ∃ x, x = l[i] := ⟨_, rfl⟩
    simp only [← hx] at hrd hc
    obtain ⟨I, X⟩ := x
    have Hrd := Lib.hid hrd
    have Hc := Lib.hid hc
    clear hP hx hrd hc hil
    refine wp_seq (rdC allocsN [] [(0, 0), (0, 1), (0, 2), (0, 3), (0, 4), (0, 5), (0, 6), (0, 7), (0, 8), (0, 9), (0, 10), (1, 11), (0, 12), (0, 13), (0, 14)] hB hG fun K L hN hL => ?_)
    repeat first | refine gya ?_ | refine gyr ?_ | refine gna ?_ | refine gyb (by (rintro v ⟨hgu, hB, hG, -⟩ N hN; have r := hB.r; simp only [BxR] at r; obtain ⟨c0, c1, c2, c3, c4, c5⟩ := Hrd.out v hG; go_simp; exact hN)) ?_
    first | refine gmw (C := fun v => Hc.out _) ?_ | refine gmna ?_
    refine gs ?_
    refine geC hL ?_
    clear hB hG hL L
    rintro u ⟨-, hB, hG, -⟩
    refine gtT ?_
    clear hN K
    refine rt Tryz.results147 ?_
    exact ⟨(i, P == 0), rfl, ⟨by have := Hn.out; omega, Hlo.out, fun x hx h => Int.not_lt.2 (Hhi.out x hx h)⟩, hG⟩
   ·have fin : decide ((i : Int) < (n : Int)) = false := by simp; omega
    have finn : decide (i < n) = false := by simp; omega
    refine wp_seq (rdC allocsN [] [(0, 0), (0, 1), (0, 2), (0, 3), (0, 4), (0, 5), (0, 6), (0, 7), (0, 8), (0, 9), (0, 10), (1, 11), (0, 12), (0, 13), (0, 14)] hB hG fun K L hN hL => ?_)
    refine gs ?_
    refine gmn (by exact rfl) ?_
    refine okf (by simp only [Act.put, List.setIfInBounds_toArray, List.set_cons_succ, List.set_cons_zero]; exact rfl) ?_
    refine gs ?_
    refine geC hL ?_
    clear hB hG hL L
    rintro u ⟨-, hB, hG, -⟩
    refine gtT ?_
    clear hN K
    refine rt Tryz.results147 ?_
    exact ⟨(i, false), rfl, ⟨by have := Hn.out; omega, Hlo.out, fun x hx h => Int.not_lt.2 (Hhi.out x hx h)⟩, hG⟩
end Go.Proofs.YtjmopgepnndckaaGreatDoor
namespace Go.Proofs.YtjmopgepnndckaaGreatDoor
open Go Go.RowKit
theorem blkq5 {W : World} {b : Nat} {q : Rat} (h : Blk W b 49 (qCells q)) : W.cell? ⟨b, 0, none⟩ = some (.bool (intNeg q.num)) ∧ W.cell? ⟨b, 1, none⟩ = some (.int .u64 (natLo q.num.natAbs)) ∧ W.cell? ⟨b, 2, none⟩ = some (.string (natMo q.num.natAbs)) ∧ W.cell? ⟨b, 3, none⟩ = some (.int .u64 (natLo (keptDen q.den))) ∧ W.cell? ⟨b, 4, none⟩ = some (.string (natMo (keptDen q.den))) := ⟨h.cell 0, h.cell 1, h.cell 2, h.cell 3, h.cell 4⟩
abbrev mostV (o : Option Rat) : Value := .tuple #[qV (o.getD 0), .bool o.isSome]
set_option maxHeartbeats 2000000 in
set_option maxRecDepth 100000 in
theorem near_Nearest_c1 (bs bk k n HC : Nat) (HA : Option Addr) (hs : List Ht) (hn : hs.length = n) (hn2 : n ≤ 100000) (hk : k ≤ 100000) (hk0 : 0 < k) (w : World) (h5 : ∀ W, Grow w W → W.cell? ⟨bs, 5, none⟩ = some (.slice HA n HC)) (h0 : ∀ W, Grow w W → W.cell? ⟨bk, 0, none⟩ = some (.int .i64 (k : Nat))) (hL : Lh w HA hs) :
  Calls Tryz.prog 72 #[.pointer (some ⟨bs, 0, none⟩), .pointer (some ⟨bk, 0, none⟩)] w fun e w' => e = .returned (mostV (mostK k hs)) ∧ Grow w w' := by
 have H5 := Lib.hid h5
 have H0 := Lib.hid h0
 clear h5 h0
 rcases Nat.lt_or_ge n k with hlt | hge
 ·have fl : decide ((n : Int) < (k : Int)) = true := by simp; omega
  have fln : decide (n < k) = true := by simp; omega
  have hm : mostK k hs = none := by unfold mostK; rw [if_pos (by omega)]
  rw [hm]
  clear hL hm hn
  have hq : (qV ((none : Option Rat).getD 0)) = qV 0 := rfl
  go_enter Tryz.func72, Tryz.ntmps72
  refine en1 ?_
  intro u hG b2 hB hF
  refine wp_seq ?_
  refine wp_seq ?_
  have q5 := H5.out u hG; have q0 := H0.out u hG
  refine r0N ?_
  refine wp_cond_true (rfl) ?_
  refine wp_seq ?_
  have q5 := H5.out u hG; have q0 := H0.out u hG
  refine r0N ?_
  refine st hB hF hG 0 0 [_, _, _, _, _] ?_
  clear hB hG
  intro u hB hG
  refine rt Tryz.results72 ?_
  exact ⟨rfl, hG⟩
 ·have fl : decide ((n : Int) < (k : Int)) = false := by simp; omega
  have fln : decide (n < k) = false := by simp; omega
  have hne : hs ≠ [] := fun e => by rw [e] at hn; simp at hn; omega
  have hl1 : n - 1 < hs.length := by omega
  have hm : mostK k hs = some hs[n - 1].2 := by
   unfold mostK
   rw [if_neg (by omega), List.getLast?_eq_some_getLast hne, List.getLast_eq_getElem]
   simp [hn]
  obtain ⟨bb, ob, rfl, hrd⟩ := hL.at hl1
  rw [hm]
  obtain ⟨x, hx⟩ : ∃ x, x = hs[n - 1] := ⟨_, rfl⟩
  rw [← hx] at hrd ⊢
  obtain ⟨I, X⟩ := x
  obtain ⟨n1, hn1⟩ : ∃ x, x = n - 1 := ⟨_, rfl⟩
  rw [← hn1] at hrd
  have fn1 : IntKind.i64.wrap ((n : Int) - 1) = (n1 : Int) := by rw [IntWalk.i64_in _ (by omega)]; omega
  have hni : (n1 : Int) < (n : Int) := by omega
  have Hrd := Lib.hid hrd
  clear hrd hx hm hne hl1 hL hn hn1
  go_enter Tryz.func72, Tryz.ntmps72
  refine en1 ?_
  intro u hG b2 hB hF
  refine wp_seq ?_
  refine wp_seq ?_
  have q5 := H5.out u hG; have q0 := H0.out u hG; obtain ⟨c0, c1, c2, c3, c4, c5⟩ := Hrd.out u hG
  refine r0N ?_
  refine wp_cond_false (rfl) ?_
  refine wp_skip ?_
  refine then_norm ?_
  refine wp_seq ?_
  have q5 := H5.out u hG; have q0 := H0.out u hG; obtain ⟨c0, c1, c2, c3, c4, c5⟩ := Hrd.out u hG
  refine r0N ?_
  refine st hB hF hG 0 0 [_, _, _, _, _] ?_
  clear hB hG
  intro u hB hG
  refine rt Tryz.results72 ?_
  exact ⟨rfl, hG⟩
end Go.Proofs.YtjmopgepnndckaaGreatDoor
namespace Go.Proofs.YtjmopgepnndckaaGreatDoor
open Go Go.RowKit
theorem run_copy_k {P : Program} (w : World) (dT sT ty elem : TypeId) (k g o dLen dCap : Nat) (a : Addr) (sLen sCap : Nat) (cur : Array Value) (t : TypeId) (cs : List Value)
  (hu : P.underlying dT = some (.slice elem)) (hs : (P.info? elem).map (·.size) = some k)
  (hg : w.heap[g]? = some (.cells cur t (0, 0))) (hn : cs.length = Nat.min sLen dLen * k)
  (hsrc : ∀ j v, cs[j]? = some v → w.cell? (a.add j) = some v) (hfit : o + cs.length ≤ cur.size) (h1 : ∀ v ∈ cs, v.oneCell' = true) :
  (Builtin.copy_ #[dT, sT] ty #[.slice (some ⟨g, o, none⟩) dLen dCap, .slice (some a) sLen sCap]).run P w =
   .ok (goInt (Nat.min sLen dLen)) (w.setRow g (cur.toList.take o ++ cs ++ cur.toList.drop (o + cs.length)).toArray) := by
 have hl := run_loadCells_list (P := P) w a cs hsrc
 have hst := run_storeCells_at P g o t cs 0 cur w hg (by simpa using hfit) h1
 cases hq : P.info? elem with
 | none => simp [hq] at hs
 | some i =>
  have hi : i.size = k := by simpa [hq] using hs
  simp [Builtin.copy_, run_underlying hu, Builtin.lenOf, Builtin.firstCells, sizeOf, typeInfo, hq, hi, ← hn, hl, hst]
/-- a part of a row of the call's own is written -/
theorem own_seg {u : World} {B n cap k g : Nat} {e : TypeId} {xs : List Value} (h : u.ownsRow B e k (.slice (some ⟨g, 0, none⟩) n cap) n xs) (o : Nat) (cs : List Value) (hfit : o + cs.length ≤ n * k) :
  ∃ cur : Array Value, u.heap[g]? = some (.cells cur e (0, 0)) ∧ n * k ≤ cur.size ∧ (u.setRow g (cur.toList.take o ++ cs ++ cur.toList.drop (o + cs.length)).toArray).ownsRow B e k (.slice (some ⟨g, 0, none⟩) n cap) n (xs.take o ++ cs ++ xs.drop (o + cs.length)) ∧ u.grownBy (u.setRow g (cur.toList.take o ++ cs ++ cur.toList.drop (o + cs.length)).toArray) (some g) := by
 obtain ⟨h0, h | ⟨g', cap', cur, e1, hb, hh, hn, hc, hs, ht⟩⟩ := h
 ·cases h.1
 ·cases e1
  have hcs : n * k ≤ cur.size := by rw [hs]; exact Nat.mul_le_mul_right _ hn
  have hlt : g < u.heap.size := heap_lt hh
  have hxl : xs.length = n * k := h0
  refine ⟨cur, hh, hcs, ⟨?_, .inr ⟨g, cap, _, rfl, hb, setRow_heap u g cur _ e (0, 0) hh, hn, hc, ?_, ?_⟩⟩, ?_⟩
  ·simp only [List.length_append, List.length_take, List.length_drop, hxl]
   omega
  ·rw [← hs]
   simp
   omega
  ·rw [← ht]
   simp only [List.toList_toArray]
   apply List.ext_getElem?
   intro j
   simp only [List.getElem?_take, List.getElem?_append, List.length_append, List.length_take, List.getElem?_drop, Array.length_toList]
   grind
  ·refine ⟨rfl, rfl, rfl, ?_, fun j hj hne => ?_⟩
   ·simp [World.setRow]
   ·show (u.heap.modify g _)[j]? = _
    rw [Array.getElem?_modify, if_neg (fun e => hne (by rw [e]))]
theorem flat_take {α : Type} {enc : α → List Value} {k : Nat} (he : ∀ x, (enc x).length = k) : ∀ (l : List α) (m : Nat), (l.flatMap enc).take (m * k) = (l.take m).flatMap enc
 | [], m => by simp
 | x :: l, 0 => by simp
 | x :: l, m + 1 => by
  rw [List.take_succ_cons, List.flatMap_cons, List.flatMap_cons, Nat.succ_mul, Nat.add_comm, ← he x, List.take_length_add_append, he x, flat_take he l m]
/-- fewer elements of a row of the call's own -/
theorem own_take {α : Type} {enc : α → List Value} {k : Nat} (he : ∀ x, (enc x).length = k) {u : World} {B n cap g m : Nat} {e : TypeId} {l : List α} (h : u.ownsRow B e k (.slice (some ⟨g, 0, none⟩) n cap) n (l.flatMap enc)) (hm : m ≤ n) (hl : l.length = n) : u.ownsRow B e k (.slice (some ⟨g, 0, none⟩) m cap) m ((l.take m).flatMap enc) := by
 obtain ⟨h0, h | ⟨g', cap', cur, e1, hb, hh, hn, hc, hs, ht⟩⟩ := h
 ·cases h.1
 ·cases e1
  have h2 : ((l.take m).flatMap enc).length = m * k := by rw [flat_lenO he, List.length_take, hl, Nat.min_eq_left hm]
  refine ⟨h2, .inr ⟨g, cap, cur, rfl, hb, hh, Nat.le_trans hm hn, hc, hs, ?_⟩⟩
  rw [← flat_take he, ← ht, List.take_take, Nat.min_eq_left (Nat.mul_le_mul_right _ hm)]
/-- the elements from p on one place further -/
theorem shift_ins {α : Type} {enc : α → List Value} {k : Nat} (he : ∀ x, (enc x).length = k) (l : List α) (z : α) (p : Nat) (hp : p ≤ l.length) : ((l ++ [z]).flatMap enc).take ((p + 1) * k) ++ (l.drop p).flatMap enc ++ ((l ++ [z]).flatMap enc).drop ((p + 1) * k + ((l.drop p).flatMap enc).length) = (insAt l p ((l ++ [z])[p]'(by simp; omega))).flatMap enc := by
 have h1 : ((l ++ [z]).flatMap enc).drop ((p + 1) * k + ((l.drop p).flatMap enc).length) = [] := by
  apply List.drop_eq_nil_of_le
  rw [flat_lenO he, flat_lenO he, List.length_append, List.length_drop, ← Nat.add_mul]
  exact Nat.mul_le_mul_right _ (by simp; omega)
 rw [h1, List.append_nil, flat_take he, List.take_add_one, List.getElem?_eq_getElem (by simp; omega)]
 unfold insAt
 simp only [Option.toList_some, List.flatMap_append, List.flatMap_cons, List.append_assoc, List.flatMap_nil, List.nil_append]
 rw [List.take_append_of_le_length hp]
end Go.Proofs.YtjmopgepnndckaaGreatDoor
namespace Go.Proofs.YtjmopgepnndckaaGreatDoor
open Go Go.RowKit
/-- blocks of other types than hits and searches are as they were -/
structure KepT (u w : World) : Prop where
 os : w.os = u.os
 tape : w.tape = u.tape
 output : w.output = u.output
 size : u.heap.size ≤ w.heap.size
 blk : ∀ (b : Nat) (t : TypeId) (cs : Array Value), t ≠ 51 → t ≠ 136 → Blk u b t cs → Blk w b t cs
theorem KepT.refl (u : World) : KepT u u := ⟨rfl, rfl, rfl, Nat.le_refl _, fun _ _ _ _ _ h => h⟩
theorem KepT.trans {u v w : World} (h : KepT u v) (h' : KepT v w) : KepT u w := ⟨h'.os.trans h.os, h'.tape.trans h.tape, h'.output.trans h.output, Nat.le_trans h.size h'.size, fun b t cs h1 h2 hb => h'.blk b t cs h1 h2 (h.blk b t cs h1 h2 hb)⟩
theorem KepT.ofGrow {u w : World} (h : Grow u w) : KepT u w := ⟨h.os, h.tape, h.output, h.size, fun b t cs _ _ hb => hb.grow h⟩
theorem KepT.grow {u v w : World} (h : KepT u v) (hg : Grow v w) : KepT u w := h.trans (KepT.ofGrow hg)
/-- a block of another type is not a row's -/
theorem own_blk_other {u : World} {B n b k : Nat} {e t : TypeId} {v : Value} {xs : List Value} {cs : Array Value} (h : u.ownsRow B e k v n xs) (hb : Blk u b t cs) (ht : e ≠ t) : v.ownBlock ≠ some b := fun e1 => by
 obtain ⟨_, h | ⟨g, cap, cur, rfl, _, hh, _⟩⟩ := h
 ·rw [h.1] at e1; cases e1
 ·have e2 : g = b := Option.some.inj e1
  subst e2
  have hb' : u.heap[g]? = _ := hb
  rw [hh] at hb'
  cases hb'
  exact ht rfl
theorem KepT.hit {u w : World} {B n k : Nat} {v : Value} {xs : List Value} (h : u.ownsRow B 51 k v n xs) (hg : u.grownBy w v.ownBlock) : KepT u w :=
 ⟨hg.os, hg.tape, hg.output, hg.size, fun b t cs h1 _ hb => (hg.block b hb.lt fun e => own_blk_other h hb (fun e => h1 e.symm) e.symm).trans hb⟩
theorem KepT.app {u w : World} {B n k : Nat} {v : Value} {xs : List Value} {o : Obj} (h : u.ownsRow B 51 k v n xs) (hg : (u.alloc o).grownBy w v.ownBlock) : KepT u w :=
 (KepT.ofGrow (Grow.alloc u o)).trans (KepT.hit (own_grow' h (Grow.alloc u o)) hg)
theorem KepT.put {u u' : World} {b i : Nat} {vs : List Value} {cs : Array Value} (hb : Blk u b 136 cs) (hu : putAll u b i vs = u') : KepT u u' := by
 have hg := grown_putAll b vs i u
 rw [hu] at hg
 refine ⟨hg.os, hg.tape, hg.output, hg.size, fun b' t cs' _ h2 hb' => (hg.block b' hb'.lt fun e => ?_).trans hb'⟩
 have e1 : b' = b := Option.some.inj e
 subst e1
 have h3 : u.heap[b']? = _ := hb
 have h4 : u.heap[b']? = _ := hb'
 rw [h3] at h4
 cases h4
 exact h2 rfl
/-- the search at hand -/
structure SrW (bs B : Nat) (c0 c1 c2 c3 c4 : Value) (HA : Option Addr) (HC : Nat) (hs : List Ht) (lk : Nat) (W : World) : Prop where
 blk : Blk W bs 136 #[c0, c1, c2, c3, c4, .slice HA hs.length HC, .int .i64 (lk : Nat)]
 own : W.ownsRow B 51 6 (.slice HA hs.length HC) hs.length (hs.flatMap htL)
theorem SrW.grow {bs B : Nat} {c0 c1 c2 c3 c4 : Value} {HA : Option Addr} {HC : Nat} {hs : List Ht} {lk : Nat} {W W' : World} (h : SrW bs B c0 c1 c2 c3 c4 HA HC hs lk W) (hg : Grow W W') : SrW bs B c0 c1 c2 c3 c4 HA HC hs lk W' := ⟨h.blk.grow hg, own_grow' h.own hg⟩
theorem SrW.lh {bs B : Nat} {c0 c1 c2 c3 c4 : Value} {HA : Option Addr} {HC : Nat} {hs : List Ht} {lk : Nat} {W : World} (h : SrW bs B c0 c1 c2 c3 c4 HA HC hs lk W) : Lh W HA hs ∧ hs.length ≤ HC ∧ HC ≤ maxLen := by
 obtain ⟨A, c, e, h1, h2, h3, h4⟩ := own_lh h.own
 cases e
 exact ⟨h3, h1, h2⟩
/-- how far a further hit may be: what the search's closure answers -/
structure MostOK (bs B : Nat) (c0 c1 c2 c3 : Value) (MF : FuncId) (MC : Array Value) (mf : List Ht → Option Rat) (I : World → Prop) (w0 : World) : Prop where
 run : ∀ (args : Array Value) (W : World), Sem.run Tryz.prog (callFunc MF args) W = .ok (.enter MF args) W
 call : ∀ (HA : Option Addr) (HC : Nat) (hs : List Ht) (lk : Nat) (W : World), Grow w0 W → I W → hs.length ≤ 100000 → SrW bs B c0 c1 c2 c3 (.func (.func MF) #[] MC) HA HC hs lk W →
  Calls Tryz.prog MF MC W fun e W' => e = .returned (mostV (mf hs)) ∧ Grow W W'
 keep : ∀ W W', KepT W W' → I W → I W'
end Go.Proofs.YtjmopgepnndckaaGreatDoor
namespace Go.Proofs.YtjmopgepnndckaaGreatDoor
open Go Go.RowKit
/-- what an element's slice begins at -/
def fromA (g cap lo : Nat) : Addr := if lo = cap then ⟨g, 0, none⟩ else ⟨g, lo * 6, none⟩
theorem slice_fromH (g n cap lo : Nat) (h1 : lo ≤ n) (h2 : n ≤ cap) (W : World) : (Instr.slice 29 (.slice (some ⟨g, 0, none⟩) n cap) (some (.int .i64 (lo : Nat))) none none).run Tryz.prog W = .ok (.slice (some (fromA g cap lo)) (n - lo) (cap - lo)) W := by
 have h3 : (lo : Int) ≤ (n : Int) := by omega
 unfold fromA
 by_cases h : lo = cap
 ·subst h
  obtain rfl : n = lo := by omega
  rw [if_pos rfl]
  go_simp
 ·rw [if_neg h]
  have h5 : ¬ (cap : Int) = (lo : Int) := by omega
  have h6 : ¬ cap = lo := fun e => h e.symm
  go_simp
theorem copy_hits {u : World} {B n cap p : Nat} {g : Nat} {l : List Ht} {z : Ht} (h : u.ownsRow B 51 6 (.slice (some ⟨g, 0, none⟩) (n + 1) cap) (n + 1) ((l ++ [z]).flatMap htL)) (hl : l.length = n) (hp : p ≤ n) (hc : n + 1 ≤ cap) :
  ∃ (w' : World) (x : Ht), (Builtin.copy_ #[29, 29] 3 #[.slice (some (fromA g cap (p + 1))) (n + 1 - (p + 1)) (cap - (p + 1)), .slice (some (fromA g cap p)) (n + 1 - p) (cap - p)]).run Tryz.prog u = .ok (goInt (n - p : Nat)) w' ∧ w'.ownsRow B 51 6 (.slice (some ⟨g, 0, none⟩) (n + 1) cap) (n + 1) ((insAt l p x).flatMap htL) ∧ u.grownBy w' (some g) := by
 have he : ∀ x : Ht, (htL x).length = 6 := fun _ => rfl
 have hll : (l ++ [z]).length = n + 1 := by simp [hl]
 have hpc : p ≠ cap := by omega
 have hsz : (Tryz.prog.info? 51).map (·.size) = some 6 := by
  have := info_Hit
  cases hi : Tryz.prog.info? 51 with
  | none => rw [hi] at this; cases this
  | some i => rw [hi] at this; simp only [Option.map_some, Option.some.injEq, Prod.mk.injEq] at this ⊢; exact this.2.1
 have hone : ∀ v ∈ (l.drop p).flatMap htL, v.oneCell' = true := fun v hv => by
  obtain ⟨x, _, hx⟩ := List.mem_flatMap.1 hv
  simp only [htL, List.mem_cons, List.not_mem_nil, or_false] at hx
  rcases hx with rfl | rfl | rfl | rfl | rfl | rfl <;> rfl
 have hcl : ((l.drop p).flatMap htL).length = (n - p) * 6 := by rw [flat_lenO he, List.length_drop, hl]
 have hmin : Nat.min (n + 1 - p) (n + 1 - (p + 1)) = n - p := by show min _ _ = _; omega
 obtain ⟨o, ho, hof⟩ : ∃ o, fromA g cap (p + 1) = ⟨g, o, none⟩ ∧ (o = (p + 1) * 6 ∨ (o = 0 ∧ n - p = 0)) := by
  unfold fromA
  by_cases h2 : p + 1 = cap
  ·exact ⟨0, by rw [if_pos h2], .inr ⟨rfl, by omega⟩⟩
  ·exact ⟨(p + 1) * 6, by rw [if_neg h2], .inl rfl⟩
 have hfit : o + ((l.drop p).flatMap htL).length ≤ (n + 1) * 6 := by
  rw [hcl]
  rcases hof with rfl | ⟨rfl, h0⟩
  ·omega
  ·rw [h0]; omega
 obtain ⟨cur, hcur, hcs, hown, hgr⟩ := own_seg h o ((l.drop p).flatMap htL) hfit
 have hS : fromA g cap p = ⟨g, p * 6, none⟩ := by unfold fromA; rw [if_neg hpc]
 have hsrc : ∀ j v, ((l.drop p).flatMap htL)[j]? = some v → u.cell? (Addr.add ⟨g, p * 6, none⟩ j) = some v := fun j v hj => by
  have hjl : j < (n - p) * 6 := by rw [← hcl]; exact (List.getElem?_eq_some_iff.1 hj).1
  rw [Go.WideShapes.add_plain, h.cellAt (p * 6 + j) (by omega)]
  have e : (l ++ [z]).flatMap htL = (l.take p).flatMap htL ++ ((l.drop p).flatMap htL ++ [z].flatMap htL) := by
   rw [← List.flatMap_append, ← List.flatMap_append, ← List.append_assoc, List.take_append_drop]
  rw [e]
  have h3 : ((l.take p).flatMap htL).length = p * 6 := by rw [flat_lenO he, List.length_take, hl, Nat.min_eq_left hp]
  rw [List.getElem?_append_right (by omega), h3, Nat.add_sub_cancel_left, List.getElem?_append_left (by omega)]
  exact hj
 have hr := run_copy_k (P := Tryz.prog) u 29 29 3 51 6 g o (n + 1 - (p + 1)) (cap - (p + 1)) ⟨g, p * 6, none⟩ (n + 1 - p) (cap - p) cur 51 ((l.drop p).flatMap htL) Tryz.underlying29 hsz hcur (by rw [hmin, hcl]) hsrc (by omega) hone
 rw [hmin] at hr
 refine ⟨_, (l ++ [z])[p]'(by omega), by rw [ho, hS]; exact hr, ?_, hgr⟩
 rcases hof with rfl | ⟨rfl, h0⟩
 ·have e := shift_ins he l z p (by omega)
  rw [e] at hown
  exact hown
 ·obtain rfl : p = n := by omega
  have e0 : l.drop p = [] := List.drop_eq_nil_of_le (by omega)
  have hx : (l ++ [z])[p]'(by omega) = z := by
   rw [List.getElem_append_right (by omega)]
   simp only [hl, Nat.sub_self, List.getElem_cons_zero]
  have e1 : insAt l p ((l ++ [z])[p]'(by omega)) = l ++ [z] := by
   unfold insAt
   rw [hx, e0, List.take_of_length_le (by omega)]
  rw [e0] at hown ⊢
  rw [e1]
  simpa only [List.flatMap_nil, List.take_zero, List.nil_append, List.length_nil, Nat.add_zero, List.drop_zero] using hown
/-- a copy whose run is known -/
theorem wpList_cpy {P : Program} {ops : Array Oper} {rest : List Oper} {o : Oper} {a : Act} {w w' : World} {Q : Exit → Act → World → Prop} {v x y : Value} (hgd : o.guard = none) (s z : Operand) (t : TypeId)
  (ho : o.op = .call { callee := .builtin .copy, args := #[s, z], argTypes := #[t, t] }) (hs : a.eval s = x) (hz : a.eval z = y) (hr : (Builtin.copy_ #[t, t] o.type #[x, y]).run P w = .ok v w') (h : wpList P ops Q rest (a.put o.dst v) w') : wpList P ops Q (o :: rest) a w := by
 refine wpList_plain hgd fun K hK => ?_
 unfold Oper.wp execOp
 simp only [ho, resolve, invoke, builtin, Sem.run_bind, Sem.run_pure, Result.andThen_ok, List.map_toArray, List.map_cons, List.map_nil, hs, hz, hr]
 exact hK _ _ h
end Go.Proofs.YtjmopgepnndckaaGreatDoor
