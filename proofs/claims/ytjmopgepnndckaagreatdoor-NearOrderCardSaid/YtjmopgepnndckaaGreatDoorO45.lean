/-
  Contracts and laws: NearVt.
-/
import Derived.Test.YtjmopgepnndckaaGreatDoorO44
set_option linter.unusedSimpArgs false
set_option linter.unusedVariables false
namespace Go.Proofs.YtjmopgepnndckaaGreatDoor
open Go Go.RowKit Go.Shelf
theorem SrW.cells {bs B : Nat} {c0 c1 c2 c3 c4 : Value} {HA : Option Addr} {HC : Nat} {hs : List Ht} {lk : Nat} {W : World} (h : SrW bs B c0 c1 c2 c3 c4 HA HC hs lk W) : W.cell? ⟨bs, 0, none⟩ = some c0 ∧ W.cell? ⟨bs, 1, none⟩ = some c1 ∧ W.cell? ⟨bs, 2, none⟩ = some c2 ∧ W.cell? ⟨bs, 3, none⟩ = some c3 ∧ W.cell? ⟨bs, 4, none⟩ = some c4 := ⟨h.blk.cell 0, h.blk.cell 1, h.blk.cell 2, h.blk.cell 3, h.blk.cell 4⟩
set_option maxHeartbeats 16000000 in
set_option maxRecDepth 100000 in
theorem near_visit_step (b99 keep s n m L t : Nat) (R N Qa : Ax) (rs : List Rq) (ns : List NdT) (q : List Rat) (MF : FuncId) (MC : Array Value) (mf : List Ht → Option Rat) (I : World → Prop) (w0 : World) (hb : w0.heap.size ≤ b99) (hk : keep ≤ 100000) (hn : rs.length = n) (hn2 : n ≤ 300) (hm : ns.length = m) (hm2 : m ≤ 300) (hL2 : L ≤ 20) (hq : q.length = L) (hrl : ∀ r ∈ rs, r.2.2.length = L)
  (hs1 : ∀ r ∈ rs, ∀ x ∈ r.2.2, qs x ≤ t) (hs2 : ∀ x ∈ q, qs x ≤ t) (hts : 100 * t + 200 ≤ s) (hBz : 4 * s + 1000 ≤ BIG)
  (HM : MostOK b99 w0.heap.size (.slice R.1 n R.2) (.slice N.1 m N.2) (.slice Qa.1 L Qa.2) (.int .i64 (keep : Nat)) MF MC mf I w0) (hms : ∀ hs m, (∀ x ∈ hs, qs x.2 ≤ s) → mf hs = some m → qs m ≤ s)
  (hLR : Lrq w0 R.1 rs) (hLN : Le ndL 4 w0 N.1 ns) (hLQ : Lq w0 Qa.1 q) (hfine : Fine (rs.map (·.2.2)) L ns) (HT0 : Tab w0)
  (f : Nat) (hih : ∀ f', f' < f → VisitOK b99 keep s (.slice R.1 n R.2) (.slice N.1 m N.2) (.slice Qa.1 L Qa.2) MF MC mf I w0 (rs.map (·.2.2)) q L ns f') : VisitOK b99 keep s (.slice R.1 n R.2) (.slice N.1 m N.2) (.slice Qa.1 L Qa.2) MF MC mf I w0 (rs.map (·.2.2)) q L ns f := by
 intro sh i hs lk HA HC w hz hf hlay hG0 hI hinv hlk hS
 obtain ⟨RA, RC⟩ := R
 obtain ⟨NA, NC⟩ := N
 obtain ⟨QA, QC⟩ := Qa
 simp only at hLR hLN hLQ HM hih hS ⊢
 cases sh with
 | no => exact absurd hz (by simp [Sh.size])
 | nd a b =>
 have hszn : (Sh.nd a b).size = a.size + b.size + 1 := rfl
 rw [hszn] at hf hlk
 have hlayL := lay_len (.nd a b) i hlay (Nat.succ_pos _)
 obtain ⟨nd, hnd, hl, ht, hla, hlb⟩ := hlay
 obtain ⟨fc0, fc1, fr0, fr1⟩ := hfine.1 nd (List.mem_of_getElem? hnd)
 have hil : i < ns.length := (List.getElem?_eq_some_iff.1 hnd).1
 have hndE : ns[i] = nd := (List.getElem?_eq_some_iff.1 hnd).2
 obtain ⟨c, hc⟩ : ∃ c : Nat, nd.c = c := ⟨nd.c.toNat, by omega⟩
 obtain ⟨r, hr⟩ : ∃ r : Nat, nd.r = r := ⟨nd.r.toNat, by omega⟩
 rw [List.length_map] at fr1
 have hcL : c < L := by omega
 have hrn : r < n := by omega
 have hrl' : r < rs.length := by omega
 have htk : toK ns (.nd a b) i = .node r c (toK ns a (i + 1)) (toK ns b (i + 1 + a.size)) := by
  show KT.node _ _ _ _ = _
  rw [hnd]
  simp only [Option.map_some, Option.getD_some, hc, hr, Int.toNat_natCast]
 rw [htk]
 obtain ⟨X, hX⟩ : ∃ X, X = rs.map (·.2.2) := ⟨_, rfl⟩
 rw [← hX]
 simp only [← hX] at hih
 have hLr := hrl _ (List.getElem_mem hrl')
 have hrow : rowR X r = rs[r].2.2 := by rw [hX]; unfold rowR; rw [List.getElem?_map, List.getElem?_eq_getElem hrl']; rfl
 have hrowM : ∀ r', r' < n → qs (farI X q L r') ≤ s := fun r' hr' => by
  have hr2 : r' < rs.length := by omega
  have e : rowR X r' = rs[r'].2.2 := by rw [hX]; unfold rowR; rw [List.getElem?_map, List.getElem?_eq_getElem hr2]; rfl
  rw [farI_eq, e]
  have h3 := farQ_sz (hrl _ (List.getElem_mem hr2)) hq (hs1 _ (List.getElem_mem hr2)) hs2 L (Nat.le_refl _)
  have h4 : L * (4 * t + 3) ≤ 20 * (4 * t + 3) := Nat.mul_le_mul_right _ hL2
  unfold farQ
  omega
 have hL20 : L * (4 * t + 3) ≤ 20 * (4 * t + 3) := Nat.mul_le_mul_right _ hL2
 obtain ⟨FQ, hFQ⟩ : ∃ F, F = farI X q L r := ⟨_, rfl⟩
 have hFs : qs FQ ≤ s := by rw [hFQ]; exact hrowM r hrn
 obtain ⟨bb, ob, hRe⟩ := hLR.addr (by omega)
 subst hRe
 obtain ⟨hLrd1, hLrd2⟩ := hLR.read (List.getElem?_eq_getElem hrl')
 obtain ⟨ba, oa, hBe⟩ := hLrd2.addr (by omega)
 obtain ⟨cr, hcr⟩ : ∃ x, x = rs[r].2.1 := ⟨_, rfl⟩
 rw [hLr, hBe, ← hcr] at hLrd1
 rw [hBe] at hLrd2
 obtain ⟨bq, oq, hQe⟩ := hLQ.addr (by omega)
 subst hQe
 have hhit : ∀ W, Grow w0 W → Calls Tryz.prog 50 #[.int .i64 (r : Nat), .slice (some ⟨ba, oa, none⟩) L cr, .slice (some ⟨bq, oq, none⟩) L QC] W fun e w' => e = .returned (htV r FQ) ∧ Grow W w' := fun W hg => by
  have h := near_hit r (some ⟨ba, oa, none⟩) (some ⟨bq, oq, none⟩) rs[r].2.2 q cr QC L hLr hq (by omega) t (hs1 _ (List.getElem_mem hrl')) hs2 (by omega) W (hLrd2.grow hg) (hLQ.grow hg) (HT0.grow hg)
  rw [← hrow, ← farI_eq, ← hFQ] at h
  exact h
 have hRcell : ∀ W, Grow w0 W → W.cell? ⟨bb, ob + r, none⟩ = some (.slice (some ⟨ba, oa, none⟩) L cr) := fun W hg => (hg.cell (p := ⟨bb, ob + r, none⟩) (World.block_lt_of_cell? w0 _ hLrd1)).trans hLrd1
 have hXc : ∀ W, Grow w0 W → Cq W ba (oa + c * 5) (ent X r c) := fun W hg => by
  have h := (hLrd2.grow hg).read (i := c) (by omega)
  have e : gq rs[r].2.2 c = ent X r c := by rw [ent_gq, hrow]
  rw [e] at h
  exact h
 have hQc : ∀ W, Grow w0 W → Cq W bq (oq + c * 5) (q.getD c 0) := fun W hg => by
  have h := (hLQ.grow hg).read (i := c) (by omega)
  have e : gq q c = q.getD c 0 := by unfold gq; simp [List.getD_eq_getElem?_getD]
  rw [e] at h
  exact h
 have zx : qs (ent X r c) ≤ t := by rw [ent_gq, hrow]; exact hs1 _ (List.getElem_mem hrl') _ (gq_mem (by omega))
 have zq : qs (q.getD c 0) ≤ t := by
  have e : q.getD c 0 = gq q c := by unfold gq; simp [List.getD_eq_getElem?_getD]
  rw [e]
  exact hs2 _ (gq_mem (by omega))
 obtain ⟨U, hU⟩ : ∃ U, U = ent X r c := ⟨_, rfl⟩
 obtain ⟨V, hV⟩ : ∃ V, V = q.getD c 0 := ⟨_, rfl⟩
 obtain ⟨G, hGe⟩ : ∃ G, G = qsub V U := ⟨_, rfl⟩
 have hGd : G = qsub (q.getD c 0) (ent X r c) := by rw [hGe, hU, hV]
 rw [← hU] at zx
 rw [← hV] at zq
 simp only [← hU] at hXc
 simp only [← hV] at hQc
 have zG : qs G ≤ 2 * t + 1 := by
  rw [hGe]
  have := qs_sub V U
  unfold qsub
  omega
 have zGG : qs (qmul G G) ≤ 4 * t + 2 := by
  have := qs_mul G G
  unfold qmul
  omega
 have hB40 := BIG_le
 have hsub : ∀ W, Grow w0 W → Calls Tryz.prog 112 #[qV V, qV U] W fun e w' => e = .returned (qV G) ∧ Grow W w' := fun W hg => by
  have h := frac_Sub V U W (by omega) (HT0.grow hg)
  rw [← hGe] at h
  exact h
 have hsgn : ∀ W, Calls Tryz.prog 75 #[qV G] W fun e w' => e = .returned (.int .i64 G.num.sign) ∧ Grow W w' := fun W => frac_Sign G (by have := qs_num G; omega) W
 obtain ⟨g, hg0⟩ : ∃ g, g = decide (0 < G) := ⟨_, rfl⟩
 obtain ⟨SG, hSG⟩ : ∃ x, x = G.num.sign := ⟨_, rfl⟩
 have fg : decide (0 < SG) = g := by rw [hg0, hSG, sign_pos]
 simp only [← hSG] at hsgn
 have hcf := HM.run
 obtain ⟨GG, hGG⟩ : ∃ x, x = qmul G G := ⟨_, rfl⟩
 have hmul : ∀ W, Grow w0 W → Calls Tryz.prog 113 #[qV G, qV G] W fun e w' => e = .returned (qV GG) ∧ Grow W w' := fun W hg => by
  have h := frac_Mul G G W (by omega) (HT0.grow hg)
  rw [← hGG] at h
  exact h
 rw [← hGG] at zGG
 -- the node's cells
 obtain ⟨bN, oN, hNe, hndc⟩ := hLN.at hil
 subst hNe
 rw [hndE] at hndc
 obtain ⟨S1, hS1⟩ : ∃ x : Sh, x = if g then b else a := ⟨_, rfl⟩
 obtain ⟨S2, hS2⟩ : ∃ x : Sh, x = if g then a else b := ⟨_, rfl⟩
 obtain ⟨k1, hk1⟩ : ∃ x : Nat, x = if g then i + 1 + a.size else i + 1 := ⟨_, rfl⟩
 obtain ⟨k2, hk2⟩ : ∃ x : Nat, x = if g then i + 1 else i + 1 + a.size := ⟨_, rfl⟩
 obtain ⟨nr, nc, nl, nt⟩ := nd
 simp only at hc hr hl ht hndc
 subst hc
 subst hr
 obtain ⟨v1, hv1⟩ : ∃ x : Int, x = if g then nt else nl := ⟨_, rfl⟩
 obtain ⟨v2, hv2⟩ : ∃ x : Int, x = if g then nl else nt := ⟨_, rfl⟩
 have hv1S : v1 = if S1.size = 0 then 0 else (k1 : Int) := by rw [hv1, hS1, hk1]; cases g <;> simp [hl, ht]
 have hv2S : v2 = if S2.size = 0 then 0 else (k2 : Int) := by rw [hv2, hS2, hk2]; cases g <;> simp [hl, ht]
 have hlay1 : Lay ns S1 k1 := by rw [hS1, hk1]; cases g <;> assumption
 have hlay2 : Lay ns S2 k2 := by rw [hS2, hk2]; cases g <;> assumption
 have hsz12 : S1.size + S2.size = a.size + b.size := by rw [hS1, hS2]; cases g <;> simp <;> omega
 have hk1p : 0 < k1 := by rw [hk1]; cases g <;> simp <;> omega
 have hk2p : 0 < k2 := by rw [hk2]; cases g <;> simp <;> omega
 have e1 : toK ns S1 k1 = if g then toK ns b (i + 1 + a.size) else toK ns a (i + 1) := by rw [hS1, hk1]; cases g <;> rfl
 have e2 : toK ns S2 k2 = if g then toK ns a (i + 1) else toK ns b (i + 1 + a.size) := by rw [hS2, hk2]; cases g <;> rfl
 obtain ⟨P0, hP0⟩ : ∃ x, x = (takeH mf keep (r, FQ) hs, lk + 1) := ⟨_, rfl⟩
 obtain ⟨P1, hP1⟩ : ∃ x, x = visitT X q L mf keep (toK ns S1 k1) P0 := ⟨_, rfl⟩
 have hres := visitT_nd X q L mf keep r c (toK ns a (i + 1)) (toK ns b (i + 1 + a.size)) (hs, lk) G hGd g hg0 P1 (by rw [hP1, e1, hP0, hFQ]; rfl)
 rw [← e2] at hres
 rw [hres]
 have hinv0 : InvS s P0 := by rw [hP0]; exact hinv.take hFs
 have hrows1 : ∀ (S : Sh) (k : Nat), Lay ns S k → ∀ x ∈ (toK ns S k).rows, qs (farI X q L x) ≤ s := fun S k hl x hx => by
  rw [toK_rows] at hx
  obtain ⟨j, hj, rfl⟩ := List.mem_map.1 hx
  have hj := List.mem_range.1 hj
  have hlen := lay_len S k hl (by omega)
  obtain ⟨_, _, g3, g4⟩ := hfine.1 ns[k + j] (List.getElem_mem (by omega))
  rw [List.length_map] at g4
  have e : rowN ns (k + j) = ns[k + j].r.toNat := by unfold rowN; rw [List.getElem?_eq_getElem (by omega)]; rfl
  rw [e]
  exact hrowM _ (by omega)
 have hinv1 : InvS s P1 := by rw [hP1]; exact visitT_inv _ _ (hrows1 S1 k1 hlay1) hinv0
 have hlk1 : P1.2 ≤ lk + 1 + S1.size := by
  have h := (visit_looked X q L mf keep (toK ns S1 k1) P0).2.1
  rw [← hP1, toK_size, hP0] at h
  exact h
 have htake := fun (HA : Option Addr) (HC : Nat) (W : World) hg hi (h : SrW b99 w0.heap.size (.slice (some ⟨bb, ob, none⟩) n RC) (.slice (some ⟨bN, oN, none⟩) m NC) (.slice (some ⟨bq, oq, none⟩) L QC) (.int .i64 (keep : Nat)) (.func (.func MF) #[] MC) HA HC hs (lk + 1) W) => near_take b99 keep s (.slice (some ⟨bb, ob, none⟩) n RC) (.slice (some ⟨bN, oN, none⟩) m NC) (.slice (some ⟨bq, oq, none⟩) L QC) MF MC mf I w0 hb hk (by omega) HM hms r FQ hFs HA HC (lk + 1) hs hinv.1 hinv.2.1 (by have := hinv.2.2; simp only at this; omega) W hg hi h
 have hv1st := fun (HA : Option Addr) (HC : Nat) (W : World) (h0 : 0 < S1.size) => hih (S1.size) (by omega) S1 k1 P0.1 P0.2 HA HC W h0 (Nat.le_refl _) hlay1
 have hv2nd := fun (HA : Option Addr) (HC : Nat) (W : World) (h0 : 0 < S2.size) => hih (S2.size) (by omega) S2 k2 P1.1 P1.2 HA HC W h0 (Nat.le_refl _) hlay2
 obtain ⟨m0, hm0⟩ : ∃ m, m = (mf P1.1).getD 0 := ⟨_, rfl⟩
 obtain ⟨ok, hok⟩ : ∃ b, b = (mf P1.1).isSome := ⟨_, rfl⟩
 have hmo := fun (HA : Option Addr) (HC : Nat) (W : World) hg hi h => HM.call HA HC P1.1 P1.2 W hg hi (by have := hinv1.2.2; omega) h
 have hmoV : mostV (mf P1.1) = .tuple #[qV m0, .bool ok] := by rw [hm0, hok]
 simp only [hmoV] at hmo
 have hsome : ok = true → mf P1.1 = some m0 := fun h => by
  rw [hok] at h
  obtain ⟨x, hx⟩ := Option.isSome_iff_exists.1 h
  rw [hm0, hx]
  rfl
 have hcm := fun (h : ok = true) W => frac_Cmp GG m0 W (by have := hms P1.1 m0 hinv1.1 (hsome h); omega)
 obtain ⟨P, hP⟩ : ∃ P, P = cmpQ GG m0 := ⟨_, rfl⟩
 simp only [← hP] at hcm
 obtain ⟨go, hgo0⟩ : ∃ x, x = goOn mf G P1.1 := ⟨_, rfl⟩
 have hgo : go = (!ok || decide (P ≤ 0)) := by
  rw [hgo0, hok, hP, hm0, hGG]
  unfold goOn
  cases mf P1.1 with
  | none => rfl
  | some m =>
   simp only [Option.isSome_some, Bool.not_true, Bool.false_or, Option.getD_some]
   refine decide_eq_decide.2 ⟨fun h => Int.not_lt.1 fun h2 => ?_, fun h => ?_⟩
   ·have := cmpQ_posH.1 h2
    grind
   ·have h3 : ¬ 0 < cmpQ (qmul G G) m := by omega
    rw [cmpQ_posH] at h3
    grind
 rw [← hgo0]
 obtain ⟨P2, hP2⟩ : ∃ x, x = visitT X q L mf keep (toK ns S2 k2) P1 := ⟨_, rfl⟩
 rw [← hP2]
 simp only [← hP2] at hv2nd
 simp only [← hP1] at hv1st
 have hz1 : S1.size = 0 → P1 = P0 := fun h => by
  rw [hP1]
  cases S1 with
  | no => rfl
  | nd a b => simp [Sh.size] at h
 have hz2 : S2.size = 0 → P2 = P1 := fun h => by
  rw [hP2]
  cases S2 with
  | no => rfl
  | nd a b => simp [Sh.size] at h
 obtain ⟨lk1, hlk1'⟩ : ∃ x, x = lk + 1 := ⟨_, rfl⟩
 have flk : IntKind.i64.wrap ((lk : Int) + 1) = (lk1 : Int) := by rw [IntWalk.i64_in _ (by omega)]; omega
 rw [← hlk1'] at hP0
 simp only [← hlk1'] at htake
 have hn4 : ∀ W, Grow w0 W → W.cell? ⟨bN, oN + i * 4, none⟩ = some (.int .i64 (r : Nat)) ∧ W.cell? ⟨bN, oN + i * 4 + 1, none⟩ = some (.int .i64 (c : Nat)) ∧ W.cell? ⟨bN, oN + i * 4 + 2, none⟩ = some (.int .i64 nl) ∧ W.cell? ⟨bN, oN + i * 4 + 3, none⟩ = some (.int .i64 nt) := fun W hg => ⟨hndc W hg 0 _ rfl, hndc W hg 1 _ rfl, hndc W hg 2 _ rfl, hndc W hg 3 _ rfl⟩
 have HrA := Lib.hid (fun W (hg : Grow w W) => And.intro (hS.grow hg).cells (hn4 W (hG0.trans hg)))
 have hiI : (i : Int) < (m : Int) := by omega
 have hrI : (r : Int) < (n : Int) := by omega
 have hcI : (c : Int) < (L : Int) := by omega
 have HrB := Lib.hid hRcell
 have HXc := Lib.hid hXc
 have HQc := Lib.hid hQc
 have Hhit := Lib.hid hhit
 have Hsub := Lib.hid hsub
 have Hsgn := Lib.hid hsgn
 have Hmul := Lib.hid hmul
 have Hcm := Lib.hid hcm
 have Hmo := Lib.hid hmo
 have Htk := Lib.hid htake
 have Hv1 := Lib.hid hv1st
 have Hv2 := Lib.hid hv2nd
 have Hv := Lib.hid (And.intro hv1 hv2)
 have HvS := Lib.hid (And.intro hv1S hv2S)
 have Hkp := Lib.hid (And.intro hk1p hk2p)
 have Hz := Lib.hid (And.intro hz1 hz2)
 have Hgo := Lib.hid hgo
 have HI := Lib.hid hI
 have HIk := Lib.hid HM.keep
 have HSS := Lib.hid hS
 have HG0 := Lib.hid hG0
 have Hi0 := Lib.hid hinv0
 have Hi1 := Lib.hid (And.intro hinv1 hlk1)
 have Hsz := Lib.hid (And.intro hsz12 hlk)
 have HP0 := Lib.hid hP0
 have HP02 := Lib.hid (show P0.2 = lk + 1 by rw [hP0, hlk1'])
 have Hb := Lib.hid hb
 have HT0' := Lib.hid HT0
 have fdg := fg
 clear hSG
 clear hRcell hXc hQc hhit hsub hsgn hmul hcm hmo htake hv1st hv2nd hv1 hv2 hv1S hv2S hk1p hk2p hz1 hz2 hgo hI hS hG0 hinv0 hinv1 hlk1 hsz12 hlk hP0 hP1 hP2 hgo0 hP hm0 hok hmoV hsome hlay1 hlay2 e1 e2 hS1 hS2 hk1 hk2 hres hrows1 hinv hn4 hndc hl ht hla hlb hnd hndE hil hlayL hszn hf hz htk fc0 fc1 fr0 fr1 hcL hrn hrl' hX hLr hrow hrowM hL20 hFQ hFs hLrd1 hLrd2 hBe hcr zx zq hU hV hGe hGd zG zGG hB40 hg0 hGG hLR hLN hLQ hfine HT0 hih HM hms hb hk hn hn2 hm hm2 hL2 hq hrl hs1 hs2 hts hBz hlk1' fg
 go_enter Tryz.func73, Tryz.ntmps73
 refine wp_at fun u hG => ?_
 have hB := Bx.nil u
 have hF := Fr.nil w
 refine wp_seq (rsC allocsT [0, 0, 0, 0, 0, 0, 0, 0, 2] hB hG fun K L hN hL => ?_)
 repeat first | refine gya ?_ | refine gyr ?_ | refine gna ?_ | refine gyb (by (rintro v ⟨hgu, hB, hG, -⟩ N hN; have r := hB.r; simp only [BxR] at r; (first | obtain ⟨⟨d0, d1, d2, d3, d4⟩, n0, n1, n2, n3⟩ := HrA.out v hG | have n0 := HrB.out v hG | obtain ⟨⟨d0, d1, d2, d3, d4⟩, ⟨n0, n1, n2, n3⟩, r0, ⟨x0, x1, x2, x3, x4⟩, y0, y1, y2, y3, y4⟩ := HrC.out v hG | obtain ⟨d4, x0, x1, x2, x3, x4⟩ := HrD.out v hG); go_simp; exact hN)) ?_
 refine gaa (newObj_Node _ _ _ _ _) fun b4 hb4 hn4 => ?_
 replace hF := hF.n1 [] hB hG hb4 hn4
 refine geC hL ?_
 clear hB hG hL L
 rintro u ⟨⟨-, hB, hG, -⟩, h4⟩
 replace hB := hB.cons' h4
 clear h4
 clear hb4 hn4
 refine gtT ?_
 clear hN K
 refine st hB hF hG 0 0 [_, _, _, _] ?_
 clear hB hG
 intro u hB hG
 refine wp_seq ?_
 have h4w := hF.1 b4 (by simp)
 have hown := own_grow' HSS.out.own hG
 have KK := KepT.ofGrow hG
 have h994 : b99 ≠ b4 := fun e => by have := HSS.out.blk.lt; omega
 have hb99 := HSS.out.blk.grow hG
 have hG2 := HG0.out.trans hG
 have hb4 := hB.head
 have h04 : w0.heap.size ≤ b4 := Nat.le_trans HG0.out.size h4w
 clear hB hG hF h4w HSS HG0 HrA
 obtain ⟨w1, rfl⟩ : ∃ x, x = w := ⟨_, rfl⟩
 obtain ⟨w, rfl⟩ : ∃ x, x = w0 := ⟨_, rfl⟩
 have hG := hG2
 have hB := Bx.cons hb4 (Bx.cons hb99 (Bx.nil u))
 have hF : Fr w [b4, b99] := ⟨fun b hb => by
  simp only [List.mem_cons, List.not_mem_nil, or_false] at hb
  rcases hb with rfl | rfl
  ·exact h04
  ·exact Hb.out, by simp; exact fun e => h994 e.symm⟩
 clear hG2 hb4 hb99
 (first | obtain ⟨⟨d0, d1, d2, d3, d4⟩, n0, n1, n2, n3⟩ := HrA.out u hG | have n0 := HrB.out u hG | obtain ⟨⟨d0, d1, d2, d3, d4⟩, ⟨n0, n1, n2, n3⟩, r0, ⟨x0, x1, x2, x3, x4⟩, y0, y1, y2, y3, y4⟩ := HrC.out u hG | obtain ⟨d4, x0, x1, x2, x3, x4⟩ := HrD.out u hG)
 refine r0N ?_
 generalize hu0 : World.setCell u _ _ = u0
 have KK1 := KK.trans (KepT.put (i := 6) (vs := [.int .i64 (lk1 : Nat)]) hB.tail.head hu0)
 have hown1 := own_over (i := 6) (vs := [.int .i64 (lk1 : Nat)]) hown (own_blk_other hown hB.tail.head (by decide)) hu0
 have hBG := over_n hB hF hG 1 rfl 6 [.int .i64 (lk1 : Nat)] hu0
 clear hB hG hu0 KK hown
 obtain ⟨hB, hG⟩ := hBG
 (try clear n0)
 clear u
 obtain ⟨u, rfl⟩ : ∃ x, x = u0 := ⟨_, rfl⟩
 have HS := Lib.hid (⟨hB.tail.head, hown1⟩ : SrW b99 w.heap.size (.slice (some ⟨bb, ob, none⟩) n RC) (.slice (some ⟨bN, oN, none⟩) m NC) (.slice (some ⟨bq, oq, none⟩) L QC) (.int .i64 (keep : Nat)) (.func (.func MF) #[] MC) HA HC hs lk1 u)
 have HKK := Lib.hid KK1
 clear hown1 KK1
 refine wp_seq ?_
 refine wp_rd (w := w) allocsT 17 [] [(0, 0), (0, 1), (0, 2), (0, 3), (0, 4), (0, 5), (0, 6), (0, 7), (0, 8), (0, 9), (0, 10), (0, 11), (0, 12), (0, 13), (0, 14), (0, 15), (1, 16)] (by kernel_rfl) (by kernel_rfl) (by simp only [List.drop_succ_cons, List.drop_zero]; exact rfl) (fun _ => True) noG hB hG trivial ?_
 intro K L hN hL
 simp only [pickOps, List.getElem?_toArray, List.getElem?_cons_zero, List.getElem?_cons_succ]
 repeat first | refine gya ?_ | refine gyr ?_ | refine gna ?_ | refine gyb (by (rintro v ⟨hgu, hB, hG, -⟩ N hN; have r := hB.r; simp only [BxR] at r; (first | obtain ⟨⟨d0, d1, d2, d3, d4⟩, n0, n1, n2, n3⟩ := HrA.out v hG | have n0 := HrB.out v hG | obtain ⟨⟨d0, d1, d2, d3, d4⟩, ⟨n0, n1, n2, n3⟩, r0, ⟨x0, x1, x2, x3, x4⟩, y0, y1, y2, y3, y4⟩ := HrC.out v hG | obtain ⟨d4, x0, x1, x2, x3, x4⟩ := HrD.out v hG); go_simp; exact hN)) ?_
 refine gmd (C := fun v ⟨hgu, hB, hG, _⟩ => Hhit.out _ hG) ?_
 refine gend ?_
 rintro v ⟨hgu, hB1, hG1, -⟩
 have HS2 := Lib.hid (HS.out.grow hgu)
 have HKK2 := Lib.hid (HKK.out.grow hgu)
 clear HS HKK
 clear hB hG
 have hB := hB1
 have hG := hG1
 clear hB1 hG1
 refine hL _ _ ?_
 clear hL L hgu
 obtain ⟨u, rfl⟩ : ∃ x, x = v := ⟨_, rfl⟩
 go_wp2_with (go_at_call 111; refine (Htk.out HA HC _ hG (HIk.out _ _ HKK2.out HI.out) HS2.out).mono ?_; rintro e w5 ⟨rfl, HA2, HC2, q0, q1, q2⟩)
 refine NoK.norm (hN _ _ ?_)
 clear hN K
 have hb4 := q1.blk _ _ _ (by decide) (by decide) hB.head
 have KK := HKK2.out.trans q1
 have hS3 : SrW b99 w.heap.size (.slice (some ⟨bb, ob, none⟩) n RC) (.slice (some ⟨bN, oN, none⟩) m NC) (.slice (some ⟨bq, oq, none⟩) L QC) (.int .i64 (keep : Nat)) (.func (.func MF) #[] MC) HA2 HC2 P0.1 P0.2 w5 := by rw [HP0.out]; exact q0
 have HrC := Lib.hid (fun W (hg : Grow w5 W) => And.intro (hS3.grow hg).cells (And.intro (show _ ∧ _ ∧ _ ∧ _ from ⟨(hb4.grow hg).cell 0, (hb4.grow hg).cell 1, (hb4.grow hg).cell 2, (hb4.grow hg).cell 3⟩) (And.intro (HrB.out W (q2.trans hg)) (And.intro (HXc.out W (q2.trans hg)) (HQc.out W (q2.trans hg))))))
 have HS := Lib.hid hS3
 have HKK := Lib.hid KK
 have HG2 := Lib.hid q2
 clear hB hG hF hb4 KK hS3 q0 q1 q2 HS2 HKK2 HrB HXc HQc Htk Hhit HP0
 obtain ⟨w0, rfl⟩ : ∃ x, x = w := ⟨_, rfl⟩
 obtain ⟨w, rfl⟩ : ∃ x, x = w5 := ⟨_, rfl⟩
 obtain ⟨u, hwu⟩ : ∃ x, x = w := ⟨_, rfl⟩
 have hB := Bx.nil u
 have hF := Fr.nil w
 have hG : Grow w u := hwu ▸ Grow.refl u
 rw [← hwu]
 clear hwu
 refine then_norm ?_
 refine wp_seq (rdC allocsT [] [(0, 0), (0, 1), (0, 2), (0, 3), (0, 4), (0, 5), (0, 6), (0, 7), (0, 8), (0, 9), (0, 10), (0, 11), (0, 12), (0, 13), (0, 14), (0, 15), (0, 16), (0, 17), (0, 18), (0, 19), (0, 20), (1, 21), (2, 22)] hB hG fun K L hN hL => ?_)
 repeat first | refine gya ?_ | refine gyr ?_ | refine gna ?_ | refine gyb (by (rintro v ⟨hgu, hB, hG, -⟩ N hN; have r := hB.r; simp only [BxR] at r; (first | obtain ⟨⟨d0, d1, d2, d3, d4⟩, n0, n1, n2, n3⟩ := HrA.out v hG | have n0 := HrB.out v hG | obtain ⟨⟨d0, d1, d2, d3, d4⟩, ⟨n0, n1, n2, n3⟩, r0, ⟨x0, x1, x2, x3, x4⟩, y0, y1, y2, y3, y4⟩ := HrC.out v hG | obtain ⟨d4, x0, x1, x2, x3, x4⟩ := HrD.out v hG); go_simp; exact hN)) ?_
 refine gmd (C := fun v ⟨hgu, hB, hG, _⟩ => Hsub.out _ (HG2.out.trans hG)) ?_
 refine gaa (newObj_Q _ _ _ _ _) fun b5 hb5 hn5 => ?_
 replace hF := hF.n1 [] hB hG hb5 hn5
 refine geC hL ?_
 clear hB hG hL L
 rintro u ⟨⟨-, hB, hG, -⟩, h5⟩
 replace hB := hB.cons' h5
 clear h5
 clear hb5 hn5
 refine gtT ?_
 clear hN K
 refine st hB hF hG 0 0 [_, _, _, _, _] ?_
 clear hB hG
 intro u hB hG
 refine wp_seq (rdC allocsT [] [(0, 0), (0, 1), (0, 2), (0, 3), (0, 4)] hB hG fun K L hN hL => ?_)
 repeat first | refine gya ?_ | refine gyr ?_ | refine gna ?_ | refine gyb (by (rintro v ⟨hgu, hB, hG, -⟩ N hN; have r := hB.r; simp only [BxR] at r; (first | obtain ⟨⟨d0, d1, d2, d3, d4⟩, n0, n1, n2, n3⟩ := HrA.out v hG | have n0 := HrB.out v hG | obtain ⟨⟨d0, d1, d2, d3, d4⟩, ⟨n0, n1, n2, n3⟩, r0, ⟨x0, x1, x2, x3, x4⟩, y0, y1, y2, y3, y4⟩ := HrC.out v hG | obtain ⟨d4, x0, x1, x2, x3, x4⟩ := HrD.out v hG); go_simp; exact hN)) ?_
 refine geC hL ?_
 clear hB hG hL L
 rintro u ⟨-, hB, hG, -⟩
 refine gtT ?_
 clear hN K
 refine wp_seqK fun Kj hKj => ?_
 go_cut [6, 7] from 69 to 73 (fun s6 s7 wx => s6 = .int .i64 v1 ∧ s7 = .int .i64 v2 ∧ Bx wx [(b5, 49, #[.bool (intNeg G.num), .int .u64 (natLo G.num.natAbs), .string (natMo G.num.natAbs), .int .u64 (natLo (keptDen G.den)), .string (natMo (keptDen G.den))])] ∧ Grow w wx)
 case first =>
  rename_i Jj Kk hJj hMj
  cases g with
  | true =>
   have Hw := Lib.hid (show v1 = nt ∧ v2 = nl from ⟨by rw [Hv.out.1]; rfl, by rw [Hv.out.2]; rfl⟩)
   clear Hv
   refine wp_seq (rsE allocsT [0, 1, 0] hB hG fun L hL => ?_)
   repeat first | refine gya ?_ | refine gyr ?_ | refine gna ?_ | refine gyb (by (rintro v ⟨hgu, hB, hG, -⟩ N hN; have r := hB.r; simp only [BxR] at r; (first | obtain ⟨⟨d0, d1, d2, d3, d4⟩, n0, n1, n2, n3⟩ := HrA.out v hG | have n0 := HrB.out v hG | obtain ⟨⟨d0, d1, d2, d3, d4⟩, ⟨n0, n1, n2, n3⟩, r0, ⟨x0, x1, x2, x3, x4⟩, y0, y1, y2, y3, y4⟩ := HrC.out v hG | obtain ⟨d4, x0, x1, x2, x3, x4⟩ := HrD.out v hG); go_simp; exact hN)) ?_
   refine gmw (C := fun v => Hsgn.out _) ?_
   refine gs ?_
   refine geT hL ?_
   clear hB hG hL L
   rintro u ⟨-, hB, hG, -⟩
   refine wp_cond_true (rfl) ?_
   refine r0N ?_
   refine hMj _ _ (Met.intro (hJj _ _ ?_))
   repeat apply Exists.intro
   refine ⟨?rel, rfl⟩
   case rel =>
    exact ⟨by rw [Hw.out.1], by rw [Hw.out.2], hB, hG⟩
  | false =>
   have Hw := Lib.hid (show v1 = nl ∧ v2 = nt from ⟨by rw [Hv.out.1]; rfl, by rw [Hv.out.2]; rfl⟩)
   clear Hv
   refine wp_seq (rsE allocsT [0, 1, 0] hB hG fun L hL => ?_)
   repeat first | refine gya ?_ | refine gyr ?_ | refine gna ?_ | refine gyb (by (rintro v ⟨hgu, hB, hG, -⟩ N hN; have r := hB.r; simp only [BxR] at r; (first | obtain ⟨⟨d0, d1, d2, d3, d4⟩, n0, n1, n2, n3⟩ := HrA.out v hG | have n0 := HrB.out v hG | obtain ⟨⟨d0, d1, d2, d3, d4⟩, ⟨n0, n1, n2, n3⟩, r0, ⟨x0, x1, x2, x3, x4⟩, y0, y1, y2, y3, y4⟩ := HrC.out v hG | obtain ⟨d4, x0, x1, x2, x3, x4⟩ := HrD.out v hG); go_simp; exact hN)) ?_
   refine gmw (C := fun v => Hsgn.out _) ?_
   refine gs ?_
   refine geT hL ?_
   clear hB hG hL L
   rintro u ⟨-, hB, hG, -⟩
   refine wp_cond_false (rfl) ?_
   refine wp_skip ?_
   refine then_norm ?_
   refine hMj _ _ (Met.intro (hJj _ _ ?_))
   repeat apply Exists.intro
   refine ⟨?rel, rfl⟩
   case rel =>
    exact ⟨by rw [Hw.out.1], by rw [Hw.out.2], hB, hG⟩
 case rest =>
  clear hB hG
  obtain ⟨rfl, rfl, hB, hG⟩ := hcut
  obtain ⟨u, rfl⟩ : ∃ x, x = wc := ⟨_, rfl⟩
  refine hKj _ _ ?_
  clear hKj Kj
  refine wp_seqK fun Kj hKj => ?_
  go_cut [] from 74 to 78 (fun wx => ∃ (HA3 : Option Addr) (HC3 : Nat), SrW b99 w0.heap.size (.slice (some ⟨bb, ob, none⟩) n RC) (.slice (some ⟨bN, oN, none⟩) m NC) (.slice (some ⟨bq, oq, none⟩) L QC) (.int .i64 (keep : Nat)) (.func (.func MF) #[] MC) HA3 HC3 P1.1 P1.2 wx ∧ KepT w1 wx ∧ Grow w0 wx ∧ Blk wx b5 49 #[.bool (intNeg G.num), .int .u64 (natLo G.num.natAbs), .string (natMo G.num.natAbs), .int .u64 (natLo (keptDen G.den)), .string (natMo (keptDen G.den))])
  case first =>
   rename_i Jj Kk hJj hMj
   rcases Nat.eq_zero_or_pos S1.size with hs1z | hs1p
   ·have f1 : v1 = 0 := by rw [HvS.out.1, if_pos hs1z]
    have f1b : (v1 != 0) = false := by simp [f1]
    have HP10 := Lib.hid (Hz.out.1 hs1z)
    clear hs1z f1
    refine r0T ?_
    refine wp_cond_false (rfl) ?_
    refine wp_skip ?_
    refine then_norm ?_
    refine hMj _ _ (Met.intro (hJj _ _ ?_))
    repeat apply Exists.intro
    refine ⟨?rel, rfl⟩
    case rel =>
     exact ⟨HA2, HC2, by rw [HP10.out]; exact HS.out.grow hG, HKK.out.grow hG, HG2.out.trans hG, hB.head⟩
   ·have f1 : v1 = (k1 : Int) := by rw [HvS.out.1, if_neg (by omega)]
    have hk1p := Hkp.out.1
    have f1b : (v1 != 0) = true := by simp; omega
    have Hvv := Lib.hid (Hv1.out HA2 HC2 u hs1p (HG2.out.trans hG) (HIk.out _ _ (HKK.out.grow hG) HI.out) Hi0.out (by have h1 := HP02.out; have h2 := Hsz.out; omega) (HS.out.grow hG))
    clear hs1p hk1p
    subst f1
    refine r0T ?_
    refine wp_cond_true (rfl) ?_
    clear f1b
    refine wp_r0 ?_
    intro K hN
    go_wp2_with (go_at_call 73; refine Hvv.out.mono ?_; rintro e w5 ⟨rfl, HA3, HC3, q0, q1, q2⟩)
    refine NoK.norm (hN _ _ ?_)
    clear hN K
    refine then_norm ?_
    refine hMj _ _ (Met.intro (hJj _ _ ?_))
    repeat apply Exists.intro
    refine ⟨?rel, rfl⟩
    case rel =>
     exact ⟨HA3, HC3, q0, (HKK.out.grow hG).trans q1, q2, q1.blk _ _ _ (by decide) (by decide) hB.head⟩
  case rest =>
   clear hB hG hF HS HKK HG2 HrC
   obtain ⟨HA3, HC3, hS4, hK4, hG4, hb5⟩ := hcut
   have HrD := Lib.hid (fun W (hg : Grow wc W) => And.intro (hS4.grow hg).cells.2.2.2.2 (blkq5 (hb5.grow hg)))
   have HS4 := Lib.hid hS4
   have HK4 := Lib.hid hK4
   have HG4 := Lib.hid hG4
   clear hS4 hK4 hG4 hb5 u
   obtain ⟨w2, rfl⟩ : ∃ x, x = w := ⟨_, rfl⟩
   obtain ⟨w, rfl⟩ : ∃ x, x = wc := ⟨_, rfl⟩
   obtain ⟨u, hwu⟩ : ∃ x, x = w := ⟨_, rfl⟩
   have hB := Bx.nil u
   have hF := Fr.nil w
   have hG : Grow w u := hwu ▸ Grow.refl u
   rw [← hwu]
   clear hwu
   refine hKj _ _ ?_
   clear hKj Kj
   refine wp_seq ?_
   refine r0T ?_
   refine wp_cond_split rfl ?_ ?_
   ·intro ht
    have ht80 := ht
    have h0 : v2 = 0 := by simpa using ht80
    have hs : S2.size = 0 := by
     rcases Nat.eq_zero_or_pos S2.size with h | h
     ·exact h
     ·have h1 := HvS.out.2
      have h2 := Hkp.out.2
      rw [if_neg (by omega)] at h1
      omega
    have Hs2 := Lib.hid hs
    clear h0 hs ht80
    refine rt Tryz.results73 ?_
    exact ⟨rfl, HA3, HC3, by rw [Hz.out.2 Hs2.out, ite_self]; exact HS4.out.grow hG, HK4.out.grow hG, HG4.out.trans hG⟩
   ·intro ht
    have ht80 := ht
    have h0 : v2 ≠ 0 := by simpa using ht80
    have hs2p : 0 < S2.size := by
     rcases Nat.eq_zero_or_pos S2.size with h | h
     ·have h1 := HvS.out.2
      rw [if_pos h] at h1
      exact absurd h1 h0
     ·exact h
    have f2 : v2 = (k2 : Int) := by rw [HvS.out.2, if_neg (by omega)]
    have Hs2 := Lib.hid hs2p
    clear h0 ht80 ht hs2p
    subst f2
    refine wp_skip ?_
    refine then_norm ?_
    refine wp_seq (rsC allocsT [0, 0, 0, 0, 1, 0, 0, 0, 2] hB hG fun K L hN hL => ?_)
    repeat first | refine gya ?_ | refine gyr ?_ | refine gna ?_ | refine gyb (by (rintro v ⟨hgu, hB, hG, -⟩ N hN; have r := hB.r; simp only [BxR] at r; (first | obtain ⟨⟨d0, d1, d2, d3, d4⟩, n0, n1, n2, n3⟩ := HrA.out v hG | have n0 := HrB.out v hG | obtain ⟨⟨d0, d1, d2, d3, d4⟩, ⟨n0, n1, n2, n3⟩, r0, ⟨x0, x1, x2, x3, x4⟩, y0, y1, y2, y3, y4⟩ := HrC.out v hG | obtain ⟨d4, x0, x1, x2, x3, x4⟩ := HrD.out v hG); go_simp; exact hN)) ?_
    refine gmd (C := fun v ⟨hgu, hB, hG, _⟩ => Hmo.out HA3 HC3 _ (HG4.out.trans hG) (HIk.out _ _ (HK4.out.grow hG) HI.out) (HS4.out.grow hG)) ?_
    refine gs ?_
    refine gaa (newObj_Q _ _ _ _ _) fun b8 hb8 hn8 => ?_
    replace hF := hF.n1 [] hB hG hb8 hn8
    refine geC hL ?_
    clear hB hG hL L
    rintro u ⟨⟨-, hB, hG, -⟩, h8⟩
    replace hB := hB.cons' h8
    clear h8
    clear hb8 hn8
    refine gtT ?_
    clear hN K
    refine st hB hF hG 0 0 [_, _, _, _, _] ?_
    clear hB hG
    intro u hB hG
    refine wp_seqK fun Kj hKj => ?_
    go_cut [98] from 89 to 97 (fun s98 wx => s98 = .bool go ∧ Grow w wx)
    case first =>
     rename_i Jj Kk hJj hMj
     cases ok with
     | false =>
      have Hg2 := Lib.hid (show go = true by rw [Hgo.out]; rfl)
      clear Hgo Hcm
      refine rdC allocsT [] [(0, 0), (0, 1), (0, 2), (0, 3), (0, 4), (0, 6), (1, 5), (1, 7), (0, 8)] hB hG fun K L hN hL => ?_
      repeat first | refine gya ?_ | refine gyr ?_ | refine gna ?_ | refine gyb (by (rintro v ⟨hgu, hB, hG, -⟩ N hN; have r := hB.r; simp only [BxR] at r; (first | obtain ⟨⟨d0, d1, d2, d3, d4⟩, n0, n1, n2, n3⟩ := HrA.out v hG | have n0 := HrB.out v hG | obtain ⟨⟨d0, d1, d2, d3, d4⟩, ⟨n0, n1, n2, n3⟩, r0, ⟨x0, x1, x2, x3, x4⟩, y0, y1, y2, y3, y4⟩ := HrC.out v hG | obtain ⟨d4, x0, x1, x2, x3, x4⟩ := HrD.out v hG); go_simp; exact hN)) ?_
      first | refine gmd (C := fun v ⟨hgu, hB, hG, _⟩ => Hmul.out _ (HG4.out.trans hG)) ?_ | refine gmna ?_
      first | refine gmw (C := fun v => Hcm2.out _) ?_ | refine gmna ?_
      refine gs ?_
      refine geC hL ?_
      clear hB hG hL L
      rintro u ⟨-, hB, hG, -⟩
      refine gtT ?_
      clear hN K
      refine hMj _ _ (Met.intro (hJj _ _ ?_))
      repeat apply Exists.intro
      refine ⟨?rel, rfl⟩
      case rel =>
       exact ⟨by rw [Hg2.out], hG⟩
     | true =>
      have Hcm2 := Lib.hid (Hcm.out rfl)
      have Hg2 := Lib.hid (show go = decide (P ≤ 0) by rw [Hgo.out]; rfl)
      clear Hgo Hcm
      by_cases hP : P ≤ 0
      ·have fP : decide (P ≤ 0) = true := decide_eq_true hP
       clear hP
       refine rdC allocsT [] [(0, 0), (0, 1), (0, 2), (0, 3), (0, 4), (0, 6), (1, 5), (1, 7), (0, 8)] hB hG fun K L hN hL => ?_
       repeat first | refine gya ?_ | refine gyr ?_ | refine gna ?_ | refine gyb (by (rintro v ⟨hgu, hB, hG, -⟩ N hN; have r := hB.r; simp only [BxR] at r; (first | obtain ⟨⟨d0, d1, d2, d3, d4⟩, n0, n1, n2, n3⟩ := HrA.out v hG | have n0 := HrB.out v hG | obtain ⟨⟨d0, d1, d2, d3, d4⟩, ⟨n0, n1, n2, n3⟩, r0, ⟨x0, x1, x2, x3, x4⟩, y0, y1, y2, y3, y4⟩ := HrC.out v hG | obtain ⟨d4, x0, x1, x2, x3, x4⟩ := HrD.out v hG); go_simp; exact hN)) ?_
       first | refine gmd (C := fun v ⟨hgu, hB, hG, _⟩ => Hmul.out _ (HG4.out.trans hG)) ?_ | refine gmna ?_
       first | refine gmw (C := fun v => Hcm2.out _) ?_ | refine gmna ?_
       refine gs ?_
       refine geC hL ?_
       clear hB hG hL L
       rintro u ⟨-, hB, hG, -⟩
       refine gtT ?_
       clear hN K
       refine hMj _ _ (Met.intro (hJj _ _ ?_))
       repeat apply Exists.intro
       refine ⟨?rel, rfl⟩
       case rel =>
        exact ⟨by rw [Hg2.out, fP], hG⟩
      ·have fP : decide (P ≤ 0) = false := decide_eq_false hP
       clear hP
       refine rdC allocsT [] [(0, 0), (0, 1), (0, 2), (0, 3), (0, 4), (0, 6), (1, 5), (1, 7), (0, 8)] hB hG fun K L hN hL => ?_
       repeat first | refine gya ?_ | refine gyr ?_ | refine gna ?_ | refine gyb (by (rintro v ⟨hgu, hB, hG, -⟩ N hN; have r := hB.r; simp only [BxR] at r; (first | obtain ⟨⟨d0, d1, d2, d3, d4⟩, n0, n1, n2, n3⟩ := HrA.out v hG | have n0 := HrB.out v hG | obtain ⟨⟨d0, d1, d2, d3, d4⟩, ⟨n0, n1, n2, n3⟩, r0, ⟨x0, x1, x2, x3, x4⟩, y0, y1, y2, y3, y4⟩ := HrC.out v hG | obtain ⟨d4, x0, x1, x2, x3, x4⟩ := HrD.out v hG); go_simp; exact hN)) ?_
       first | refine gmd (C := fun v ⟨hgu, hB, hG, _⟩ => Hmul.out _ (HG4.out.trans hG)) ?_ | refine gmna ?_
       first | refine gmw (C := fun v => Hcm2.out _) ?_ | refine gmna ?_
       refine gs ?_
       refine geC hL ?_
       clear hB hG hL L
       rintro u ⟨-, hB, hG, -⟩
       refine gtT ?_
       clear hN K
       refine hMj _ _ (Met.intro (hJj _ _ ?_))
       repeat apply Exists.intro
       refine ⟨?rel, rfl⟩
       case rel =>
        exact ⟨by rw [Hg2.out, fP], hG⟩
    case rest =>
     clear hB hG
     obtain ⟨rfl, hG⟩ := hcut
     obtain ⟨u, rfl⟩ : ∃ x, x = wc := ⟨_, rfl⟩
     have hB := Bx.nil u
     refine hKj _ _ ?_
     clear hKj Kj
     refine wp_cond_split rfl ?_ ?_
     ·intro ht
      have ht98 := ht
      have Hvv := Lib.hid (Hv2.out HA3 HC3 u Hs2.out (HG4.out.trans hG) (HIk.out _ _ (HK4.out.grow hG) HI.out) Hi1.out.1 (by have h1 := Hi1.out.2; have h2 := Hsz.out; omega) (HS4.out.grow hG))
      replace ht98 := Lib.hid ht98
      clear ht
      refine wp_r0 ?_
      intro K hN
      go_wp2_with (go_at_call 73; refine Hvv.out.mono ?_; rintro e w5 ⟨rfl, HA5, HC5, q0, q1, q2⟩)
      refine NoK.norm (hN _ _ ?_)
      clear hN K
      first
       | exact end_b rfl (results_none rfl _ _ _) ⟨rfl, HA5, HC5, by rw [ht98.out, if_pos rfl]; exact q0, (HK4.out.grow hG).trans q1, q2⟩
       | exact end_b rfl (results_none rfl _ _ _) ⟨rfl, HA3, HC3, by rw [ht98.out, if_neg (by decide)]; exact HS4.out.grow hG, HK4.out.grow hG, HG4.out.trans hG⟩
     ·intro ht
      have ht98 := ht
      replace ht98 := Lib.hid ht98
      clear ht
      refine wp_skip ?_
      first
       | exact end_b rfl (results_none rfl _ _ _) ⟨rfl, HA5, HC5, by rw [ht98.out, if_pos rfl]; exact q0, (HK4.out.grow hG).trans q1, q2⟩
       | exact end_b rfl (results_none rfl _ _ _) ⟨rfl, HA3, HC3, by rw [ht98.out, if_neg (by decide)]; exact HS4.out.grow hG, HK4.out.grow hG, HG4.out.trans hG⟩
end Go.Proofs.YtjmopgepnndckaaGreatDoor
