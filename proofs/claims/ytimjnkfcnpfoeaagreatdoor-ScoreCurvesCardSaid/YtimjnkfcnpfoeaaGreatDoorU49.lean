/-
  Contracts and laws: Curves.
-/
import Derived.Test.YtimjnkfcnpfoeaaGreatDoorU14
import Derived.Test.YtimjnkfcnpfoeaaGreatDoorU48
set_option linter.unusedSimpArgs false
set_option linter.unusedVariables false
namespace Go.Proofs.YtimjnkfcnpfoeaaGreatDoor
open Go Go.RowKit
theorem RowsZ.mono {B B' : Nat} {W : World} {rws : List Zw} (h : RowsZ B W rws) (hB : B' ≤ B) : RowsZ B' W rws := ⟨fun r hr => ⟨(h.1 r hr).1, (h.1 r hr).2.mono hB⟩, h.2⟩
theorem rowQ_szC (l : List Int) (n : Nat) : ∀ x ∈ rowQ l n, qs x ≤ 50 := rowQ_szA l n
theorem rowsQ_sz (l : List Int) (n k : Nat) : ∀ q ∈ rowsQ l n k, q.length = k ∧ ∀ x ∈ q, qs x ≤ 50 := fun q hq => by
 unfold rowsQ at hq
 obtain ⟨i, -, rfl⟩ := List.mem_map.1 hq
 exact ⟨rowQ_len _ _, rowQ_szC _ _⟩
theorem rowsV_eq (rws : List Zw) : (rws.map fun r => ((r.1.1, r.1.2, r.2.map (·.2)) : Rq)).map (·.2.2) = rowsV rws := by unfold rowsV; rw [List.map_map]; rfl
/-- b, with or without one more -/
theorem rowAdd_sz {P : List Rat} (h : ∀ x ∈ P, qs x ≤ 50) : ∀ x ∈ P ++ [qint 1], qs x ≤ 50 := fun x hx => by
 rcases List.mem_append.1 hx with hx | hx
 ·exact h x hx
 ·have : x = qint 1 := by simpa using hx
  rw [this]
  exact Nat.le_trans (qint_sz 1 (by omega)) (by omega)
/-- the rows, the last one with one number more -/
def rowsM (RS : List (List Rat)) (n : Nat) : List (List Rat) := RS.set (n - 1) (rowAt RS (n - 1) ++ [qint 0])
theorem rowsM_ok {RS : List (List Rat)} {n k : Nat} (hr : RS.length = n) (h2 : 2 ≤ n) (hk : ∀ q ∈ RS, q.length = k ∧ ∀ x ∈ q, qs x ≤ 50) :
  (rowsM RS n).length = n ∧ (∀ q ∈ rowsM RS n, ∀ x ∈ q, qs x ≤ 50) ∧ ∀ i q, (rowsM RS n)[i]? = some q → q.length = if i + 1 = n then k + 1 else k := by
 have e : rowAt RS (n - 1) = RS[n - 1]'(by omega) := by unfold rowAt; rw [List.getElem?_eq_getElem (by omega)]; rfl
 have hl := hk _ (List.getElem_mem (show n - 1 < RS.length by omega))
 refine ⟨by unfold rowsM; rw [List.length_set, hr], fun q hq x hx => ?_, fun i q hi => ?_⟩
 ·unfold rowsM at hq
  rcases List.mem_or_eq_of_mem_set hq with h | rfl
  ·exact (hk q h).2 x hx
  ·rw [e] at hx
   rcases List.mem_append.1 hx with hx | hx
   ·exact hl.2 x hx
   ·have : x = qint 0 := by simpa using hx
    rw [this, show qint 0 = 0 from rfl, qs_zero]
    omega
 ·unfold rowsM at hi
  rw [List.getElem?_set] at hi
  split at hi
  ·rename_i h1
   split at hi
   ·cases hi
    rw [if_pos (by omega), e, List.length_append, hl.1]
    rfl
   ·cases hi
  ·rename_i h1
   have hil : i < RS.length := (List.getElem?_eq_some_iff.1 hi).1
   rw [if_neg (by omega)]
   exact (hk q (List.mem_of_getElem? hi)).1
/-- the curve's points in memory, if there are any -/
def PtE (L no yes : Nat) (pts : List (Nat × Nat)) (A : Option Addr) (W : World) : Prop := 0 < L → ∃ g, A = some ⟨g, 0, none⟩ ∧ Ptl W g no yes pts
theorem PtE.grow {L no yes : Nat} {pts : List (Nat × Nat)} {A : Option Addr} {u u' : World} (hg : Grow u u') (h : PtE L no yes pts A u) : PtE L no yes pts A u' := fun hl => (h hl).imp fun _ hh => ⟨hh.1, Ptl.grow hg hh.2⟩
def RtE (L no yes : Nat) (pts : List (Nat × Nat)) (A : Option Addr) (W : World) : Prop := 0 < L → ∃ g, A = some ⟨g, 0, none⟩ ∧ g < W.heap.size ∧ Lz W (some ⟨g, 0, none⟩) (flatP no yes pts)
theorem RtE.grow {L no yes : Nat} {pts : List (Nat × Nat)} {A : Option Addr} {u u' : World} (hg : Grow u u') (h : RtE L no yes pts A u) : RtE L no yes pts A u' := fun hl => (h hl).imp fun _ hh => ⟨hh.1, Nat.lt_of_lt_of_le hh.2.1 hg.size, hh.2.2.grow hg⟩
theorem cz_three {W : World} {b o : Nat} {p : Az} {q : Rat} (h : Cz W b (o + 3) p q) : W.cell? ⟨b, o + 3, none⟩ = some (.bool (intNeg q.num)) ∧ W.cell? ⟨b, o + 4, none⟩ = some (.slice p.1.1 (ln q.num.natAbs) p.1.2) ∧ W.cell? ⟨b, o + 5, none⟩ = some (.slice p.2.1 (ln q.den) p.2.2) := h
/-- the last row's cell may be written when the row has grown -/
theorem rows_here {w u w' : World} {rws : List Zw} {n n1 g cap : Nat} {r : Zw} (hl : rws.length = n) (hR : RowsZ w.heap.size u rws) (ho : u.ownsRow w.heap.size 65 1 (.slice (some ⟨g, 0, none⟩) n cap) n (rws.map zwV))
  (hr : rws[n1]? = some r) (g2 : u.grownBy w' (zwV r).ownBlock) : w'.cell? ⟨g, n1, none⟩ = some (zwV r) ∧ w'.frozen? ⟨g, n1, none⟩ = false := by
 have hrr := hR.idx n1 r hr
 have hlt : n1 < n := by
  have := (List.getElem?_eq_some_iff.1 hr).1
  omega
 have hro : w'.ownsRow w.heap.size 65 1 (.slice (some ⟨g, 0, none⟩) n cap) n (rws.map zwV) := ho.kept g2 (by
  cases hb : (zwV r).ownBlock with
  | none => exact .inr (by simp [Value.ownBlock])
  | some k => exact .inr fun e1 => apart_types hrr.2 ho (by decide) k hb e1)
 refine ⟨by rw [hro.cellAt n1 (by omega), List.getElem?_map, hr]; rfl, ?_⟩
 obtain ⟨_, h | ⟨g', cap', cur, e, hb, hh, -⟩⟩ := hro
 ·cases h.1
 ·cases e
  exact Blk.frozen hh n1
set_option maxHeartbeats 16000000 in
set_option maxRecDepth 100000 in
theorem law9_ScoreCurves (A : Option Addr) (la : List Bool) (ca : Nat) (B : Option Addr) (lb : List Int) (cb : Nat) (C : Option Addr) (lc : List Int) (cc : Nat) (D : Option Addr) (ld : List Int) (cd : Nat) (z : Int)
  (hla : la.length ≤ 9223372036854775807) (hac : la.length ≤ ca) (hlb : lb.length ≤ 9223372036854775807) (hbb : ∀ x ∈ lb, -9223372036854775808 ≤ x ∧ x ≤ 9223372036854775807) (hlc : lc.length ≤ 9223372036854775807) (hbc : ∀ x ∈ lc, -9223372036854775808 ≤ x ∧ x ≤ 9223372036854775807)
  (hld : ld.length ≤ 9223372036854775807) (hdc : ld.length ≤ cd) (hbd : ∀ x ∈ ld, -9223372036854775808 ≤ x ∧ x ≤ 9223372036854775807) (hz0 : -9223372036854775808 ≤ z) (hz1 : z ≤ 9223372036854775807)
  (w : World) (h1 : Lb w A la) (h2 : Li w B lb) (h3 : Li w C lc) (h4 : Li w D ld) (HT : Tab w) :
  Calls Tryz.prog 9 #[.slice A la.length ca, .slice B lb.length cb, .slice C lc.length cc, .slice D ld.length cd, .int .i64 z] w fun e w' => e = .returned (.bool true) ∧ Grow w w' := by
 obtain ⟨m, hm⟩ : ∃ m, m = min la.length 20 := ⟨_, rfl⟩
 obtain ⟨A', hsl, hA', hla'⟩ := cut_bools A la ca m hm hac w h1
 obtain ⟨pa, hpa⟩ : ∃ p, p = la.length := ⟨_, rfl⟩
 obtain ⟨pb, hpb⟩ : ∃ p, p = lb.length := ⟨_, rfl⟩
 obtain ⟨pc, hpc⟩ : ∃ p, p = lc.length := ⟨_, rfl⟩
 obtain ⟨pd, hpd⟩ : ∃ p, p = ld.length := ⟨_, rfl⟩
 rw [← hpa] at hsl hm ⊢
 rw [← hpb, ← hpc, ← hpd]
 have hm20 : m ≤ 20 := by omega
 have fmin : min (pa : Int) 20 = (m : Int) := by omega
 generalize la.take m = is at hA' hla'
 have hBB : 100000000 ≤ BIG := by unfold BIG; omega
 have hBI := BIG_le
 have hLIM : LIM = 1099511627760 := rfl
 have hR1 : ∀ W, Grow w W → Calls Tryz.prog 27 #[.slice B pb cb, .int .i64 m] W (RetY (fun x : Zw => .slice x.1.1 m x.1.2) (fun x W' => RowZ1 w.heap.size m (rowQ lb m) x W') W) := fun W hg =>
  (hand_RowO B lb cb pb m hpb (by omega) (by omega) hbb W (h2.grow hg)).mono fun e w' ⟨v, ps, he, h1, h2, h3, h4⟩ => by
   obtain ⟨A2, cc, rfl, hcc1, hcc2, hL, hkl⟩ := own_lz h3 h2
   refine ⟨((A2, cc), ps), he, ⟨⟨h1, hkl.symm⟩, h2, ?_⟩, h4⟩
   rw [hkl] at h3
   exact h3.mono hg.size
 have sP := rowQ_szC lb m
 have lP := rowQ_len lb m
 generalize rowQ lb m = P at *
 have hI1 : ∀ (Q : List Rat) (N : Nat), Q.length = N → N ≤ 21 → (∀ x ∈ Q, qs x ≤ 50) → ∀ (W : World) (X : Ax), Lz W X.1 Q → Tab W → Calls Tryz.prog 28 #[.slice X.1 N X.2] W (RetY (fun x : Ax => .slice x.1 N x.2) (fun x W => Lq W x.1 Q) W) := fun Q N hQ hN hs W X hX hT =>
  (hand_InRow X.1 Q X.2 N hQ.symm (by omega) (fun x hx => Nat.le_trans (hs x hx) (by omega)) W hX hT).mono fun e w' ⟨A', c', he, h, hg'⟩ => ⟨(A', c'), he, h, hg'⟩
 have hpC := fun Q N hQ hs => pair_Curve is Q m N hla' hQ hm20 hs
 obtain ⟨n, hn⟩ : ∃ n, n = min pc 8 := ⟨_, rfl⟩
 have hn8 : n ≤ 8 := by omega
 have fmin8 : min (pc : Int) 8 = (n : Int) := by omega
 obtain ⟨r1, r2⟩ := pick_range z (m := 5) (by omega)
 have hpk := fun W => hand_PickG z 5 (by omega) (by omega) W
 obtain ⟨k, hk⟩ : ∃ k : Nat, pick z 5 = (k : Int) := ⟨(pick z 5).toNat, by omega⟩
 rw [hk] at r1 r2 hpk
 have hk5 : k ≤ 5 := by omega
 obtain ⟨KK, hKK⟩ : ∃ KK : Nat, max 1 (k : Int) = (KK : Int) := ⟨(max 1 (k : Int)).toNat, by omega⟩
 have hK1 : 0 < KK ∧ KK ≤ 5 := by omega
 have hin : ∀ W, Grow w W → Calls Tryz.prog 11 #[.slice C pc cc, .int .i64 n, .int .i64 KK] W (RetY (fun x : Ax => .slice x.1 n x.2) (fun x W => Li W x.1 (clsL lc KK n)) W) := fun W hg => law9_ints C lc cc pc n KK hpc (by omega) (by omega) hK1.1 (by omega) W (h3.grow hg)
 have lW := clsL_len lc KK n
 generalize clsL lc KK n = lw at *
 have hrw : ∀ B0 W, Grow w W → B0 ≤ W.heap.size → Calls Tryz.prog 54 #[.slice D pd cd, .int .i64 n, .int .i64 k] W (RetY (fun x : Ax × List Zw => .slice x.1.1 n x.1.2) (fun x W' => (rowsV x.2 = rowsQ ld n k ∧ x.2.length = n) ∧ RowsZ B0 W' x.2 ∧ W'.ownsRow B0 65 1 (.slice x.1.1 n x.1.2) n (x.2.map zwV)) W) := fun B0 W hg hB0 =>
  (hand_Rows D ld cd pd n k hpd (by omega) (by omega) (by omega) (by omega) hbd W (h4.grow hg)).mono fun e w' ⟨v, rws, he, e1, e2, e3, hg'⟩ => by
   obtain ⟨A2, c2, rfl, -, -, hkl⟩ := own_lrz e3 e2.idx
   exact ⟨((A2, c2), rws), he, ⟨⟨e1, hkl.symm⟩, e2.mono hB0, e3.mono hB0⟩, hg'⟩
 have hRq := rowsQ_sz ld n k
 have hRl := rowsQ_len ld n k
 generalize rowsQ ld n k = RS at *
 have hI2 : ∀ (W : World) (X : Ax) (rs : List Rq), rs.length = n → (∀ r ∈ rs, r.2.2.length ≤ 6 ∧ ∀ x ∈ r.2.2, qs x ≤ 50) → Lrz W X.1 rs → Tab W → Calls Tryz.prog 55 #[.slice X.1 n X.2] W (RetY (fun x : Ax × List Rq => .slice x.1.1 n x.1.2) (fun x W' => x.2.map (·.2.2) = rs.map (·.2.2) ∧ Lrq W' x.1.1 x.2) W) := fun W X rs hrs hss hX hT =>
  (hand_InRows X.1 rs X.2 n hrs.symm (by omega) (fun r hr => ⟨Nat.le_trans (hss r hr).1 (by omega), fun x hx => Nat.le_trans ((hss r hr).2 x hx) (by omega)⟩) W hX hT).mono fun e w' ⟨v, rs', he, e1, e2, e3, hg'⟩ => by
   obtain ⟨A2, c2, rfl, -, hL, -⟩ := own_lrq e3 e2
   exact ⟨((A2, c2), rs'), he, ⟨e1, hL⟩, hg'⟩
 have hpB := fun RS' (h1 : RS'.length = n) h2 h3 => pair_Brier n k lw RS' lW h1 hn8 hk5 h2 h3
 have hA : AllZ w [] := AllZ.nil _
 have HA := Lib.hid hA'
 have HR1 := Lib.hid hR1
 have HI1 := Lib.hid hI1
 have HI2 := Lib.hid hI2
 have HpC := Lib.hid hpC
 have HpB := Lib.hid hpB
 have Hpk := Lib.hid hpk
 have Hin := Lib.hid hin
 have Hrw := Lib.hid hrw
 have HRq := Lib.hid hRq
 have SP := Lib.hid sP
 have LP := Lib.hid lP
 have HRl := Lib.hid hRl
 have H2 := Lib.hid h2
 have Hpb := Lib.hid hpb
 clear hA' hR1 hI1 hI2 hpC hpB hpk hin hrw hRq sP lP hRl h1 h2 h3 h4 hm hpa hpb hpc hpd hla hac hlb hbb hlc hbc hld hdc hbd hz0 hz1 hla' hn hk lW hK1 r1 r2
 go_enter Tryz.func9, Tryz.ntmps9
 refine en0 ?_
 intro u hG hB hF
 replace hA := hA.grow hG
 refine r0T ?_
 clear hsl
 refine wp_seq (rsE allocs2 [0, 0, 0, 1, 0] hB hG fun L hL => ?_)
 refine gs ?_
 refine gxd (X := Zw) (fun x : Zw => .slice x.1.1 m x.1.2) (fun x W => RowZ1 w.heap.size m P x W) (fun x u u' hg h => RowZ1.grow hg h) (fun x36 => ?_) (C := by (rintro v ⟨hgu, hB, hG, -⟩; exact HR1.out _ hG))
 refine gs ?_
 refine geT hL ?_
 clear hB hG hL L
 rintro u ⟨⟨hgu, hB, hG, -⟩, hx36⟩
 replace hA := hA.grow hgu
 clear hgu
 clear hA
 obtain ⟨⟨RA, RC⟩, rps⟩ := x36
 obtain ⟨⟨hv, hlen⟩, hA, ho⟩ := hx36
 simp only [zwV] at ho hlen hv hA
 rw [hlen] at ho
 have Ho := Lib.hid ho
 clear ho HR1
 refine wp_seqK fun Kj hKj => ?_
 go_cut [11] from 37 to 50 (fun s11 wx => ∃ (RA : Option Addr) (RC m1 : Nat) (Q : List Rat), s11 = .slice RA m1 RC ∧ Q.length = m1 ∧ m1 ≤ 21 ∧ (∀ x ∈ Q, qs x ≤ 50) ∧ Lz wx RA Q ∧ Grow w wx)
 case first =>
  rename_i Jj Kk hJj hMj
  rcases Nat.eq_zero_or_pos pb with hpb0 | hpb0
  ·obtain rfl := hpb0
   refine r0T ?_
   refine wp_cond_false (rfl) ?_
   refine wp_skip ?_
   refine then_norm ?_
   refine hMj _ _ (Met.intro (hJj _ _ ?_))
   repeat apply Exists.intro
   refine ⟨?rel, rfl⟩
   case rel =>
    obtain ⟨RA2, RC2, e2, -, -, hL, -⟩ := own_lz Ho.out hA
    cases e2
    rw [hv] at hL
    exact ⟨RA, RC, m, P, rfl, LP.out, by omega, SP.out, hL, hG⟩
  ·have hbl : 0 < lb.length := by rw [← Hpb.out]; exact hpb0
   obtain ⟨bb', ob, rfl, hbr⟩ := H2.out.at hbl
   have hbr2 := fun W hg => hbr W hg
   have fpb : decide ((0 : Int) < (pb : Int)) = true := by simp; omega
   have fpbn : decide (0 < pb) = true := by simp; omega
   have fpbi : (0 : Int) < (pb : Int) := by omega
   obtain ⟨X0, hX0⟩ : ∃ X, X = gi lb 0 := ⟨_, rfl⟩
   simp only [← hX0, Nat.add_zero] at hbr2
   have Hbr := Lib.hid hbr2
   clear hbr hbr2 hX0 hbl
   by_cases h12 : X0.tmod 13 = 12
   ·have f12 : (X0.tmod 13 == 12) = true := by simpa using h12
    have f12d : decide (X0.tmod 13 = 12) = true := decide_eq_true h12
    clear h12
    refine wp_seq ?_
    have q1 := Hbr.out u hG
    refine r0N ?_
    refine wp_cond_true (rfl) ?_
    refine wp_rs (w := w) allocs2 2 [0, 1] (by kernel_rfl) (by simp only [List.drop_succ_cons, List.drop_zero]; exact rfl) (fun _ => True) noG hB hG trivial ?_
    intro K L hN hL
    simp only [List.zip_cons_cons, List.zip_nil_left]
    refine gs ?_
    refine grd (ratR (qint 1)) (fun (x48 : Ax × Ax) => ?_) (C := fun v _ => ref1_Of 1 (by omega) (by omega) _)
    refine gend ?_
    rintro v ⟨⟨hgu, hB1, hG1, -⟩, hx48⟩
    replace hA := hA.grow hgu
    obtain ⟨hx48a, hx48b⟩ : Rn v x48.1 _ ∧ Rn v x48.2 _ := hx48
    have ROWn := Lib.hid (own_grow' Ho.out hgu)
    clear Ho
    have Ho := ROWn
    clear ROWn
    clear hB hG
    have hB := hB1
    have hG := hG1
    clear hB1 hG1
    refine hL _ _ ?_
    clear hL L hgu
    obtain ⟨u, rfl⟩ : ∃ x, x = v := ⟨_, rfl⟩
    refine app_tailG ei_RQ w.heap.size _ _ _ _ (zL x48 (qint 1)) rfl rfl (bs_RQ x48.1 x48.2 (qint 1) u) rfl (fun _ => rfl) (fun _ => rfl) (fun _ _ => rfl) Ho.out (by omega) (by omega) hG.sz fun p v' w' g1 g2 g3 => ?_
    have hBn := Bx.nil w'
    have hGn := own_growth Ho.out hG g2
    replace hA := hA.own Ho.out (by decide) g2
    replace hx48a := hx48a.own Ho.out (by decide) g2
    replace hx48b := hx48b.own Ho.out (by decide) g2
    clear Ho hB hG
    have Ho := Lib.hid g1
    have hB := hBn
    have hG := hGn
    clear g1 g2 g3 hBn hGn
    obtain ⟨u, rfl⟩ : ∃ x, x = w' := ⟨_, rfl⟩
    simp only [Act.put, List.setIfInBounds_toArray, List.set_cons_succ, List.set_cons_zero]
    refine NoK.norm (hN _ _ ?_)
    clear hN K
    refine then_norm ?_
    refine hMj _ _ (Met.intro (hJj _ _ ?_))
    repeat apply Exists.intro
    refine ⟨?rel, rfl⟩
    case rel =>
     have ho2 := Ho.out
     have hlz : rps.flatMap zrL ++ zL x48 (qint 1) = (rps ++ [(x48, qint 1)]).flatMap zrL := by rw [List.flatMap_append]; simp [zrL]
     rw [hlz] at ho2
     obtain ⟨m1, hm1⟩ : ∃ x, x = m + 1 := ⟨_, rfl⟩
     rw [← hm1] at ho2
     obtain ⟨RA, RC, rfl, -, -, hL, -⟩ := own_lz ho2 (hA.snoc hx48a hx48b)
     rw [List.map_append, hv] at hL
     exact ⟨RA, RC, m1, P ++ [qint 1], rfl, by rw [List.length_append, LP.out, hm1]; rfl, by omega, rowAdd_sz SP.out, hL, hG⟩
   ·have f12 : (X0.tmod 13 == 12) = false := by simpa using h12
    have f12d : decide (X0.tmod 13 = 12) = false := decide_eq_false h12
    clear h12
    refine wp_seq ?_
    have q1 := Hbr.out u hG
    refine r0N ?_
    refine wp_cond_false (rfl) ?_
    refine wp_skip ?_
    refine then_norm ?_
    refine hMj _ _ (Met.intro (hJj _ _ ?_))
    repeat apply Exists.intro
    refine ⟨?rel, rfl⟩
    case rel =>
     obtain ⟨RA2, RC2, e2, -, -, hL, -⟩ := own_lz Ho.out hA
     cases e2
     rw [hv] at hL
     exact ⟨RA, RC, m, P, rfl, LP.out, by omega, SP.out, hL, hG⟩
 case rest =>
  clear hB hG Ho hA hv hlen
  obtain ⟨RA, RC, m1, Q, rfl, hQl, hNle, hQs, hL, hG⟩ := hcut
  obtain ⟨u, rfl⟩ : ∃ x, x = wc := ⟨_, rfl⟩
  have hB := Bx.nil u
  refine hKj _ _ ?_
  clear hKj Kj
  refine wp_seq ?_
  obtain ⟨Kc, VA, Lp, no, yes, pts, sVA, hLp, hL21, hps, q1, q2, q3, q4⟩ := HpC.out Q m1 hQl hQs
  replace hLp := hLp.symm
  have hi := HI1.out Q m1 hQl hNle hQs
  have HX := Lib.hid hL
  have Hi := Lib.hid hi
  have Q1 := Lib.hid q1
  have Q2 := Lib.hid q2
  have Q3 := Lib.hid q3
  have Q4 := Lib.hid q4
  have Hps := Lib.hid hps
  have sVA2 : qs VA ≤ LIM := by omega
  have fKK : (Kc != Kc) = false := by simp
  have fLL : ((Lp : Int) != (Lp : Int)) = false := by simp
  have HT' := HT.grow hG
  have HA2 := Lib.hid (HA.out.grow hG)
  have Hin2 := Lib.hid (fun W (hg : Grow u W) => Hin.out W (hG.trans hg))
  have Hrw2 := Lib.hid (fun B0 W (hg : Grow u W) => Hrw.out B0 W (hG.trans hg))
  have HGc := Lib.hid hG
  clear HT HA Hin Hrw hG hB hL hi q1 q2 q3 q4 hps sVA HpC HI1 hQl hQs hNle
  try clear hF
  have HT := HT'
  have HA := HA2
  have Hin := Hin2
  have Hrw := Hrw2
  clear HT' HA2 Hin2 Hrw2
  obtain ⟨w1, rfl⟩ : ∃ x, x = w := ⟨_, rfl⟩
  obtain ⟨w, rfl⟩ : ∃ x, x = u := ⟨_, rfl⟩
  obtain ⟨u, hu⟩ : ∃ x, x = w := ⟨_, rfl⟩
  have hB := Bx.nil u
  have hG : Grow w u := hu ▸ Grow.refl u
  have hF := Fr.nil w
  have hA : AllZ u [] := AllZ.nil _
  rw [← hu]
  clear hu
  refine rsE allocs2 [0, 0, 1, 1, 0, 0, 0, 0, 0] hB hG fun L hL => ?_
  refine gs ?_
  refine gxd (X := Ax) (fun x : Ax => .slice x.1 m1 x.2) (fun x W => Lq W x.1 Q) (fun x u u' hg h => Lq.grow h hg) (fun x54 => ?_) (C := by (rintro v ⟨hgu, hB, hG, -⟩; exact Hi.out _ (RA, RC) (Lz.grow HX.out hG) (HT.grow hG)))
  refine gxd (X := Ax) (fun x : Ax => .tuple #[.slice x.1 Lp x.2, .int .i64 Kc]) (fun x W => PtE Lp no yes pts x.1 W) (fun x u u' hg h => PtE.grow hg h) (fun x55 => ?_) (C := by (rintro v ⟨⟨hgu, hB, hG, -⟩, hx54⟩; exact Q3.out _ _ _ x54 (HA.out.grow hG) hx54 (HT.grow hG)))
  refine gs ?_
  refine geT hL ?_
  clear hB hG hL L
  rintro u ⟨⟨⟨hgu, hB, hG, -⟩, hx54⟩, hx55⟩
  replace hA := hA.grow hgu
  have HC := Lib.hid hx55
  clear hx54 hx55
  clear hgu
  obtain ⟨CA, CC⟩ := x55
  refine wp_seq (rsE allocs2 [0, 0, 1, 0, 0, 0, 0, 0] hB hG fun L hL => ?_)
  refine gs ?_
  refine gxd (X := Ax) (fun x : Ax => .tuple #[.slice x.1 Lp x.2, .int .i64 Kc]) (fun x W => RtE Lp no yes pts x.1 W) (fun x u u' hg h => RtE.grow hg h) (fun x61 => ?_) (C := by (rintro v ⟨hgu, hB, hG, -⟩; exact Q4.out _ _ _ (RA, RC) (HA.out.grow hG) (Lz.grow HX.out hG)))
  refine gs ?_
  refine geT hL ?_
  clear hB hG hL L
  rintro u ⟨⟨hgu, hB, hG, -⟩, hx61⟩
  replace hA := hA.grow hgu
  have HC2 := Lib.hid (PtE.grow hgu HC.out)
  have HD := Lib.hid hx61
  clear HC hx61
  have HC := HC2
  clear HC2
  clear hgu
  have HG0 := Lib.hid hG
  clear hB hF hG
  obtain ⟨w0, rfl⟩ : ∃ x, x = w := ⟨_, rfl⟩
  obtain ⟨w, hwu⟩ : ∃ x, x = u := ⟨_, rfl⟩
  rw [← hwu] at HG0 HC HD
  have hB := Bx.nil u
  have hF := Fr.nil w
  have hG : Grow w u := hwu ▸ Grow.refl u
  clear hwu
  obtain ⟨DA, DC⟩ := x61
  have HT' := HT.grow HG0.out
  have HA2 := Lib.hid (HA.out.grow HG0.out)
  have HX2 := Lib.hid (Lz.grow HX.out HG0.out)
  have Hin2 := Lib.hid (fun W (hg : Grow w W) => Hin.out W (HG0.out.trans hg))
  have Hrw2 := Lib.hid (fun B0 W (hg : Grow w W) => Hrw.out B0 W (HG0.out.trans hg))
  have HGd := Lib.hid (HGc.out.trans HG0.out)
  clear HT HA HX Hin Hrw HGc HG0 Q3 Q4
  have HT := HT'
  have HA := HA2
  have HX := HX2
  have Hin := Hin2
  have Hrw := Hrw2
  clear HT' HA2 HX2 Hin2 Hrw2
  refine wp_seq (rsC allocs2 [0, 0, 1, 1, 0, 0, 0, 2] hB hG fun K L hN hL => ?_)
  refine gs ?_
  refine gxd (X := Ax) (fun x : Ax => .slice x.1 m1 x.2) (fun x W => Lq W x.1 Q) (fun x u u' hg h => Lq.grow h hg) (fun x67 => ?_) (C := by (rintro v ⟨hgu, hB, hG, -⟩; exact Hi.out _ (RA, RC) (Lz.grow HX.out hG) (HT.grow hG)))
  refine gmd (C := fun v ⟨⟨hgu, hB, hG, _⟩, hx67⟩ => Q1.out _ _ _ x67 (HA.out.grow hG) hx67 (HT.grow hG)) ?_
  refine gs ?_
  refine gaa (newObj_Q _ _ _ _ _) fun b16 hb16 hn16 => ?_
  replace hF := hF.n1 [] hB hG hb16 hn16
  refine geC hL ?_
  clear hB hG hL L
  rintro u ⟨⟨⟨hgu, hB, hG, -⟩, hx67⟩, h16⟩
  replace hB := hB.cons' h16
  clear h16
  replace hA := hA.grow hgu
  clear hx67
  clear hb16 hn16
  clear hgu
  refine gtT ?_
  clear hN K
  refine sv hB hF hG 0 0 [_, _, _, _, _] ?_
  intro u hu hBG
  replace hA := hA.put hB 0 rfl (by first | decide | simp) _ _ hu
  clear hB hG hu
  obtain ⟨hB, hG⟩ := hBG
  refine wp_seq (rsC allocs2 [0, 0, 1, 0, 0, 0, 2] hB hG fun K L hN hL => ?_)
  refine gs ?_
  refine gxd (X := Az) (fun p : Az => .tuple #[rzV p VA, .int .i64 Kc]) (fun p W => Rz W p VA) (fun p u u' hg h => Rz.grow h hg) (fun x74 => ?_) (C := by (rintro v ⟨hgu, hB, hG, -⟩; exact Q2.out _ _ _ (RA, RC) (HA.out.grow hG) (Lz.grow HX.out hG)))
  refine gs ?_
  refine gaa (newObj_RQ _ _ _ _ _) fun b18 hb18 hn18 => ?_
  replace hF := hF.n1 [] hB hG hb18 hn18
  refine geC hL ?_
  clear hB hG hL L
  rintro u ⟨⟨⟨hgu, hB, hG, -⟩, hx74⟩, h18⟩
  replace hB := hB.cons' h18
  clear h18
  replace hA := hA.grow hgu
  clear hb18 hn18
  clear hgu
  refine gtT ?_
  clear hN K
  refine sv hB hF hG 0 0 [_, _, _] ?_
  intro u hu hBG
  replace hA := hA.put hB 0 rfl (by first | decide | simp) _ _ hu
  replace hx74 := hx74.put hB 0 rfl (by first | decide | simp) _ _ hu
  clear hB hG hu
  obtain ⟨hB, hG⟩ := hBG
  refine wp_seq ?_
  refine wp_seq (rsE allocs2 [1, 0, 0, 0, 0, 0, 0, 0, 0, 0, 0, 0, 0, 0, 0, 1, 0, 0, 0, 0, 0, 0, 0, 0, 0] hB hG fun L hL => ?_)
  refine gmd (C := fun v ⟨hgu, hB, hG, _⟩ => law9_known _ (HT.grow hG)) ?_
  refine gs ?_
  first | refine gmd (C := fun v ⟨hgu, hB, hG, _⟩ => hand_Same VA x74.1 x74.2 sVA2 _ (Rz.grow hx74 hgu).a (Rz.grow hx74 hgu).b) ?_ | refine gmna ?_
  refine gs ?_
  refine geT hL ?_
  clear hB hG hL L
  rintro u ⟨hgu, hB, hG, -⟩
  replace hA := hA.grow hgu
  replace hx74 := hx74.grow hgu
  clear hgu
  refine wp_cond_false (rfl) ?_
  refine wp_skip ?_
  refine then_norm ?_
  refine wp_seq ?_
  refine r0T ?_
  refine wp_block ?_
  clear hB hF hA hx74 Q1 Q2 Hi HX HA
  go_loopw [20] (fun s0 wr => ∃ i : Nat, i ≤ Lp ∧ s0 = .int .i64 i ∧ Grow w wr) (fun s0 _ => Lp - (intOf s0).toNat)
  case atStart => exact ⟨0, Nat.zero_le _, rfl, hG⟩
  case round =>
   clear hG
   obtain ⟨i, hi, rfl, hG⟩ := hrel
   obtain ⟨u, rfl⟩ : ∃ x, x = wr := ⟨_, rfl⟩
   have hB := Bx.nil u
   have hF := Fr.nil w
   rcases Nat.lt_or_ge i Lp with hlt | hge
   ·have hdec : decide ((i : Int) < (Lp : Int)) = true := by simp; omega
    obtain ⟨gc, hgc, hpt⟩ := HC.out (by omega)
    obtain ⟨gd, hgd, hgl, hlz⟩ := HD.out (by omega)
    simp only at hgc hgd
    subst hgc
    subst hgd
    have hip : i < pts.length := by omega
    obtain ⟨p, p', hlp⟩ := lz_pt hlz hip
    have hpc : ∀ W, Grow w W → Cq W gc (i * 10) (qover ((gp pts i).1 : Nat) no) ∧ Cq W gc (i * 10 + 5) (qover ((gp pts i).2 : Nat) yes) := fun W hg => ⟨cq_grow (hpt.2 i hip).1 hpt.1 hg, cq_grow (hpt.2 i hip).2 hpt.1 hg⟩
    obtain ⟨s1, s2⟩ := Hps.out i hlt
    obtain ⟨V1, hV1⟩ : ∃ V, V = qover ((gp pts i).1 : Nat) no := ⟨_, rfl⟩
    obtain ⟨V2, hV2⟩ : ∃ V, V = qover ((gp pts i).2 : Nat) yes := ⟨_, rfl⟩
    simp only [← hV1, ← hV2] at hlp hpc
    rw [← hV1] at s1
    rw [← hV2] at s2
    have s1' : qs V1 ≤ LIM := by omega
    have s2' : qs V2 ≤ LIM := by omega
    have Hlp := Lib.hid hlp
    have Hpc := Lib.hid hpc
    clear hlp hpc hV1 hV2 hip hpt hlz hgl s1 s2
    refine wp_seq ?_
    refine r0T ?_
    refine wp_cond_true (rfl) ?_
    refine wp_skip ?_
    refine then_norm ?_
    refine wp_seq ?_
    refine wp_block ?_
    refine wp_seq (rdC allocs2 [] [(0, 0), (0, 1), (0, 2), (0, 3), (0, 4), (0, 5), (0, 6), (0, 7), (0, 8), (0, 9), (1, 10), (0, 11), (0, 12), (0, 13), (0, 14), (0, 15), (0, 16), (0, 17), (0, 18), (0, 19), (0, 20), (0, 21), (0, 22), (1, 23), (0, 24)] hB hG (hs := growF_of [0, 0, 3, 7, 15, 0, 0, 96, 224, 480, 1023, 2047, 4095, 8191, 8191, 32767, 65535, 131071, 8191, 8191, 794623, 1843199, 3940351, 8388607, 16777215, 33554431] (by kernel_rfl)) fun K L hN hL => ?_)
    repeat first | refine gya ?_ | refine gyr ?_ | refine gna ?_ | refine gyb (by (rintro v ⟨hgu, hB, hG, -⟩ N hN; have r := hB.r; simp only [BxR] at r; obtain ⟨⟨c1, c2, c3, c4, c5⟩, e⟩ := Hpc.out v hG; have e' := cq_five e; obtain ⟨e1, e2, e3, e4, e5⟩ := e'; obtain ⟨⟨-, d1, d2, d3⟩, -, g⟩ := Hlp.out v hG; have g' := cz_three g; obtain ⟨g1, g2, g3⟩ := g'; go_simp; exact hN)) ?_
    refine gmd (C := fun v ⟨hgu, hB, hG, _⟩ => hand_Same V1 p.1 p.2 s1' _ (Hlp.out _ hG).1.1.a (Hlp.out _ hG).1.1.b) ?_
    repeat first | refine gya ?_ | refine gyr ?_ | refine gna ?_ | refine gyb (by (rintro v ⟨hgu, hB, hG, -⟩ N hN; have r := hB.r; simp only [BxR] at r; obtain ⟨⟨c1, c2, c3, c4, c5⟩, e⟩ := Hpc.out v hG; have e' := cq_five e; obtain ⟨e1, e2, e3, e4, e5⟩ := e'; obtain ⟨⟨-, d1, d2, d3⟩, -, g⟩ := Hlp.out v hG; have g' := cz_three g; obtain ⟨g1, g2, g3⟩ := g'; go_simp; exact hN)) ?_
    first | refine gmd (C := fun v ⟨hgu, hB, hG, _⟩ => hand_Same V2 p'.1 p'.2 s2' _ (Hlp.out _ hG).2.1.a (Hlp.out _ hG).2.1.b) ?_ | refine gmna ?_
    refine gs ?_
    refine geC hL ?_
    clear hB hG hL L
    rintro u ⟨-, hB, hG, -⟩
    refine gtT ?_
    clear hN K
    refine wp_cond_false (rfl) ?_
    refine wp_skip ?_
    refine blk_norm ?_
    refine then_norm ?_
    refine r0E ?_
    refine then_norm ?_
    go_roundw
    case rel => exact ⟨i + 1, by omega, by go_num, hG⟩
    case measure => simp [intOf]; omega
   ·obtain rfl : Lp = i := by omega
    have hdec : decide ((Lp : Int) < (Lp : Int)) = false := by simp
    have hA : AllZ u [] := AllZ.nil _
    clear HC HD Hps
    refine wp_seq ?_
    refine r0T ?_
    refine wp_cond_false (rfl) ?_
    refine wp_exit ?_
    refine then_exit ?_
    refine then_exit ?_
    refine blk_exit ?_
    refine then_norm ?_
    refine r0T ?_
    refine wp_seq (rsE allocs2 [0, 1, 0] hB hG fun L hL => ?_)
    refine gs ?_
    refine gmw (C := fun v => Hpk.out _) ?_
    refine gs ?_
    refine geT hL ?_
    clear hB hG hL L
    rintro u ⟨hgu, hB, hG, -⟩
    replace hA := hA.grow hgu
    clear hgu
    refine wp_seq (rsE allocs2 [0, 0, 0, 1, 0] hB hG fun L hL => ?_)
    refine gs ?_
    refine gxd (X := (Ax × List Zw)) (fun x : Ax × List Zw => .slice x.1.1 n x.1.2) (fun x W => (rowsV x.2 = RS ∧ x.2.length = n) ∧ RowsZ w.heap.size W x.2 ∧ W.ownsRow w.heap.size 65 1 (.slice x.1.1 n x.1.2) n (x.2.map zwV)) (fun x u u' hg h => ⟨h.1, h.2.1.grow hg, own_grow' h.2.2 hg⟩) (fun x142 => ?_) (C := by (rintro v ⟨hgu, hB, hG, -⟩; exact Hrw.out w.heap.size _ hG hG.sz))
    refine gs ?_
    refine geT hL ?_
    clear hB hG hL L
    rintro u ⟨⟨hgu, hB, hG, -⟩, hx142⟩
    replace hA := hA.grow hgu
    clear hgu
    obtain ⟨⟨RWA, RWC⟩, rws⟩ := x142
    obtain ⟨⟨hrv, hrn⟩, hrz, hro⟩ := hx142
    simp only at hrv hrn hrz hro
    have Hrz := Lib.hid hrz
    have Hro := Lib.hid hro
    clear hrz hro Hrw
    refine wp_seqK fun Kj hKj => ?_
    go_cut [] from 143 to 161 (fun wx => ∃ (rsx : List Rq) (RSx : List (List Rat)), rsx.map (·.2.2) = RSx ∧ RSx.length = n ∧ (∀ q ∈ RSx, ∀ x ∈ q, qs x ≤ 50) ∧ ((∀ q ∈ RSx, q.length = k) ∨ (2 ≤ n ∧ ∀ i q, RSx[i]? = some q → q.length = if i + 1 = n then k + 1 else k)) ∧ Lrz wx RWA rsx ∧ Grow w wx)
    case first =>
     rename_i Jj Kk hJj hMj
     rcases Nat.lt_or_ge 1 n with hn1 | hn1
     ·have fn1 : decide ((1 : Int) < (n : Int)) = true := by simp; omega
      have fn1n : decide (1 < n) = true := by simp; omega
      by_cases h7 : z.tmod 7 = 6
      ·have f7 : (z.tmod 7 == 6) = true := by simpa using h7
       have f7d : decide (z.tmod 7 = 6) = true := decide_eq_true h7
       clear h7
       refine r0T ?_
       refine wp_cond_true (rfl) ?_
       obtain ⟨n1, hn1e⟩ : ∃ x, n - 1 = x := ⟨_, rfl⟩
       have fn2 : IntKind.i64.wrap ((n : Int) - 1) = (n1 : Int) := by rw [IntWalk.i64_in _ (by omega)]; omega
       have hn1i : (n1 : Int) < (n : Int) := by omega
       have hn1z : n1 < rws.length := by omega
       obtain ⟨gw, capw, e9, -, -⟩ := own_slice Hro.out (by omega)
       cases e9
       have hlast : u.cell? ⟨gw, n1, none⟩ = some (zwV rws[n1]) := by
        rw [Hro.out.cellAt n1 (by omega), List.getElem?_map, List.getElem?_eq_getElem hn1z]
        rfl
       have hgwl := (Hro.out.lt gw rfl).2
       have hla : ∀ W, Grow u W → W.cell? ⟨gw, n1, none⟩ = some (zwV rws[n1]) := fun W hg => (hg.cell (p := ⟨gw, n1, none⟩) hgwl).trans hlast
       have hri := Hrz.out.idx n1 _ (List.getElem?_eq_getElem hn1z)
       have hrg : rws[n1]? = some rws[n1] := List.getElem?_eq_getElem hn1z
       have hrk : rws[n1].2.length = k := by
        have h1 : rws[n1].2.map (·.2) ∈ RS := by rw [← hrv]; exact List.mem_map_of_mem (f := fun r : Zw => r.2.map (·.2)) (List.getElem_mem hn1z)
        have h2 := (HRq.out _ h1).1
        simpa using h2
       have hra : rowAt RS (n - 1) = rws[n1].2.map (·.2) := by
        rw [hn1e, ← hrv]
        unfold rowAt rowsV
        rw [List.getElem?_map, hrg]
        rfl
       obtain ⟨r, hr⟩ : ∃ r, r = rws[n1] := ⟨_, rfl⟩
       rw [← hr] at hri hrg hrk hra
       simp only [← hr] at hla
       obtain ⟨⟨rA, rC⟩, rps2⟩ := r
       simp only [zwV] at hri hrk hra hla
       rw [hrk] at hla
       have Hla := Lib.hid hla
       have Hri := Lib.hid hri.2
       have Hrg := Lib.hid hrg
       clear hla hri hrg hlast hgwl hr hn1z
       refine wp_rp (w := w) allocs2 10 [0, 1, 2] [] [(0, 3), (0, 4), (0, 5), (0, 6), (0, 7), (1, 8), (1, 9)] (by kernel_rfl) (by kernel_rfl) (by simp only [List.drop_succ_cons, List.drop_zero]; exact rfl) (fun _ => True) noG hB hG trivial ?_
       intro K L hN hL
       refine gpa ?_
       refine gpa ?_
       refine gpa ?_
       show OKs _ _ _ _ _ _ _ _
       simp only [pickOps, List.getElem?_toArray, List.getElem?_cons_zero, List.getElem?_cons_succ]
       repeat first | refine gya ?_ | refine gyr ?_ | refine gna ?_ | refine gyb (by (rintro v ⟨hgu, hB, hG, -⟩ N hN; have r := hB.r; simp only [BxR] at r; have q1 := Hla.out v hgu; go_simp; exact hN)) ?_
       refine grd (ratR (qint 0)) (fun (x158 : Ax × Ax) => ?_) (C := fun v _ => ref1_Of 0 (by omega) (by omega) _)
       refine gx Nat (fun b => .slice (some ⟨b, 0, none⟩) 1 1) (fun b W => Blk W b 41 (zL x158 (qint 0)).toArray) (fun b u u' hg h => h.grow hg) rfl ?_ (fun x159 => ?_)
       ·(rintro v ⟨⟨hgu, hB, hG, -⟩, hx158⟩ N hN; go_simp; exact hN v.heap.size _ (Blk.new v 41 (zL x158 (qint 0)).toArray) (Grow.alloc _ _))
       refine okf (by simp only [Act.put, List.setIfInBounds_toArray, List.set_cons_succ, List.set_cons_zero]; exact rfl) ?_
       refine gend ?_
       rintro v ⟨⟨⟨hgu, hB1, hG1, -⟩, hx158⟩, hx159⟩
       replace hA := hA.grow hgu
       obtain ⟨hx158a, hx158b⟩ : Rn v x158.1 _ ∧ Rn v x158.2 _ := hx158
       have hrzv := Hrz.out.grow hgu
       have hrov := own_grow' Hro.out hgu
       have hriv := own_grow' Hri.out hgu
       clear Hla Hrz Hro Hri hA
       clear hB hG
       have hB := hB1
       have hG := hG1
       clear hB1 hG1
       refine hL _ _ ?_
       clear hL L hgu
       obtain ⟨u, rfl⟩ : ∃ x, x = v := ⟨_, rfl⟩
       have r := hB.r
       simp only [BxR] at r
       have hriv2 := hriv
       rw [hrk] at hriv2
       refine app_oneG ei_RQ w.heap.size (.slice rA k rC) k (rps2.flatMap zrL) x159 (zL x158 (qint 0)) rfl rfl hx159 rfl rfl hriv2 (by omega) (by omega) hG.sz fun v' w' g1 g2 g3 => ?_
       have hlz : rps2.flatMap zrL ++ zL x158 (qint 0) = (rps2 ++ [(x158, qint 0)]).flatMap zrL := by rw [List.flatMap_append]; simp [zrL]
       have g1' := g1
       rw [hlz] at g1'
       obtain ⟨gA, gC, e9, -, -⟩ := own_slice g1' (by omega)
       subst e9
       rw [← hrk] at g1
       have g2' : u.grownBy w' (zwV ((rA, rC), rps2)).ownBlock := by
        simp only [zwV]
        rw [hrk]
        exact g2
       have hfin := rows_last (by omega) hrn hrzv hrov Hrg.out g1 (rz_mk hx158a hx158b) g2' hG
       obtain ⟨hc9, hf9⟩ := rows_here hrn hrzv hrov Hrg.out g2'
       simp only [zwV] at hc9
       simp only at hfin
       rw [hrk] at hfin hc9
       clear g1 g1' g2 g2' g3 hriv hriv2 hrov hrzv hlz hx158a hx158b hB r
       have hB := Bx.nil w'
       have r := hB.r
       simp only [Act.put, List.setIfInBounds_toArray, List.set_cons_succ, List.set_cons_zero]
       go_wp2_with fail
       generalize hu9 : World.setCell w' _ _ = u9
       have hfin2 := hfin
       rw [hu9] at hfin2
       clear hfin hu9 hG hB
       obtain ⟨e1, e2, e3⟩ := hfin2
       have hG := e3
       have hB := Bx.nil u9
       have hA : AllZ u9 [] := AllZ.nil _
       obtain ⟨u, rfl⟩ : ∃ x, x = u9 := ⟨_, rfl⟩
       clear r
       skip
       refine NoK.norm (hN _ _ ?_)
       clear hN K
       refine then_norm ?_
       refine hMj _ _ (Met.intro (hJj _ _ ?_))
       repeat apply Exists.intro
       refine ⟨?rel, rfl⟩
       case rel =>
        obtain ⟨WA, WC, e9, -, hL, hLn⟩ := own_lrz e2 e1
        cases e9
        have hRx : ((rws.set n1 ((some ⟨gA, 0, none⟩, gC), rps2 ++ [(x158, qint 0)])).map fun r => ((r.1.1, r.1.2, r.2.map (·.2)) : Rq)).map (·.2.2) = rowsM RS n := by
         rw [rowsV_eq]
         unfold rowsV rowsM
         rw [List.map_set, hra, ← hrv, hn1e]
         unfold rowsV
         simp
        obtain ⟨o1, o2, o3⟩ := rowsM_ok HRl.out (by omega) HRq.out
        exact ⟨_, _, hRx, o1, o2, .inr ⟨by omega, o3⟩, hL, hG⟩
      ·have f7 : (z.tmod 7 == 6) = false := by simpa using h7
       have f7d : decide (z.tmod 7 = 6) = false := decide_eq_false h7
       clear h7
       refine r0T ?_
       refine wp_cond_false (rfl) ?_
       refine wp_skip ?_
       refine then_norm ?_
       refine hMj _ _ (Met.intro (hJj _ _ ?_))
       repeat apply Exists.intro
       refine ⟨?rel, rfl⟩
       case rel =>
        obtain ⟨WA, WC, e9, -, hL, hLn⟩ := own_lrz Hro.out Hrz.out.idx
        cases e9
        have hRx : (rws.map fun r => ((r.1.1, r.1.2, r.2.map (·.2)) : Rq)).map (·.2.2) = RS := by rw [rowsV_eq, hrv]
        exact ⟨_, _, hRx, HRl.out, (fun q hq => (HRq.out q hq).2), .inl (fun q hq => (HRq.out q hq).1), hL, hG⟩
     ·have fn1 : decide ((1 : Int) < (n : Int)) = false := by simp; omega
      have fn1n : decide (1 < n) = false := by simp; omega
      refine r0T ?_
      refine wp_cond_false (rfl) ?_
      refine wp_skip ?_
      refine then_norm ?_
      refine hMj _ _ (Met.intro (hJj _ _ ?_))
      repeat apply Exists.intro
      refine ⟨?rel, rfl⟩
      case rel =>
       obtain ⟨WA, WC, e9, -, hL, hLn⟩ := own_lrz Hro.out Hrz.out.idx
       cases e9
       have hRx : (rws.map fun r => ((r.1.1, r.1.2, r.2.map (·.2)) : Rq)).map (·.2.2) = RS := by rw [rowsV_eq, hrv]
       exact ⟨_, _, hRx, HRl.out, (fun q hq => (HRq.out q hq).2), .inl (fun q hq => (HRq.out q hq).1), hL, hG⟩
    case rest =>
     clear hB hG Hro Hrz hrv hrn
     obtain ⟨rsx, RSx, hRx, o1, o2, o3, hL, hG⟩ := hcut
     obtain ⟨u, rfl⟩ : ∃ x, x = wc := ⟨_, rfl⟩
     have hB := Bx.nil u
     obtain ⟨KB, VB, sVB, b1, b2⟩ := HpB.out RSx o1 o2 o3
     have o4 : ∀ q ∈ RSx, q.length ≤ 6 ∧ ∀ x ∈ q, qs x ≤ 50 := fun q hq => by
      refine ⟨?_, o2 q hq⟩
      rcases o3 with o3 | ⟨-, o3⟩
      ·rw [o3 q hq]; omega
      ·obtain ⟨i, hi⟩ := List.getElem?_of_mem hq
       rw [o3 i q hi]
       split <;> omega
     have hln : rsx.length = n := by rw [← o1, ← hRx, List.length_map]
     have hi2 := fun (W : World) (hg : Grow u W) (hT : Tab W) => HI2.out W (RWA, RWC) rsx hln (fun r hr => o4 _ (by rw [← hRx]; exact List.mem_map_of_mem (f := fun r : Rq => r.2.2) hr)) (hL.grow hg) hT
     rw [hRx] at hi2
     have Hi2 := Lib.hid hi2
     have B1 := Lib.hid b1
     have B2 := Lib.hid b2
     have HRx := Lib.hid hRx
     have HRZ := Lib.hid hL
     have sVB2 : qs VB ≤ LIM := by omega
     have fKB : (KB == KB) = true := by simp
     have HT' := HT.grow hG
     have Hin2 := Lib.hid (fun W (hg : Grow u W) => Hin.out W (hG.trans hg))
     have HGe := Lib.hid (HGd.out.trans hG)
     clear HT Hin hG hL hi2 b1 b2 hRx sVB HpB HI2 hln o1 o2 o3 o4 HRq HRl HGd hA
     try clear hF
     have HT := HT'
     have Hin := Hin2
     clear HT' Hin2
     obtain ⟨w1, rfl⟩ : ∃ x, x = w := ⟨_, rfl⟩
     obtain ⟨w, rfl⟩ : ∃ x, x = u := ⟨_, rfl⟩
     obtain ⟨u, hu⟩ : ∃ x, x = w := ⟨_, rfl⟩
     have hB := Bx.nil u
     have hG : Grow w u := hu ▸ Grow.refl u
     have hF := Fr.nil w
     have hA : AllZ u [] := AllZ.nil _
     rw [← hu]
     clear hu
     refine hKj _ _ ?_
     clear hKj Kj
     refine wp_seq (rsC allocs2 [0, 0, 0, 0, 1, 0, 1, 1, 0, 0, 0, 2] hB hG fun K L hN hL => ?_)
     refine gs ?_
     refine gxd (X := Ax) (fun x : Ax => .slice x.1 n x.2) (fun x W => Li W x.1 lw) (fun x u u' hg h => Li.grow h hg) (fun x167 => ?_) (C := by (rintro v ⟨hgu, hB, hG, -⟩; exact Hin.out _ hG))
     refine gs ?_
     refine gxd (X := (Ax × List Rq)) (fun x : Ax × List Rq => .slice x.1.1 n x.1.2) (fun x W => x.2.map (·.2.2) = RSx ∧ Lrq W x.1.1 x.2) (fun x u u' hg h => ⟨h.1, h.2.grow hg⟩) (fun x169 => ?_) (C := by (rintro v ⟨⟨hgu, hB, hG, -⟩, hx167⟩; exact Hi2.out _ hG (HT.grow hG)))
     refine gmd (C := fun v ⟨⟨⟨hgu, hB, hG, _⟩, hx167⟩, hx169⟩ => B1.out _ x167 x169.1 x169.2 hx169.1 hx167 hx169.2 (HT.grow hG)) ?_
     refine gs ?_
     refine gaa (newObj_Q _ _ _ _ _) fun b24 hb24 hn24 => ?_
     replace hF := hF.n1 [] hB hG hb24 hn24
     refine geC hL ?_
     clear hB hG hL L
     rintro u ⟨⟨⟨⟨hgu, hB, hG, -⟩, hx167⟩, hx169⟩, h24⟩
     replace hB := hB.cons' h24
     clear h24
     replace hA := hA.grow hgu
     clear hx167 hx169
     clear hb24 hn24
     clear hgu
     refine gtT ?_
     clear hN K
     refine sv hB hF hG 0 0 [_, _, _, _, _] ?_
     intro u hu hBG
     replace hA := hA.put hB 0 rfl (by first | decide | simp) _ _ hu
     clear hB hG hu
     obtain ⟨hB, hG⟩ := hBG
     refine wp_seq (rsC allocs2 [0, 0, 0, 0, 1, 0, 1, 0, 0, 0, 2] hB hG fun K L hN hL => ?_)
     refine gs ?_
     refine gxd (X := Ax) (fun x : Ax => .slice x.1 n x.2) (fun x W => Li W x.1 lw) (fun x u u' hg h => Li.grow h hg) (fun x178 => ?_) (C := by (rintro v ⟨hgu, hB, hG, -⟩; exact Hin.out _ hG))
     refine gs ?_
     refine gxd (X := Az) (fun p : Az => .tuple #[rzV p VB, .int .i64 KB]) (fun p W => Rz W p VB) (fun p u u' hg h => Rz.grow h hg) (fun x180 => ?_) (C := by (rintro v ⟨⟨hgu, hB, hG, -⟩, hx178⟩; exact B2.out _ x178 (_, _) rsx HRx.out hx178 (Lrz.grow HRZ.out hG)))
     refine gs ?_
     refine gaa (newObj_RQ _ _ _ _ _) fun b26 hb26 hn26 => ?_
     replace hF := hF.n1 [] hB hG hb26 hn26
     refine geC hL ?_
     clear hB hG hL L
     rintro u ⟨⟨⟨⟨hgu, hB, hG, -⟩, hx178⟩, hx180⟩, h26⟩
     replace hB := hB.cons' h26
     clear h26
     replace hA := hA.grow hgu
     clear hx178
     clear hb26 hn26
     clear hgu
     refine gtT ?_
     clear hN K
     refine sv hB hF hG 0 0 [_, _, _] ?_
     intro u hu hBG
     replace hA := hA.put hB 0 rfl (by first | decide | simp) _ _ hu
     replace hx180 := hx180.put hB 0 rfl (by first | decide | simp) _ _ hu
     clear hB hG hu
     obtain ⟨hB, hG⟩ := hBG
     refine wp_seq (rsE allocs2 [0, 0, 0, 0, 0, 0, 1, 0, 0] hB hG fun L hL => ?_)
     refine gs ?_
     first | refine gmd (C := fun v ⟨hgu, hB, hG, _⟩ => hand_Same VB x180.1 x180.2 sVB2 _ (Rz.grow hx180 hgu).a (Rz.grow hx180 hgu).b) ?_ | refine gmna ?_
     refine gs ?_
     refine geT hL ?_
     clear hB hG hL L
     rintro u ⟨hgu, hB, hG, -⟩
     replace hA := hA.grow hgu
     replace hx180 := hx180.grow hgu
     clear hgu
     refine rt Tryz.results9 ?_
     exact ⟨rfl, HGe.out.trans hG⟩
end Go.Proofs.YtimjnkfcnpfoeaaGreatDoor
