/- Contracts and laws. -/
import Derived.Test.YtjmopgepnndckaaGreatDoorC41
set_option linter.unusedSimpArgs false
set_option linter.unusedVariables false
set_option maxHeartbeats 16000000
set_option maxRecDepth 100000
namespace Go.Proofs.YtjmopgepnndckaaGreatDoor
open Go Go.RowKit
theorem KepS.over {S : Nat → Prop} {w1 u u' : World} {b i : Nat} {vs : List Value} (h : KepS S w1 u) (hb : w1.heap.size ≤ b ∨ S b) (hu : E2 u b i vs = u') : KepS S w1 u' := by
 subst hu
 have h1 : KepS (fun k => k = b) u (E2 u b i vs) := A2L (S := fun k => k = b) rfl vs i u
 exact ⟨h1.os.trans h.os, h1.tape.trans h.tape, h1.output.trans h.output, Nat.le_trans h.size h1.size, fun k hk hs => (h1.block k (Nat.lt_of_lt_of_le hk h.size) (fun e => hb.elim (fun h => by omega) (fun h => hs (e ▸ h)))).trans (h.block k hk hs)⟩
theorem PartW.setE {bw ge EC n m : Nat} {R N : Ax} {B far : Nat} {es : List Int} {W : World} (h : PartW bw ge EC n m R N B far es W) {i : Nat} {v : Int} (hne : bw ≠ ge) : PartW bw ge EC n m R N B far (es.set i v) (W.setCell ⟨ge, i, none⟩ (.int .i64 v)) ∧ W.grownBy (W.setCell ⟨ge, i, none⟩ (.int .i64 v)) (some ge) := by
 obtain ⟨p1, p2⟩ := h.own.stored i (.int .i64 v)
 have K3 : KepS (fun k => k = ge) W (W.setCell ⟨ge, i, none⟩ (.int .i64 v)) := KepS.ofGrown p2 (fun _ e => (Option.some.inj e).symm)
 refine ⟨⟨K3.blk h.blk hne, ?_⟩, p2⟩
 have e : (iv es).set i (.int .i64 v) = iv (es.set i v) := by simp [iv, List.map_set]
 rw [e] at p1
 exact p1
theorem A6u (b99 ge EC n m : Nat) (R N : Ax) (ns : List NdT) (hm : ns.length = m) (hm2 : m ≤ 300) (w0 : World) (hbw : w0.heap.size ≤ b99) (hge : w0.heap.size ≤ ge) (hne : b99 ≠ ge) (hN : Le ndL 4 w0 N.1 ns) (f : Nat) (hih : ∀ f', f = f' + 1 → A3r b99 ge EC n m R N ns w0 f') : A3r b99 ge EC n m R N ns w0 f := by
 intro i deep far es w hG0 hi hd hf hel hP
 obtain ⟨RA, RC⟩ := R
 obtain ⟨NA, NC⟩ := N
 simp only at hN
 have fdm : max (far : Int) (deep : Int) = ((max far deep : Nat) : Int) := by omega
 rcases Nat.lt_or_ge i m with him | him
 ·obtain ⟨f', rfl⟩ : ∃ f', f = f' + 1 := ⟨f - 1, by omega⟩
  have hih := hih f' rfl
  have hil : i < ns.length := by omega
  obtain ⟨bN, oN, hNe, hnd⟩ := hN.at hil
  subst hNe
  obtain ⟨nd, hndE⟩ : ∃ x, x = ns[i] := ⟨_, rfl⟩
  rw [← hndE] at hnd
  have hV : D8 ns (f' + 1) i = (E0 (D8 ns f') nd.l (i + 1, 0)).bind fun s => E0 (D8 ns f') nd.t s := by
   show (match ns[i]? with | none => none | some n => (E0 (D8 ns f') n.l (i + 1, 0)).bind fun s => E0 (D8 ns f') n.t s) = _
   rw [List.getElem?_eq_getElem hil, ← hndE]
  have hpn : B8 ns i = D8 ns (f' + 1) i := B07 ns (by omega) (by omega)
  rw [hV] at hpn ⊢
  have hrd : ∀ W, A3 w0 W → W.cell? ⟨bN, oN + i * 4, none⟩ = some (.int .i64 nd.r) ∧ W.cell? ⟨bN, oN + i * 4 + 1, none⟩ = some (.int .i64 nd.c) ∧ W.cell? ⟨bN, oN + i * 4 + 2, none⟩ = some (.int .i64 nd.l) ∧ W.cell? ⟨bN, oN + i * 4 + 3, none⟩ = some (.int .i64 nd.t) := fun W hg => ⟨hnd W hg 0 _ rfl, hnd W hg 1 _ rfl, hnd W hg 2 _ rfl, hnd W hg 3 _ rfl⟩
  obtain ⟨xr, xc, cl, ct⟩ := nd
  simp only at hrd hV hpn ⊢
  have hle : ∀ k q, D8 ns f' k = some q → i < k → k < q.1 ∧ q.1 ≤ m := fun k q hq hk => by
   have h1 := A2X (e := q.1) (d := q.2) hq
   obtain ⟨s, g1, g2, g3, g4, g5⟩ := A1g ns f' k q.1 q.2 hq
   omega
  have hcl : ∀ (k far : Nat) (es : List Int) (W : World), A3 w0 W → i < k → k ≤ m → es.length = m → PartW b99 ge EC n m (RA, RC) (some ⟨bN, oN, none⟩, NC) w0.heap.size far es W → _ := fun k far es W hg h1 h2 h3 h4 => hih k (deep + 1) far es W hg (by omega) (by omega) (by omega) h3 h4
  obtain ⟨E, hE⟩ : ∃ E, E = D8 ns f' := ⟨_, rfl⟩
  simp only [← hE] at hcl hle hpn ⊢
  have hmi : decide ((m : Int) ≤ (i : Int)) = false := by simp; omega
  have hmin : decide (m ≤ i) = false := by simp; omega
  have himi : (i : Int) < (m : Int) := by omega
  obtain ⟨i1, hi1⟩ : ∃ x, x = i + 1 := ⟨_, rfl⟩
  have fi1 : IntKind.i64.wrap ((i : Int) + 1) = (i1 : Int) := by rw [IntWalk.i64_in _ (by omega)]; omega
  obtain ⟨dp, hdp⟩ : ∃ x, x = deep + 1 := ⟨_, rfl⟩
  have fdp : IntKind.i64.wrap ((deep : Int) + 1) = (dp : Int) := by rw [IntWalk.i64_in _ (by omega)]; omega
  obtain ⟨far0, hfar0⟩ : ∃ x, x = max far deep := ⟨_, rfl⟩
  rw [← hfar0] at fdm
  rw [← hi1] at hpn ⊢
  simp only [← hdp] at hcl
  have hii1 : i < i1 := by omega
  have hi1m : i1 ≤ m := by omega
  have Hrd := Lib.hid hrd
  have Hcl := Lib.hid hcl
  have Hle := Lib.hid hle
  have Hpn := Lib.hid hpn
  have Hel := Lib.hid hel
  have HP := Lib.hid hP
  have HG0 := Lib.hid hG0
  have Hf0 := Lib.hid hfar0
  have Hdp := Lib.hid hdp
  have Hi1 := Lib.hid hi1
  have Hne := Lib.hid hne
  clear hrd hcl hle hpn hV hE hndE hnd hih hN hil hi hf hG0 hm hel hP hi1 hdp hfar0 hd hne
  go_enter Tryz.func61, Tryz.ntmps61
  refine en0 ?_
  intro u hG hB hF
  refine wp_seq ?_
  refine wp_seq ?_
  have hG1 : A3 w u := hG
  have PW : PartW b99 ge EC n m (RA, RC) (some ⟨bN, oN, none⟩, NC) w0.heap.size far es u := HP.out.grow hG
  have KK : KepS (A3f b99 ge) w u := KepS.ofGrow hG
  have hG2 := HG0.out.trans hG
  obtain ⟨w1, rfl⟩ : ∃ x, x = w := ⟨_, rfl⟩
  obtain ⟨w, rfl⟩ : ∃ x, x = w0 := ⟨_, rfl⟩
  have hF2 : Fr w [b99] := ⟨fun b hb => by rw [List.mem_singleton.1 hb]; exact hbw, by simp⟩
  have hB2 : Bx u [(b99, 122, #[.slice RA n RC, .slice (some ⟨bN, oN, none⟩) m NC, .slice (some ⟨ge, 0, none⟩) m EC, .int .i64 (far : Nat)])] := Bx.cons PW.blk (Bx.nil u)
  have Hll := Lib.hid (And.intro HP.out.blk.lt (HP.out.own.lt ge rfl).2)
  clear hB hG hF hG1 HP
  have hB := hB2
  have hG := hG2
  have hF := hF2
  clear hB2 hG2 hF2
  refine r0N ?_
  refine wp_cond_false (rfl) ?_
  refine wp_skip ?_
  refine A4 ?_
  refine r0T ?_
  generalize hu0 : World.setCell u _ _ = u0
  have hBG := M3 hB hF hG 0 rfl 3 [_] hu0
  have o2 := I6 (i := 3) (vs := [.int .i64 (far0 : Nat)]) PW.own (fun e => Hne.out (Option.some.inj e).symm) hu0
  have K2 := KepS.over (i := 3) (vs := [.int .i64 (far0 : Nat)]) KK (.inr (.inl rfl)) hu0
  clear hB hG hu0 PW KK
  obtain ⟨hB, hG⟩ := hBG
  have PW : PartW b99 ge EC n m (RA, RC) (some ⟨bN, oN, none⟩, NC) w.heap.size far0 es u0 := ⟨hB.head, o2⟩
  have KK := K2
  clear o2 K2 u
  obtain ⟨u, rfl⟩ : ∃ x, x = u0 := ⟨_, rfl⟩
  refine wp_seq (rsC C5 [0, 0, 0, 0, 0, 0, 0, 0, 2] hB hG fun K L hN hL => ?_)
  repeat first | refine gya ?_ | refine gyr ?_ | refine gna ?_ | refine gyb (by (rintro v ⟨hgu, hB, hG, -⟩ N hN; have r := hB.r; simp only [BxR] at r; obtain ⟨c0, c1, c2, c3⟩ := Hrd.out v hG; go_simp; exact hN)) ?_
  refine gaa (A07 _ _ _ _ _) fun b7 hb7 hn7 => ?_
  replace hF := hF.n1 [] hB hG hb7 hn7
  refine geC hL ?_
  clear hB hG hL L
  rintro u ⟨⟨hgu, hB, hG, -⟩, h7⟩
  replace hB := hB.cons' h7
  clear h7
  have l1 : b99 < b7 := Nat.lt_of_lt_of_le PW.blk.lt hb7
  have l2 : ge < b7 := Nat.lt_of_lt_of_le (PW.own.lt ge rfl).2 hb7
  have l3 : w1.heap.size ≤ b7 := Nat.le_trans KK.size hb7
  have PW2 := PW.grow hgu
  have KK2 := KK.grow hgu
  clear PW KK
  have PW := PW2
  have KK := KK2
  clear PW2 KK2
  clear hb7 hn7
  clear hgu
  refine gtT ?_
  clear hN K
  refine sv hB hF hG 0 0 [_, _, _, _] ?_
  intro u hu hBG
  have o2 := I6 PW.own (fun e => by have h9 : ge = b7 := Option.some.inj e; omega) hu
  have K2 := KepS.over KK (.inl l3) hu
  clear hB hG hu PW KK
  obtain ⟨hB, hG⟩ := hBG
  have PW : PartW b99 ge EC n m (RA, RC) (some ⟨bN, oN, none⟩, NC) w.heap.size far0 es u := ⟨hB.tail.head, o2⟩
  have KK := K2
  have L7 := Lib.hid (And.intro l1 l2)
  clear o2 K2 l1 l2 l3
  refine r0T ?_
  refine A6S fun Kj hKj => ?_
  go_cut [8] from 39 to 47 (fun s8 wx => ∃ (o : Option (Nat × Nat)) (far1 : Nat) (es1 : List Int), s8 = .int .i64 (P9 o) ∧ o = E0 E cl (i1, 0) ∧ es1.length = m ∧ PartW b99 ge EC n m (RA, RC) (some ⟨bN, oN, none⟩, NC) w.heap.size far1 es1 wx ∧ KepS (A3f b99 ge) w1 wx ∧ Bx wx [(b7, 118, #[.int .i64 xr, .int .i64 xc, .int .i64 cl, .int .i64 ct]), (b99, 122, #[.slice RA n RC, .slice (some ⟨bN, oN, none⟩) m NC, .slice (some ⟨ge, 0, none⟩) m EC, .int .i64 (far1 : Nat)])] ∧ A3 w wx ∧ (∀ e d, o = some (e, d) → far1 = max far0 (deep + d) ∧ es1 = N8 ns es i1 e ∧ i1 ≤ e ∧ e ≤ m))
  case first =>
   rename_i Jj Kk hJj hMj
   by_cases h0 : cl = 0
   ·have f0 : (cl != 0) = false := by simp [h0]
    replace h0 := Lib.hid h0
    refine r0T ?_
    refine wp_cond_false (rfl) ?_
    refine wp_skip ?_
    refine A4 ?_
    refine hMj _ _ (Met.intro (hJj _ _ ?_))
    repeat apply Exists.intro
    refine ⟨?rel, rfl⟩
    case rel =>
     exact ⟨some (i1, 0), far0, es, rfl, by rw [h0.out, A2q], Hel.out, PW, KK, hB, hG, fun e d h => by
      cases h
      exact ⟨by have := Hf0.out; omega, (A7Y _ _ _).symm, Nat.le_refl _, hi1m⟩⟩
   ·have f0 : (cl != 0) = true := by simp [h0]
    replace h0 := Lib.hid h0
    by_cases h1 : cl = (i1 : Int)
    ·replace h1 := Lib.hid h1
     have hc := Hcl.out i1 far0 es u hG hii1 hi1m Hel.out PW
     have Hc := Lib.hid hc
     clear hc
     refine r0T ?_
     refine wp_cond_true (rfl) ?_
     refine wp_seq ?_
     refine wp_seq ?_
     have f1 : (cl != (i1 : Int)) = false := by simp [h1.out]
     refine r0N ?_
     refine wp_cond_false (rfl) ?_
     refine wp_skip ?_
     refine A4 ?_
     refine G5 ?_
     intro K hN
     go_wp2_with (go_at_call 61; refine Hc.out.mono ?_; rintro e w5 ⟨rfl, far1, es1, q0, q1, q2, q3, q4⟩)
     have hB2 : Bx w5 [(b7, 118, #[.int .i64 xr, .int .i64 xc, .int .i64 cl, .int .i64 ct]), (b99, 122, #[.slice RA n RC, .slice (some ⟨bN, oN, none⟩) m NC, .slice (some ⟨ge, 0, none⟩) m EC, .int .i64 (far1 : Nat)])] := Bx.cons (q2.blk hB.head (fun e => by have := L7.out; rcases e with e | e <;> omega)) (Bx.cons q1.blk (Bx.nil _))
     have KK2 := KK.trans (q2.mono fun _ _ h => h)
     clear hB hG PW KK Hc q2
     have hB := hB2
     have hG := q3
     have PW := q1
     have KK := KK2
     clear hB2 q3 q1 KK2
     refine NoK.norm (hN _ _ ?_)
     clear hN K
     obtain ⟨u, rfl⟩ : ∃ x, x = w5 := ⟨_, rfl⟩
     refine A4 ?_
     refine hMj _ _ (Met.intro (hJj _ _ ?_))
     repeat apply Exists.intro
     refine ⟨?rel, rfl⟩
     case rel =>
      refine ⟨E0 E cl (i1, 0), far1, es1, ?_, rfl, q0, PW, KK, hB, hG, ?_⟩
      ·cases hq : E i1 with
       | none => rw [A2j h0.out h1.out hq]; try rfl
       | some q => rw [A2A h0.out h1.out hq]; try rfl
      ·intro e d h
       cases hq : E i1 with
       | none => rw [A2j h0.out h1.out hq] at h; cases h
       | some q =>
        rw [A2A h0.out h1.out hq] at h
        cases h
        obtain ⟨g1, g2⟩ := q4 q.1 q.2 hq
        have g3 := Hle.out i1 q hq hii1
        exact ⟨by have := Hdp.out; omega, g2, by omega, g3.2⟩
    ·have f1 : (cl != (i1 : Int)) = true := by simp [h1]
     replace h1 := Lib.hid h1
     refine r0T ?_
     refine wp_cond_true (rfl) ?_
     refine wp_seq ?_
     refine r0T ?_
     refine wp_cond_true (rfl) ?_
     refine r0T ?_
     refine rt Tryz.results61 ?_
     refine ⟨by rw [A03 h0.out h1.out]; try rfl, far0, es, Hel.out, PW, KK, hG, fun e d h => ?_⟩
     rw [A03 h0.out h1.out] at h
     cases h
  case rest =>
   clear hB hG PW KK
   obtain ⟨o, far1, es1, rfl, ho, hel1, PW, KK, hB, hG, hoe⟩ := hcut
   obtain ⟨u, rfl⟩ : ∃ x, x = wc := ⟨_, rfl⟩
   have Hpn2 : B8 ns i = o.bind fun s => E0 E ct s := by rw [ho]; exact Hpn.out
   have Hpn3 := Lib.hid Hpn2
   have Hvv := Lib.hid (show ((E0 E cl (i1, 0)).bind fun s => E0 E ct s) = o.bind fun s => E0 E ct s by rw [ho])
   have Hel1 := Lib.hid hel1
   have Hoe := Lib.hid hoe
   clear Hpn2 Hpn ho hel1 hoe
   have hmm : o.bind (fun s => E0 E ct s) = o.bind (fun s => E0 E ct s) := rfl
   clear hmm
   refine hKj _ _ ?_
   clear hKj Kj
   refine wp_seq ?_
   rw [Hvv.out]
   clear Hvv
   cases o with
   | none =>
    simp only [P9]
    have fo : decide ((0 : Int) ≤ -1) = false := by decide
    by_cases h0 : ct = 0
    ·have f0 : (ct != 0) = false := by simp [h0]
     replace h0 := Lib.hid h0
     refine r0T ?_
     refine wp_cond_false (rfl) ?_
     refine wp_skip ?_
     refine A4 ?_
     refine wp_seq ?_
     have c9 := PW.own.cellAt i (by omega)
     have f9 := fun j => PW.own.frozenAt j
     obtain ⟨y9, hy9⟩ : ∃ y, (iv es1)[i]? = some y := ⟨_, List.getElem?_eq_getElem (by simp [iv, Hel1.out]; omega)⟩
     rw [hy9] at c9
     refine r0N ?_
     clear c9 f9 hy9
     obtain ⟨p1, p2⟩ := PW.setE (i := i) (v := -1) (fun e => Hne.out e)
     generalize World.setCell u ⟨ge, i, none⟩ _ = u0 at p1 p2 ⊢
     have K3 : KepS (fun k => k = ge) u u0 := KepS.ofGrown p2 (fun _ e => (Option.some.inj e).symm)
     have hG2 : A3 w u0 := hG.grown p2 (fun j e => by have := Option.some.inj e; omega)
     have hB2 := Bx.cons (K3.blk hB.head (fun e => by have := L7.out; omega)) (Bx.cons p1.blk (Bx.nil u0))
     have KK2 := KK.trans (K3.mono fun _ _ h => .inr h)
     clear hB hG PW KK p2 K3
     have hB := hB2
     have hG := hG2
     have PW := p1
     have KK := KK2
     clear hB2 hG2 p1 KK2
     obtain ⟨u, rfl⟩ : ∃ x, x = u0 := ⟨_, rfl⟩
     refine r0T ?_
     refine rt Tryz.results61 ?_
     exact ⟨rfl, far1, es1.set i (-1), by rw [List.length_set]; exact Hel1.out, PW, KK, hG, fun e d h => by cases h⟩
    ·have f0 : (ct != 0) = true := by simp [h0]
     replace h0 := Lib.hid h0
     refine r0T ?_
     refine wp_cond_false (rfl) ?_
     refine wp_skip ?_
     refine A4 ?_
     refine wp_seq ?_
     have c9 := PW.own.cellAt i (by omega)
     have f9 := fun j => PW.own.frozenAt j
     obtain ⟨y9, hy9⟩ : ∃ y, (iv es1)[i]? = some y := ⟨_, List.getElem?_eq_getElem (by simp [iv, Hel1.out]; omega)⟩
     rw [hy9] at c9
     refine r0N ?_
     clear c9 f9 hy9
     obtain ⟨p1, p2⟩ := PW.setE (i := i) (v := -1) (fun e => Hne.out e)
     generalize World.setCell u ⟨ge, i, none⟩ _ = u0 at p1 p2 ⊢
     have K3 : KepS (fun k => k = ge) u u0 := KepS.ofGrown p2 (fun _ e => (Option.some.inj e).symm)
     have hG2 : A3 w u0 := hG.grown p2 (fun j e => by have := Option.some.inj e; omega)
     have hB2 := Bx.cons (K3.blk hB.head (fun e => by have := L7.out; omega)) (Bx.cons p1.blk (Bx.nil u0))
     have KK2 := KK.trans (K3.mono fun _ _ h => .inr h)
     clear hB hG PW KK p2 K3
     have hB := hB2
     have hG := hG2
     have PW := p1
     have KK := KK2
     clear hB2 hG2 p1 KK2
     obtain ⟨u, rfl⟩ : ∃ x, x = u0 := ⟨_, rfl⟩
     refine r0T ?_
     refine rt Tryz.results61 ?_
     exact ⟨rfl, far1, es1.set i (-1), by rw [List.length_set]; exact Hel1.out, PW, KK, hG, fun e d h => by cases h⟩
   | some p =>
    obtain ⟨e1, d1⟩ := p
    simp only [P9]
    obtain ⟨he1, he2, he3, he4⟩ := Hoe.out e1 d1 rfl
    have He := Lib.hid (And.intro he1 he2)
    clear he1 he2
    have fo : decide ((0 : Int) ≤ (e1 : Int)) = true := by simp
    by_cases h0 : ct = 0
    ·have f0 : (ct != 0) = false := by simp [h0]
     replace h0 := Lib.hid h0
     refine r0T ?_
     refine wp_cond_false (rfl) ?_
     refine wp_skip ?_
     refine A4 ?_
     refine wp_seq ?_
     have c9 := PW.own.cellAt i (by omega)
     have f9 := fun j => PW.own.frozenAt j
     obtain ⟨y9, hy9⟩ : ∃ y, (iv es1)[i]? = some y := ⟨_, List.getElem?_eq_getElem (by simp [iv, Hel1.out]; omega)⟩
     rw [hy9] at c9
     refine r0N ?_
     clear c9 f9 hy9
     obtain ⟨p1, p2⟩ := PW.setE (i := i) (v := (e1 : Nat)) (fun e => Hne.out e)
     generalize World.setCell u ⟨ge, i, none⟩ _ = u0 at p1 p2 ⊢
     have K3 : KepS (fun k => k = ge) u u0 := KepS.ofGrown p2 (fun _ e => (Option.some.inj e).symm)
     have hG2 : A3 w u0 := hG.grown p2 (fun j e => by have := Option.some.inj e; omega)
     have hB2 := Bx.cons (K3.blk hB.head (fun e => by have := L7.out; omega)) (Bx.cons p1.blk (Bx.nil u0))
     have KK2 := KK.trans (K3.mono fun _ _ h => .inr h)
     clear hB hG PW KK p2 K3
     have hB := hB2
     have hG := hG2
     have PW := p1
     have KK := KK2
     clear hB2 hG2 p1 KK2
     obtain ⟨u, rfl⟩ : ∃ x, x = u0 := ⟨_, rfl⟩
     refine r0T ?_
     refine rt Tryz.results61 ?_
     have hv : ((some (e1, d1) : Option (Nat × Nat)).bind fun s => E0 E ct s) = some (e1, d1) := by rw [Option.bind_some, h0.out, A2q]
     refine ⟨by rw [hv]; try rfl, far1, es1.set i (e1 : Nat), by rw [List.length_set]; exact Hel1.out, PW, KK, hG, fun e d h => ?_⟩
     have hp := Hpn3.out
     rw [hv] at h hp
     cases h
     exact ⟨by have := Hf0.out; have := He.out.1; omega, by rw [He.out.2, Hi1.out]; exact A5D (by rw [Hel.out]; exact him) (by omega) (by rw [hp]; try rfl)⟩
    ·have f0 : (ct != 0) = true := by simp [h0]
     replace h0 := Lib.hid h0
     by_cases h1 : ct = (e1 : Int)
     ·replace h1 := Lib.hid h1
      have hc := Hcl.out e1 far1 es1 u hG (by omega) he4 Hel1.out PW
      have hle1 := fun q hq => Hle.out e1 q hq (by omega)
      have Hle1 := Lib.hid hle1
      cases hq : E e1 with
      | none =>
       rw [hq] at hc
       simp only [P9] at hc
       replace hq := Lib.hid hq
       have Hc := Lib.hid hc
       clear hc
       refine r0T ?_
       refine wp_cond_true (rfl) ?_
       refine wp_seq ?_
       refine wp_seq ?_
       have f1 : (ct != (e1 : Int)) = false := by simp [h1.out]
       refine r0N ?_
       refine wp_cond_false (rfl) ?_
       refine wp_skip ?_
       refine A4 ?_
       refine G5 ?_
       intro K hN
       go_wp2_with (go_at_call 61; refine Hc.out.mono ?_; rintro e w5 ⟨rfl, far2, es2, q0, g1, g2, g3, g4⟩)
       have hB2 : Bx w5 [(b7, 118, #[.int .i64 xr, .int .i64 xc, .int .i64 cl, .int .i64 ct]), (b99, 122, #[.slice RA n RC, .slice (some ⟨bN, oN, none⟩) m NC, .slice (some ⟨ge, 0, none⟩) m EC, .int .i64 (far2 : Nat)])] := Bx.cons (g2.blk hB.head (fun e => by have := L7.out; rcases e with e | e <;> omega)) (Bx.cons g1.blk (Bx.nil _))
       have KK2 := KK.trans (g2.mono fun _ _ h => h)
       clear hB hG PW KK Hc g2
       have hB := hB2
       have hG := g3
       have PW := g1
       have KK := KK2
       clear hB2 g3 g1 KK2
       refine NoK.norm (hN _ _ ?_)
       clear hN K
       obtain ⟨u, rfl⟩ : ∃ x, x = w5 := ⟨_, rfl⟩
       refine A4 ?_
       refine wp_seq ?_
       have c9 := PW.own.cellAt i (by omega)
       have f9 := fun j => PW.own.frozenAt j
       obtain ⟨y9, hy9⟩ : ∃ y, (iv es2)[i]? = some y := ⟨_, List.getElem?_eq_getElem (by simp [iv, q0]; omega)⟩
       rw [hy9] at c9
       refine r0N ?_
       clear c9 f9 hy9
       obtain ⟨p1, p2⟩ := PW.setE (i := i) (v := -1) (fun e => Hne.out e)
       generalize World.setCell u ⟨ge, i, none⟩ _ = u0 at p1 p2 ⊢
       have K3 : KepS (fun k => k = ge) u u0 := KepS.ofGrown p2 (fun _ e => (Option.some.inj e).symm)
       have hG2 : A3 w u0 := hG.grown p2 (fun j e => by have := Option.some.inj e; omega)
       have hB2 := Bx.cons (K3.blk hB.head (fun e => by have := L7.out; omega)) (Bx.cons p1.blk (Bx.nil u0))
       have KK2 := KK.trans (K3.mono fun _ _ h => .inr h)
       clear hB hG PW KK p2 K3
       have hB := hB2
       have hG := hG2
       have PW := p1
       have KK := KK2
       clear hB2 hG2 p1 KK2
       obtain ⟨u, rfl⟩ : ∃ x, x = u0 := ⟨_, rfl⟩
       refine r0T ?_
       refine rt Tryz.results61 ?_
       have hv : ((some (e1, d1) : Option (Nat × Nat)).bind fun s => E0 E ct s) = none := by rw [Option.bind_some, A2j h0.out h1.out hq.out]
       refine ⟨by rw [hv]; try rfl, far2, es2.set i (-1), by rw [List.length_set]; exact q0, PW, KK, hG, fun e d h => ?_⟩
       rw [hv] at h
       cases h
      | some q =>
       obtain ⟨q1, q2⟩ := q
       rw [hq] at hc
       simp only [P9] at hc
       replace hq := Lib.hid hq
       have Hc := Lib.hid hc
       clear hc
       refine r0T ?_
       refine wp_cond_true (rfl) ?_
       refine wp_seq ?_
       refine wp_seq ?_
       have f1 : (ct != (e1 : Int)) = false := by simp [h1.out]
       refine r0N ?_
       refine wp_cond_false (rfl) ?_
       refine wp_skip ?_
       refine A4 ?_
       refine G5 ?_
       intro K hN
       go_wp2_with (go_at_call 61; refine Hc.out.mono ?_; rintro e w5 ⟨rfl, far2, es2, q0, g1, g2, g3, g4⟩)
       have hB2 : Bx w5 [(b7, 118, #[.int .i64 xr, .int .i64 xc, .int .i64 cl, .int .i64 ct]), (b99, 122, #[.slice RA n RC, .slice (some ⟨bN, oN, none⟩) m NC, .slice (some ⟨ge, 0, none⟩) m EC, .int .i64 (far2 : Nat)])] := Bx.cons (g2.blk hB.head (fun e => by have := L7.out; rcases e with e | e <;> omega)) (Bx.cons g1.blk (Bx.nil _))
       have KK2 := KK.trans (g2.mono fun _ _ h => h)
       clear hB hG PW KK Hc g2
       have hB := hB2
       have hG := g3
       have PW := g1
       have KK := KK2
       clear hB2 g3 g1 KK2
       refine NoK.norm (hN _ _ ?_)
       clear hN K
       obtain ⟨u, rfl⟩ : ∃ x, x = w5 := ⟨_, rfl⟩
       refine A4 ?_
       refine wp_seq ?_
       have c9 := PW.own.cellAt i (by omega)
       have f9 := fun j => PW.own.frozenAt j
       obtain ⟨y9, hy9⟩ : ∃ y, (iv es2)[i]? = some y := ⟨_, List.getElem?_eq_getElem (by simp [iv, q0]; omega)⟩
       rw [hy9] at c9
       refine r0N ?_
       clear c9 f9 hy9
       obtain ⟨p1, p2⟩ := PW.setE (i := i) (v := (q1 : Nat)) (fun e => Hne.out e)
       generalize World.setCell u ⟨ge, i, none⟩ _ = u0 at p1 p2 ⊢
       have K3 : KepS (fun k => k = ge) u u0 := KepS.ofGrown p2 (fun _ e => (Option.some.inj e).symm)
       have hG2 : A3 w u0 := hG.grown p2 (fun j e => by have := Option.some.inj e; omega)
       have hB2 := Bx.cons (K3.blk hB.head (fun e => by have := L7.out; omega)) (Bx.cons p1.blk (Bx.nil u0))
       have KK2 := KK.trans (K3.mono fun _ _ h => .inr h)
       clear hB hG PW KK p2 K3
       have hB := hB2
       have hG := hG2
       have PW := p1
       have KK := KK2
       clear hB2 hG2 p1 KK2
       obtain ⟨u, rfl⟩ : ∃ x, x = u0 := ⟨_, rfl⟩
       refine r0T ?_
       refine rt Tryz.results61 ?_
       have hv : ((some (e1, d1) : Option (Nat × Nat)).bind fun s => E0 E ct s) = some (q1, max d1 (q2 + 1)) := by rw [Option.bind_some, A2A h0.out h1.out hq.out]
       refine ⟨by rw [hv]; try rfl, far2, es2.set i (q1 : Nat), by rw [List.length_set]; exact q0, PW, KK, hG, fun e d h => ?_⟩
       have hp := Hpn3.out
       rw [hv] at h hp
       cases h
       obtain ⟨k1, k2⟩ := g4 q1 q2 rfl
       have k3 := (Hle1.out _ hq.out).1
       simp only at k3
       exact ⟨by have := Hf0.out; have := He.out.1; have := Hdp.out; omega, by rw [k2, He.out.2, B14 (by omega) (by omega), Hi1.out]; exact A5D (by rw [Hel.out]; exact him) (by omega) (by rw [hp]; try rfl)⟩
     ·have f1 : (ct != (e1 : Int)) = true := by simp [h1]
      replace h1 := Lib.hid h1
      refine r0T ?_
      refine wp_cond_true (rfl) ?_
      refine wp_seq ?_
      refine r0T ?_
      refine wp_cond_true (rfl) ?_
      refine r0T ?_
      refine rt Tryz.results61 ?_
      refine ⟨by rw [show ((some (e1, d1) : Option (Nat × Nat)).bind fun s => E0 E ct s) = E0 E ct (e1, d1) from rfl, A03 h0.out h1.out]; try rfl, far1, es1, Hel1.out, PW, KK, hG, fun e d h => ?_⟩
      rw [show ((some (e1, d1) : Option (Nat × Nat)).bind fun s => E0 E ct s) = E0 E ct (e1, d1) from rfl, A03 h0.out h1.out] at h
      cases h
 ·rw [A6j (by omega)]
  have hmi : decide ((m : Int) ≤ (i : Int)) = true := by simp; omega
  have hmin : decide (m ≤ i) = true := by simp; omega
  have hbk : ∀ V, A3 w V → V.cell? ⟨b99, 1, none⟩ = some (.slice NA m NC) := fun V hg => (hP.blk.grow hg).cell 1
  have Hbk := Lib.hid hbk
  have HP := Lib.hid hP
  have HG0 := Lib.hid hG0
  clear hN hbk hih hP hG0 fdm
  go_enter Tryz.func61, Tryz.ntmps61
  refine en0 ?_
  intro u hG hB hF
  refine wp_seq ?_
  refine wp_seq ?_
  have q0 := Hbk.out u hG
  refine r0N ?_
  refine wp_cond_true (rfl) ?_
  refine r0T ?_
  refine rt Tryz.results61 ?_
  exact ⟨rfl, far, es, hel, HP.out.grow hG, KepS.ofGrow hG, HG0.out.trans hG, fun e d h => by cases h⟩
end Go.Proofs.YtjmopgepnndckaaGreatDoor
