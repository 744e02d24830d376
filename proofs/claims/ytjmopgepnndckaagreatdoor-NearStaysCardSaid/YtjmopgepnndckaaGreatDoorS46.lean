/-
  Contracts and laws: NearRW.
-/
import Derived.Test.YtjmopgepnndckaaGreatDoorS41
import Derived.Test.YtjmopgepnndckaaGreatDoorS44
set_option linter.unusedSimpArgs false
set_option linter.unusedVariables false
namespace Go.Proofs.YtjmopgepnndckaaGreatDoor
open Go Go.RowKit
set_option maxHeartbeats 16000000 in
set_option maxRecDepth 100000 in
theorem ref22_grow_step (b99 n Lw : Nat) (RA : Option Addr) (RC : Nat) (rs : List Rq) (w0 : World) (hbw : w0.heap.size ≤ b99) (hn : rs.length = n) (hn0 : 0 < n) (hn2 : n ≤ 100000) (hL1 : 1 ≤ Lw) (hL2 : Lw ≤ 100000) (hrl : ∀ r ∈ rs, r.2.2.length = Lw) (s : Nat) (hs : ∀ r ∈ rs, ∀ x ∈ r.2.2, qs x ≤ s) (hBz : 2 * s + 1 ≤ BIG) (hX : Lrz w0 RA rs)
  (m : Nat) (hih : ∀ m' < m, RGrowOK b99 n Lw RA RC (rs.map (·.2.2)) w0 m') : RGrowOK b99 n Lw RA RC (rs.map (·.2.2)) w0 m := by
 intro is col A c ns NA NC k w hm hm0 hin hcol hke hk hG0 hli hbt hown hn9
 obtain ⟨X, hXe⟩ : ∃ X, X = rs.map (·.2.2) := ⟨_, rfl⟩
 have hah := fun (a b : Nat) (ha : a < n) (hb : b < n) (W : World) (hg : Grow w W) => ref22_ahead RA rs n Lw RC col a b hn hrl ha hb hcol s hs hBz W (hX.grow (hG0.trans hg))
 obtain ⟨h, hh⟩ : ∃ h, m / 2 = h := ⟨_, rfl⟩
 have fh : (m : Int).tdiv 2 = (h : Int) := by rw [Int.tdiv_eq_ediv_of_nonneg (by omega)]; omega
 have fwh : IntKind.i64.wrap (h : Int) = (h : Int) := IntWalk.i64_in _ (by omega)
 obtain ⟨h1, hh1⟩ : ∃ x, h + 1 = x := ⟨_, rfl⟩
 have fh1 : IntKind.i64.wrap ((h : Int) + 1) = (h1 : Int) := by rw [IntWalk.i64_in _ (by omega)]; omega
 obtain ⟨c1, hc1⟩ : ∃ x, col + 1 = x := ⟨_, rfl⟩
 obtain ⟨c2, hc2⟩ : ∃ x, c1 % Lw = x := ⟨_, rfl⟩
 have hc2L : c2 < Lw := by rw [← hc2]; exact Nat.mod_lt _ hL1
 have fc1 : IntKind.i64.wrap ((col : Int) + 1) = (c1 : Int) := by rw [IntWalk.i64_in _ (by omega)]; omega
 have fc2 : (c1 : Int).tmod (Lw : Int) = (c2 : Int) := by rw [Int.tmod_eq_emod_of_nonneg (by omega)]; omega
 have fwc : IntKind.i64.wrap (c2 : Int) = (c2 : Int) := IntWalk.i64_in _ (by omega)
 have hfl := flat_grow X Lw col k m h is hm hm0 hh
 rw [hc1, hc2] at hfl
 simp only [← hXe] at hih hah ⊢
 have hhm : h < m := by omega
 obtain ⟨k1, hk1⟩ : ∃ x, k + 1 = x := ⟨_, rfl⟩
 have hki : (k : Int) < (k1 : Int) := by omega
 have hkn : k < k1 := by omega
 have hmi : (0 : Int) < (m : Int) := by omega
 have hhi : (h : Int) < (m : Int) := by omega
 have hni : (0 : Int) < (n : Int) := by omega
 have hLne : decide (Lw = 0) = false := by simp; omega
 have fL1 : Lw ≠ 0 := by omega
 have hnne : decide (n = 0) = false := by simp; omega
 have hrow0 : ∃ (bb ob : Nat), RA = some ⟨bb, ob, none⟩ ∧ ∃ (Ar : Option Addr) (cr : Nat), ∀ W, Grow w0 W → W.cell? ⟨bb, ob, none⟩ = some (.slice Ar Lw cr) := by
  obtain ⟨bb, ob, e⟩ := hX.addr (by omega)
  have hil : 0 < rs.length := by omega
  refine ⟨bb, ob, e, rs[0].1, rs[0].2.1, fun W hg => ?_⟩
  have h1 := hX.grow hg
  rw [e] at h1
  have h2 := (h1.read (List.getElem?_eq_getElem hil)).1
  rw [hrl _ (List.getElem_mem hil), Nat.add_zero] at h2
  exact h2
 obtain ⟨bb, ob, rfl, Ar, cr, hr0⟩ := hrow0
 obtain ⟨ba, oa, rfl, -⟩ := hli.cell (i := 0) (by simp [ints, hm]; omega)
 have hrd : ∀ i (hi : i < is.length) W, Grow w W → W.cell? ⟨ba, oa + i, none⟩ = some (.int .i64 (is[i] : Nat)) := fun i hi W hg => by
  obtain ⟨b', o', e, hb', hc'⟩ := (hli.grow hg) (fun e => by simp [ints] at e; rw [e] at hi; simp at hi)
  cases e
  exact hc' i _ (by simp [ints, hi])
 have hbt2 : ∀ W, Grow w W → W.cell? ⟨b99, 0, none⟩ = some (.slice (some ⟨bb, ob, none⟩) n RC) := fun W hg => (hbt.grow hg).cell 0
 have Hah := Lib.hid hah
 have Hr0 := Lib.hid hr0
 have Hrd := Lib.hid hrd
 have Hbt2 := Lib.hid hbt2
 have Hih := Lib.hid hih
 have Hfl := Lib.hid hfl
 have Hbt := Lib.hid hbt
 have Hown := Lib.hid hown
 have Hke := Lib.hid hke
 have Hk1 := Lib.hid hk1
 have Hh1 := Lib.hid hh1
 have Hk := Lib.hid hk
 have Hh := Lib.hid hh
 have Hm := Lib.hid hm
 have Hin := Lib.hid hin
 have HG0 := Lib.hid hG0
 have Hn9 := Lib.hid hn9
 have hm6 : m ≤ 1000000 := by omega
 clear hh hh1 hc1 hc2 hBz hk hah hr0 hih hfl hbt hown hX hli hs hrl hin hn hXe hm hke hk1 hrd hbt2 hG0 hn9
 go_enter Tryz.func60, Tryz.ntmps60
 refine en0 ?_
 intro u hG hB hF
 refine wp_seq ?_
 refine r0T ?_
 refine wp_block ?_
 clear hF
 go_loopw [7, 6] (fun s0 s1 wr => ∃ (i : Nat) (ps : List Nat), i ≤ m ∧ s0 = .int .i64 i ∧ ps.Perm (is.take i) ∧ ps.Pairwise (leC X col) ∧ wr.ownsRow w.heap.size 3 1 s1 i (nv ps) ∧ Grow w wr) (fun s0 _ _ => m - (intOf s0).toNat)
 case atStart => exact ⟨0, [], Nat.zero_le _, rfl, List.Perm.refl _, List.Pairwise.nil, World.ownsRow_nil _ _ _ _, hG⟩
 case round =>
  clear hG hB
  obtain ⟨i, ps, hi, rfl, hpp, hps, ho, hG⟩ := hrel
  obtain ⟨u, rfl⟩ : ∃ x, x = wr := ⟨_, rfl⟩
  have hB := Bx.nil u
  have hF := Fr.nil w
  have hpl : ps.length = i := by have := ho.1; simp [nv] at this; omega
  obtain ⟨A', cc, rfl⟩ := own_shape ho
  rcases Nat.lt_or_ge i m with hlt | hge
  ·have hdec : decide ((i : Int) < (m : Int)) = true := by simp; omega
   have him : (i : Int) < (m : Int) := by omega
   have hil : i < is.length := by rw [Hm.out]; exact hlt
   have hrdi := fun W hg => Hrd.out i hil W hg
   have htk : is.take (i + 1) = is.take i ++ [is[i]] := by rw [List.take_add_one, List.getElem?_eq_getElem hil]; rfl
   have hxn : is[i] < n := Hin.out _ (List.getElem_mem hil)
   have hpn : ∀ y ∈ ps, y < n := fun y hy => Hin.out y (List.mem_of_mem_take (hpp.mem_iff.1 hy))
   obtain ⟨x, hx⟩ : ∃ x, x = is[i] := ⟨_, rfl⟩
   rw [← hx] at htk hxn
   simp only [← hx] at hrdi
   have hins : ∀ k, k ≤ ps.length → (∀ j (h : j < ps.length), k ≤ j → ¬ leC X col ps[j] x) → (∀ j (h : j < ps.length), j + 1 = k → leC X col ps[j] x) → (insAt ps k x).Perm (is.take (i + 1)) ∧ (insAt ps k x).Pairwise (leC X col) := fun k hk h1 h2 => by
    rw [htk]
    exact srtC_ins hpp hps hk h1 h2
   have Ho := Lib.hid ho
   have Hrdi := Lib.hid hrdi
   have Hins := Lib.hid hins
   have Hxn := Lib.hid hxn
   have Hpn := Lib.hid hpn
   clear ho hrdi hins hxn hpn htk hx hpp hps hil
   refine wp_seq ?_
   refine r0T ?_
   refine wp_cond_true (rfl) ?_
   refine wp_skip ?_
   refine then_norm ?_
   refine wp_seq ?_
   refine wp_block ?_
   refine r0T ?_
   refine wp_seq ?_
   refine wp_rs (w := w) allocs 5 [0, 0, 0, 0, 0] (by kernel_rfl) (by simp only [List.drop_succ_cons, List.drop_zero]; exact rfl) (fun _ => True) noG hB hG trivial ?_
   intro K L hN hL
   simp only [List.zip_cons_cons, List.zip_nil_left]
   repeat first | refine gya ?_ | refine gyr ?_ | refine gna ?_ | refine gyb (by (rintro v ⟨hgu, hB, hG, -⟩ N hN; have r := hB.r; simp only [BxR] at r; have q1 := Hrdi.out v hG; go_simp; exact hN)) ?_
   refine gend ?_
   rintro v ⟨hgu, hB1, hG1, -⟩
   have ROWn := Lib.hid (own_grow' Ho.out hgu)
   clear Ho
   have Ho := ROWn
   clear ROWn
   clear hB hG
   have hB := hB1
   have hG := hG1
   clear hB1 hG1
   refine hL _ _ ?_
   clear hL L hgu
   obtain ⟨u, rfl⟩ : ∃ x, x = v := ⟨_, rfl⟩
   refine app_tailG ei_int w.heap.size _ _ _ _ [Value.int .i64 (x : Nat)] rfl rfl (bs_int (x : Nat) u) rfl (fun _ => rfl) (fun _ => rfl) (fun _ _ => rfl) Ho.out (by omega) (by omega) hG.sz fun p v' w' g1 g2 g3 => ?_
   have hBn := Bx.nil w'
   have hGn := own_growth Ho.out hG g2
   clear Ho hB hG
   have Ho := Lib.hid g1
   have hB := hBn
   have hG := hGn
   clear g1 g2 g3 hBn hGn
   obtain ⟨u, rfl⟩ : ∃ x, x = w' := ⟨_, rfl⟩
   simp only [Act.put, List.setIfInBounds_toArray, List.set_cons_succ, List.set_cons_zero]
   refine NoK.norm (hN _ _ ?_)
   clear hN K
   refine then_norm ?_
   refine wp_seq ?_
   refine wp_block ?_
   have ho2 : u.ownsRow w.heap.size 3 1 v' (i + 1) (nv (insAt ps i x)) := by
    have h1 := Ho.out
    rw [nv_app] at h1
    rw [show insAt ps i x = ps ++ [x] by rw [← hpl]; exact insAt_end _ _]
    exact h1
   clear Ho
   obtain ⟨i1, hi1⟩ : ∃ x, i + 1 = x := ⟨_, rfl⟩
   rw [hi1] at ho2
   obtain ⟨g, cap, rfl, hgb, hcap⟩ := own_slice ho2 (by omega)
   go_loopw [8] (fun s0 wr => ∃ (k : Nat) (y : Nat), k ≤ i ∧ s0 = .int .i64 k ∧ (∀ j (h : j < ps.length), k ≤ j → ¬ leC X col ps[j] x) ∧ wr.ownsRow w.heap.size 3 1 (.slice (some ⟨g, 0, none⟩) i1 cap) i1 (nv (insAt ps k y)) ∧ Grow w wr) (fun s0 _ => (intOf s0).toNat)
   case atStart => exact ⟨i, x, Nat.le_refl _, rfl, (fun j h hj => by omega), ho2, hG⟩
   case round =>
    clear hG ho2 hB
    obtain ⟨k, y, hk, rfl, hup, ho, hG⟩ := hrel
    obtain ⟨u, rfl⟩ : ∃ x, x = wr := ⟨_, rfl⟩
    have hB := Bx.nil u
    have hki' : (k : Int) < (i1 : Int) := by omega
    rcases Nat.eq_zero_or_pos k with rfl | hk0
    ·have hr := Lib.hid (Hins.out 0 (by omega) hup (fun j h hj => by omega))
     have Ho := Lib.hid ho
     clear ho hup
     refine wp_seq ?_
     refine wp_seq (rdC allocs [] [(0, 0), (0, 1), (0, 2), (0, 3), (0, 4), (0, 5), (0, 6), (0, 7), (0, 8), (0, 9), (0, 10), (0, 11), (0, 12), (0, 13), (0, 14), (0, 15), (0, 16), (1, 17)] hB hG fun K L hN hL => ?_)
     repeat first | refine gya ?_ | refine gyr ?_ | refine gna ?_ | refine gyb (by (rintro v ⟨hgu, hB, hG, -⟩ N hN; have r := hB.r; simp only [BxR] at r; have q1 := Hrdi.out v hG; have q2 := Hbt2.out v hG; go_simp; exact hN)) ?_
     first | refine gmd (C := fun v ⟨hgu, hB, hG, _⟩ => Hah.out x x Hxn.out Hxn.out _ hG) ?_ | refine gmna ?_
     refine geC hL ?_
     clear hB hG hL L
     rintro u ⟨hgu, hB, hG, -⟩
     have Ho2 := Lib.hid (own_grow' Ho.out hgu)
     clear Ho
     have Ho := Ho2
     clear Ho2
     clear hgu
     refine gtT ?_
     clear hN K
     refine wp_cond_false (rfl) ?_
     refine wp_exit ?_
     refine then_exit ?_
     refine then_exit ?_
     refine blk_exit ?_
     refine then_norm ?_
     have c9 := Ho.out.cellAt 0 (by omega)
     rw [nv_at (by rw [insAt_len _ _ _ (by omega)]; omega)] at c9
     have f9 := fun j => Ho.out.frozenAt j
     have q1 := Hrdi.out u hG
     refine r0E ?_
     clear c9 f9
     generalize hu0 : World.setCell u ⟨g, 0, none⟩ _ = u0
     obtain ⟨p1, p2⟩ := Ho.out.stored 0 (.int .i64 (x : Nat))
     rw [hu0] at p1 p2
     rw [nv_set, insAt_set _ _ _ _ (by omega)] at p1
     have hG2 := own_kgrow' Ho.out hG p2
     clear hB hG Ho hu0 p2
     have hG := hG2
     have Ho := Lib.hid p1
     clear hG2 p1
     obtain ⟨u, rfl⟩ : ∃ x, x = u0 := ⟨_, rfl⟩
     have hB := Bx.nil u
     refine blk_norm ?_
     refine then_norm ?_
     refine r0E ?_
     refine then_norm ?_
     go_roundw
     case rel => exact ⟨i + 1, insAt ps 0 x, by omega, by go_num, hr.out.1, hr.out.2, by rw [hi1]; exact Ho.out, hG⟩
     case measure => simp [intOf]; omega
    ·obtain ⟨k0, hk0e⟩ : ∃ x, x = k - 1 := ⟨_, rfl⟩
     have hk0l : k0 < ps.length := by omega
     have fk : IntKind.i64.wrap ((k : Int) - 1) = (k0 : Int) := by rw [IntWalk.i64_in _ (by omega)]; omega
     have hdk : decide ((0 : Int) < (k : Int)) = true := by simp; omega
     have hdk0 : decide (0 < k) = true := by simp; omega
     have hk0i : (k0 : Int) < (i1 : Int) := by omega
     have hkk : k = k0 + 1 := by omega
     have hil2 : k0 < (insAt ps k y).length := by rw [insAt_len _ _ _ (by omega)]; omega
     have eg : (insAt ps k y)[k0] = ps[k0] := by
      have h1 := insAt_get ps k k0 y (by omega) (by omega)
      rw [List.getElem?_eq_getElem hil2, List.getElem?_eq_getElem hk0l] at h1
      exact Option.some.inj h1
     have hcz : u.cell? ⟨g, k0, none⟩ = some (.int .i64 (ps[k0] : Nat)) := by
      rw [ho.cellAt k0 (by omega), nv_at hil2, eg]
     have hgl : g < u.heap.size := (ho.lt g rfl).2
     have hrk : ∀ W, Grow u W → W.cell? ⟨g, k0, none⟩ = some (.int .i64 (ps[k0] : Nat)) := fun W hg => (hg.cell (p := ⟨g, k0, none⟩) hgl).trans hcz
     have hdn := insAt_down ps k0 y hk0l
     rw [← hkk] at hdn
     have hahk := fun W hg => Hah.out x ps[k0] Hxn.out (Hpn.out _ (List.getElem_mem hk0l)) W hg
     have hst : leC X col ps[k0] x → (insAt ps k x).Perm (is.take (i + 1)) ∧ (insAt ps k x).Pairwise (leC X col) := fun hle => Hins.out k (by omega) hup (fun j h hj => by
      have e : j = k0 := by omega
      subst e
      exact hle)
     have hup2 : ¬ leC X col ps[k0] x → ∀ j (h : j < ps.length), k0 ≤ j → ¬ leC X col ps[j] x := fun hle j h hj => by
      rcases Nat.eq_or_lt_of_le hj with rfl | hlt
      ·exact hle
      ·exact hup j h (by omega)
     clear hup hcz eg hgl
     have hk0k : k0 < k := by omega
     have hkp : k ≤ ps.length := by omega
     obtain ⟨R, hR⟩ : ∃ R, R = ps[k0] := ⟨_, rfl⟩
     rw [← hR] at hdn hst hup2
     simp only [← hR] at hrk hahk
     by_cases hXY : leC X col R x
     ·have fc : decide (¬ leC X col R x) = false := by simp [hXY]
      have hr := Lib.hid (hst hXY)
      rw [fc] at hahk
      have Hahk := Lib.hid hahk
      have Hrk := Lib.hid hrk
      have Ho := Lib.hid ho
      clear hst hup2 hXY fc hrk hdn ho hR hkk hk0e hahk hil2
      refine wp_seq ?_
      refine wp_seq (rdC allocs [] [(0, 0), (0, 1), (0, 2), (0, 3), (0, 4), (0, 5), (0, 6), (0, 7), (0, 8), (0, 9), (0, 10), (0, 11), (0, 12), (0, 13), (0, 14), (0, 15), (0, 16), (1, 17)] hB hG fun K L hN hL => ?_)
      repeat first | refine gya ?_ | refine gyr ?_ | refine gna ?_ | refine gyb (by (rintro v ⟨hgu, hB, hG, -⟩ N hN; have r := hB.r; simp only [BxR] at r; have q1 := Hrdi.out v hG; have q2 := Hbt2.out v hG; have q3 := Hrk.out v hgu; go_simp; exact hN)) ?_
      first | refine gmd (C := fun v ⟨hgu, hB, hG, _⟩ => Hahk.out _ hG) ?_ | refine gmna ?_
      refine geC hL ?_
      clear hB hG hL L
      rintro u ⟨hgu, hB, hG, -⟩
      have Ho2 := Lib.hid (own_grow' Ho.out hgu)
      clear Ho
      have Ho := Ho2
      clear Ho2
      clear hgu
      refine gtT ?_
      clear hN K
      refine wp_cond_false (rfl) ?_
      refine wp_exit ?_
      refine then_exit ?_
      refine then_exit ?_
      refine blk_exit ?_
      refine then_norm ?_
      have c9 := Ho.out.cellAt k (by omega)
      rw [nv_at (by rw [insAt_len _ _ _ (by omega)]; omega)] at c9
      have f9 := fun j => Ho.out.frozenAt j
      have q1 := Hrdi.out u hG
      refine r0E ?_
      clear c9 f9
      generalize hu0 : World.setCell u ⟨g, k, none⟩ _ = u0
      obtain ⟨p1, p2⟩ := Ho.out.stored k (.int .i64 (x : Nat))
      rw [hu0] at p1 p2
      rw [nv_set, insAt_set _ _ _ _ (by omega)] at p1
      have hG2 := own_kgrow' Ho.out hG p2
      clear hB hG Ho Hrk hu0 p2
      have hG := hG2
      have Ho := Lib.hid p1
      clear hG2 p1
      obtain ⟨u, rfl⟩ : ∃ x, x = u0 := ⟨_, rfl⟩
      have hB := Bx.nil u
      refine blk_norm ?_
      refine then_norm ?_
      refine r0E ?_
      refine then_norm ?_
      go_roundw
      case rel => exact ⟨i + 1, insAt ps k x, by omega, by go_num, hr.out.1, hr.out.2, by rw [hi1]; exact Ho.out, hG⟩
      case measure => simp [intOf]; omega
     ·have fc : decide (¬ leC X col R x) = true := by simp [hXY]
      have Hup := Lib.hid (hup2 hXY)
      rw [fc] at hahk
      have Hahk := Lib.hid hahk
      have Hrk := Lib.hid hrk
      have Hdn := Lib.hid hdn
      have Ho := Lib.hid ho
      clear hst hup2 hXY fc hrk hdn ho hR hkk hk0e hahk hil2
      refine wp_seq ?_
      refine wp_seq (rdC allocs [] [(0, 0), (0, 1), (0, 2), (0, 3), (0, 4), (0, 5), (0, 6), (0, 7), (0, 8), (0, 9), (0, 10), (0, 11), (0, 12), (0, 13), (0, 14), (0, 15), (0, 16), (1, 17)] hB hG fun K L hN hL => ?_)
      repeat first | refine gya ?_ | refine gyr ?_ | refine gna ?_ | refine gyb (by (rintro v ⟨hgu, hB, hG, -⟩ N hN; have r := hB.r; simp only [BxR] at r; have q1 := Hrdi.out v hG; have q2 := Hbt2.out v hG; have q3 := Hrk.out v hgu; go_simp; exact hN)) ?_
      first | refine gmd (C := fun v ⟨hgu, hB, hG, _⟩ => Hahk.out _ hG) ?_ | refine gmna ?_
      refine geC hL ?_
      clear hB hG hL L
      rintro u ⟨hgu, hB, hG, -⟩
      have Hrk2 := Lib.hid (fun W hg => Hrk.out W (hgu.trans hg))
      have Ho2 := Lib.hid (own_grow' Ho.out hgu)
      clear Hrk Ho
      have Hrk := Hrk2
      have Ho := Ho2
      clear Hrk2 Ho2
      clear hgu
      refine gtT ?_
      clear hN K
      refine wp_cond_true (rfl) ?_
      refine wp_skip ?_
      refine then_norm ?_
      refine wp_block ?_
      refine wp_seq ?_
      have c9 := Ho.out.cellAt k (by omega)
      rw [nv_at (by rw [insAt_len _ _ _ (by omega)]; omega)] at c9
      have f9 := fun j => Ho.out.frozenAt j
      have q3 := Hrk.out u (Grow.refl u)
      refine r0N ?_
      clear c9 f9
      generalize hu0 : World.setCell u ⟨g, k, none⟩ _ = u0
      obtain ⟨p1, p2⟩ := Ho.out.stored k (.int .i64 (R : Nat))
      rw [hu0] at p1 p2
      rw [nv_set, Hdn.out] at p1
      have hG2 := own_kgrow' Ho.out hG p2
      clear hB hG Ho Hrk hu0 p2
      have hG := hG2
      have Ho := Lib.hid p1
      clear hG2 p1
      obtain ⟨u, rfl⟩ : ∃ x, x = u0 := ⟨_, rfl⟩
      have hB := Bx.nil u
      refine r0E ?_
      refine blk_norm ?_
      refine then_norm ?_
      go_roundw
      case rel => exact ⟨k0, R, by omega, by go_num, Hup.out, Ho.out, hG⟩
      case measure => simp [intOf]; omega
  ·obtain rfl : m = i := by omega
   have hdec : decide ((m : Int) < (m : Int)) = false := by simp
   rw [List.take_of_length_le (by rw [Hm.out]; exact Nat.le_refl _)] at hpp
   have hls := sortC_uniq hpp hps
   have Ho := Lib.hid ho
   have Hls := Lib.hid hls
   have Hlp := Lib.hid hpp
   clear ho hls hpp hps hi hge hdec
   have hdec : decide ((m : Int) < (m : Int)) = false := by simp
   refine wp_seq ?_
   refine r0T ?_
   refine wp_cond_false (rfl) ?_
   refine wp_exit ?_
   refine then_exit ?_
   refine then_exit ?_
   refine blk_exit ?_
   refine then_norm ?_
   refine wp_seq ?_
   clear hdec
   obtain ⟨gl, cap, e9, hgl, hcap⟩ := own_slice Ho.out hm0
   cases e9
   obtain ⟨cap, rfl⟩ : ∃ x, x = cc := ⟨_, rfl⟩
   have HG1 := Lib.hid hG
   obtain ⟨w1, rfl⟩ : ∃ x, x = w := ⟨_, rfl⟩
   have hG2 := HG0.out.trans hG
   obtain ⟨w, rfl⟩ : ∃ x, x = w0 := ⟨_, rfl⟩
   obtain ⟨ls, rfl⟩ : ∃ x, x = ps := ⟨_, rfl⟩
   have hF2 : Fr w [b99] := ⟨fun b hb => by rw [List.mem_singleton.1 hb]; exact hbw, by simp⟩
   have hB2 : Bx u [(b99, 72, #[.slice (some ⟨bb, ob, none⟩) n RC, .slice NA k NC])] := Bx.cons (Hbt.out.grow hG) (Bx.nil u)
   have GS : GrR w1 (fun k => (k = b99 ∨ nbk NA = some k) ∨ w1.heap.size ≤ k) b99 gl w.heap.size (ints ls) NA NC k ns u := ⟨KepS.ofGrow hG, li_nv Ho.out, (Ho.out.lt gl rfl).2, own_grow' Hown.out hG, Hke.out.symm, Hn9.out, fun e => by have := (Hown.out.lt gl (by rw [nbk_own]; exact e)).2; omega⟩
   have l99 := (Hbt.out : Blk w1 b99 72 _).lt
   have HL99 := Lib.hid (show b99 ≠ gl by omega)
   have hlx := (GS.l (by intro e; simp [ints] at e; rw [e] at hpl; simp at hpl; omega))
   obtain ⟨x, hx⟩ : ∃ x, x = ls.getD h 0 := ⟨_, rfl⟩
   have hlx2 : u.cell? ⟨gl, h, none⟩ = some (.int .i64 (x : Nat)) := by
    obtain ⟨b', o', e, hb', hc'⟩ := hlx
    cases e
    have := hc' h (x : Int) (by simp [ints, hx, List.getD, hpl, hhm])
    rwa [Nat.zero_add] at this
   have hfl2 := Hfl.out
   rw [← Hls.out, ← hx] at hfl2
   have Hfl2 := Lib.hid hfl2
   have Hlx := Lib.hid (fun W (hg : Grow u W) => (hg.cell (p := ⟨gl, h, none⟩) GS.gu).trans hlx2)
   have Hlsl := Lib.hid hpl
   have Hlsn := Lib.hid (fun y hy => Hin.out y (Hlp.out.mem_iff.1 hy))
   clear hB hG hF Ho hlx hlx2 hfl2 hpl hx Hfl
   have hB := hB2
   have hG := hG2
   have hF := hF2
   clear hB2 hG2 hF2
   refine r0N ?_
   refine r0T ?_
   refine wp_seq ?_
   refine wp_rp (w := w) allocs 12 [0] [] [(0, 1), (0, 2), (0, 3), (0, 4), (0, 5), (0, 6), (0, 7), (0, 8), (0, 9), (0, 10), (1, 11)] (by kernel_rfl) (by kernel_rfl) (by simp only [List.drop_succ_cons, List.drop_zero]; exact rfl) (fun _ => True) noG hB hG trivial ?_
   intro K L hN hL
   refine gpa ?_
   show OKs _ _ _ _ _ _ _ _
   simp only [pickOps, List.getElem?_toArray, List.getElem?_cons_zero, List.getElem?_cons_succ]
   repeat first | refine gya ?_ | refine gyr ?_ | refine gna ?_ | refine gyb (by (rintro v ⟨hgu, hB, hG, -⟩ N hN; have r := hB.r; simp only [BxR] at r; have q1 := Hlx.out v hgu; go_simp; exact hN)) ?_
   refine gx Nat (fun b => .slice (some ⟨b, 0, none⟩) 1 1) (fun b W => Blk W b 118 (ndL ⟨(x : Nat), (col : Nat), 0, 0⟩).toArray) (fun b u u' hg h => h.grow hg) rfl ?_ (fun x82 => ?_)
   ·(rintro v ⟨hgu, hB, hG, -⟩ N hN; go_simp; exact hN v.heap.size _ (Blk.new v 118 (ndL ⟨(x : Nat), (col : Nat), 0, 0⟩).toArray) (Grow.alloc _ _))
   refine okf (by simp only [Act.put, List.setIfInBounds_toArray, List.set_cons_succ, List.set_cons_zero]; exact rfl) ?_
   refine gend ?_
   rintro v ⟨⟨hgu, hB1, hG1, -⟩, hx82⟩
   replace GS := GS.grow hgu
   clear Hlx
   clear hB hG
   have hB := hB1
   have hG := hG1
   clear hB1 hG1
   refine hL _ _ ?_
   clear hL L hgu
   obtain ⟨u, rfl⟩ : ∃ x, x = v := ⟨_, rfl⟩
   have r := hB.r
   simp only [BxR] at r
   have hk := Hk.out
   have l9u := hB.head.lt
   have a99 : (Value.slice NA k NC).ownBlock ≠ some b99 := by rw [nbk_own]; exact GS.n9
   have agl : (Value.slice NA k NC).ownBlock ≠ some gl := by rw [nbk_own]; exact GS.gn
   refine app_oneG ei_RNode w.heap.size (.slice NA k NC) k (ns.flatMap ndL) x82 (ndL ⟨x, (col : Nat), 0, 0⟩) rfl rfl hx82 rfl rfl GS.own (by omega) (by omega) hG.sz fun v' w' g1 g2 g3 => ?_
   obtain ⟨g7, NC2, e9, -, -⟩ := own_slice g1 (by omega)
   subst e9
   have hg9 : g7 ≠ b99 := fun e => by rcases g3 with h | h; exact a99 (by rw [← h, ← e]; rfl); have h9 : g7 = u.heap.size := Option.some.inj h; omega
   have hgg : g7 ≠ gl := fun e => by rcases g3 with h | h; exact agl (by rw [← h, ← e]; rfl); have h9 : g7 = u.heap.size := Option.some.inj h; have := GS.gu; omega
   have hB2 := Bx.grown_ hB g2 (fun e he hxe => by
    have e1 : e = _ := List.mem_singleton.1 he
    subst e1
    exact a99 hxe.symm)
   have hG2 : Grow w w' := hG.grown g2 (fun j e => (GS.own.lt j e).1)
   have hg4 : KepS (fun j => some j = (Value.slice NA k NC).ownBlock) u w' := KepS.ofGrown g2 (fun _ e => e.symm)
   have hnb4 : g7 ≠ b99 ∧ (nbk NA = some g7 ∨ w1.heap.size ≤ g7) := ⟨hg9, by
    rcases g3 with h | h
    ·left
     exact (nbk_own NA k NC).symm.trans h.symm
    ·right
     have h1 : g7 = u.heap.size := Option.some.inj h
     have h2 := GS.K.size
     omega⟩
   clear hB hG g2 g3 hx82
   have hB := hB2
   have hG := hG2
   clear hB2 hG2
   have r := hB.r
   simp only [BxR] at r
   simp only [Act.put, List.setIfInBounds_toArray, List.set_cons_succ, List.set_cons_zero]
   go_wp2_with fail
   clear r
   generalize hu0 : World.setCell w' ⟨b99, 1, none⟩ _ = u0
   have hBG := over_n hB hF hG 0 rfl 1 [_] hu0
   have hS4 : KepS (fun j => j = b99) w' u0 := by
    rw [← hu0]
    exact KepS.setCell (S := fun j => j = b99) w' ⟨b99, 1, none⟩ rfl _
   have GS2 : GrR w1 (fun k => (k = b99 ∨ nbk NA = some k) ∨ w1.heap.size ≤ k) b99 gl w.heap.size (ints ls) (some ⟨g7, 0, none⟩) NC2 k1 (ns ++ [(⟨x, (col : Nat), 0, 0⟩ : NdT)]) u0 := by
    refine ⟨?_, ?_, ?_, ?_, ?_, fun e => hg9 (Option.some.inj e), fun e => hgg (Option.some.inj e)⟩
    ·refine (GS.K.trans (KepS.mono hg4 (fun k hk e => ?_))).trans (KepS.mono hS4 (fun k hk e => .inl (.inl e)))
     exact .inl (.inr ((nbk_own NA _ _).symm.trans e.symm))
    ·exact hS4.li (hg4.li GS.l (fun e => agl e.symm)) (fun e => absurd (GS.gu) (by have := HG1.out.size; omega))
    ·exact Nat.lt_of_lt_of_le GS.gu (Nat.le_trans hg4.size hS4.size)
    ·rw [← Hk1.out, List.flatMap_append]
     have := hS4.own g1 (fun b hb e => hg9 ((Option.some.inj hb).trans e))
     simpa using this
    ·rw [List.length_append, ← Hk1.out, Hke.out]
     rfl
   rw [Hk1.out] at hBG
   clear hB hG GS hg4 hS4 hu0 g1 l9u a99 agl hk hg9 hgg
   obtain ⟨hB, hG⟩ := hBG
   have GS := GS2
   have Hnb := Lib.hid hnb4
   clear GS2 hnb4 w'
   obtain ⟨u, rfl⟩ : ∃ x, x = u0 := ⟨_, rfl⟩
   clear r
   skip
   refine NoK.norm (hN _ _ ?_)
   clear hN K
   refine then_norm ?_
   refine wp_seq ?_
   have Hnb2 := Lib.hid (fun j (e : nbk (some ⟨g7, 0, none⟩) = some j) => (by
    have e1 : g7 = j := Option.some.inj e
    rw [← e1]
    exact Hnb.out.2 : nbk NA = some j ∨ w1.heap.size ≤ j))
   have q0 := Hr0.out u hG
   refine r0N ?_
   clear q0
   refine wp_seq ?_
   have hlen := Hlsl.out
   have hmh := Hh.out
   rcases Nat.eq_zero_or_pos h with hz | hz
   ·have d48 : decide ((0 : Int) < (h : Int)) = false := by simp; omega
    have d48n : decide (0 < h) = false := by simp; omega
    have d71 : decide ((h1 : Int) < (m : Int)) = false := by have := Hh1.out; simp; omega
    have d71n : decide (h1 < m) = false := by have := Hh1.out; simp; omega
    have HM1 := Lib.hid (show m = 1 by omega)
    have HZ := Lib.hid hz
    clear hz hmh hlen
    refine r0T ?_
    refine wp_cond_false (rfl) ?_
    refine wp_skip ?_
    refine then_norm ?_
    refine r0T ?_
    refine wp_cond_false (rfl) ?_
    refine wp_skip ?_
    refine end_b rfl (results_none rfl _ _ _) ⟨rfl, growR_end GS hB (by have := HM1.out; have := Hk1.out; omega) ?_ Hnb2.out hG⟩
    rw [Hfl2.out, if_pos HZ.out, if_pos (by have := HM1.out; omega), flat_nil _ _ _ _ (by rw [HZ.out]; rfl), flat_nil _ _ _ _ (List.drop_eq_nil_of_le (by rw [Hlsl.out, HM1.out]; omega))]
    rfl
   ·have d48 : decide ((0 : Int) < (h : Int)) = true := by simp; omega
    have d48n : decide (0 < h) = true := by simp; omega
    have HZ := Lib.hid hz
    obtain ⟨k3, hk3⟩ : ∃ x, k1 + h = x := ⟨_, rfl⟩
    obtain ⟨T1, hT1⟩ : ∃ T, T = flatT (growT X Lw (ls.take h) c2) k1 := ⟨_, rfl⟩
    have hT1l : T1.length = h := by rw [hT1, flatT_len, growT_size, List.length_take, hlen]; omega
    have hc1 := fun (W : World) (GW : GrR w1 (fun k => (k = b99 ∨ nbk NA = some k) ∨ w1.heap.size ≤ k) b99 gl w.heap.size (ints ls) (some ⟨g7, 0, none⟩) NC2 k1 (ns ++ [(⟨x, (col : Nat), (k1 : Nat), 0⟩ : NdT)]) W) (hGW : Grow w W) (hBW : Blk W b99 72 #[.slice (some ⟨bb, ob, none⟩) n RC, .slice (some ⟨g7, 0, none⟩) k1 NC2]) => Hih.out h hhm (ls.take h) c2 (some ⟨gl, 0, none⟩) cap _ (some ⟨g7, 0, none⟩) NC2 k1 W (by rw [List.length_take, hlen]; omega) hz (fun y hy => Hlsn.out y (List.mem_of_mem_take hy)) hc2L GW.len.symm (by have := Hk.out; have := Hk1.out; omega) hGW (by rw [ints, List.map_take]; exact li_take GW.l h) hBW GW.own GW.n9
    rw [← hT1, hk3] at hc1
    have Hc1 := Lib.hid hc1
    have Hk3 := Lib.hid hk3
    have HT1 := Lib.hid hT1
    have HT1l := Lib.hid hT1l
    have hsl1 := fun W => cut_take gl cap m h (by omega) W
    clear hc1 hk3 hT1 hT1l
    rcases Nat.lt_or_ge h1 m with hz2 | hz2
    ·have d71 : decide ((h1 : Int) < (m : Int)) = true := by simp; omega
     have d71n : decide (h1 < m) = true := by simp; omega
     have HZ2 := Lib.hid hz2
     clear hz hz2 hmh hlen
     refine r0T ?_
     refine wp_cond_true (rfl) ?_
     refine wp_seq (rdC allocs [] [(0, 0), (0, 1), (0, 2), (0, 3), (0, 4), (0, 5), (0, 6), (0, 7), (0, 8), (0, 9), (0, 10), (0, 11)] hB hG fun K L hN hL => ?_)
     repeat first | refine gya ?_ | refine gyr ?_ | refine gna ?_ | refine gyb (by (rintro v ⟨hgu, hB, hG, -⟩ N hN; have r := hB.r; simp only [BxR] at r; have q1 := Hlx.out v hgu; go_simp; exact hN)) ?_
     refine geC hL ?_
     clear hB hG hL L
     rintro u ⟨hgu, hB, hG, -⟩
     replace GS := GS.grow hgu
     obtain ⟨z0, z1, z2, z3, o0, o1, o2, o3, hfz⟩ := own_spot4 (enc := ndL) (fun _ => rfl) GS.own GS.len.symm k (by rw [GS.len]; omega)
     clear hgu
     refine gtT ?_
     clear hN K
     clear o0 o1 o2 o3 hfz
     generalize hu0 : World.setCell u ⟨g7, k * 4 + 2, none⟩ _ = u0
     obtain ⟨p1, p2⟩ := GS.own.stored (k * 4 + 2) (.int .i64 (k1 : Nat))
     rw [hu0] at p1 p2
     have q1 : (((ns ++ [(⟨x, (col : Nat), 0, 0⟩ : NdT)]).flatMap ndL).set (k * 4 + 2) (.int .i64 (k1 : Nat))) = (ns ++ [(⟨x, (col : Nat), (k1 : Nat), 0⟩ : NdT)]).flatMap ndL := by
      have hkl : k < (ns ++ [(⟨x, (col : Nat), 0, 0⟩ : NdT)]).length := by rw [GS.len]; omega
      rw [nd_setL _ k _ hkl]
      have e1 : (ns ++ [(⟨x, (col : Nat), 0, 0⟩ : NdT)])[k] = ⟨x, (col : Nat), 0, 0⟩ := by
       have := Hke.out
       subst this
       simp
      rw [e1]
      congr 1
      have := Hke.out
      subst this
      simp
     rw [q1] at p1
     have k2 : KepS (fun j => j = g7) u u0 := KepS.ofGrown p2 (fun _ e => (Option.some.inj e).symm)
     have a99 : g7 ≠ b99 := fun e => GS.n9 (by rw [← e]; rfl)
     have hgl : g7 ≠ gl := fun e => GS.gn (by rw [← e]; rfl)
     have GS2 : GrR w1 (fun k => (k = b99 ∨ nbk NA = some k) ∨ w1.heap.size ≤ k) b99 gl w.heap.size (ints ls) (some ⟨g7, 0, none⟩) NC2 k1 (ns ++ [(⟨x, (col : Nat), (k1 : Nat), 0⟩ : NdT)]) u0 := ⟨GS.K.trans (KepS.mono k2 (fun j hj e => by
       subst e
       rcases Hnb2.out j rfl with h | h
       ·exact .inl (.inr h)
       ·exact .inr h)), k2.li GS.l (fun e => hgl e.symm), Nat.lt_of_lt_of_le GS.gu k2.size, p1, by have := GS.len; rw [List.length_append] at this ⊢; exact this, GS.n9, GS.gn⟩
     have hB2 : Bx u0 [(b99, 72, #[.slice (some ⟨bb, ob, none⟩) n RC, .slice (some ⟨g7, 0, none⟩) k1 NC2])] := Bx.cons (k2.blk hB.head (fun e => a99 e.symm)) (Bx.nil _)
     have hG2 : Grow w u0 := hG.grown p2 (fun j e => (GS.own.lt j e).1)
     clear hB hG GS p1 p2 q1 k2 hu0 a99 hgl
     have hB := hB2
     have hG := hG2
     have GS := GS2
     clear hB2 hG2 GS2
     obtain ⟨u, rfl⟩ : ∃ x, x = u0 := ⟨_, rfl⟩
     refine wp_r0 ?_
     intro K hN
     go_wp2_with (go_at_call 60; refine (Hc1.out u GS hG hB.head).mono ?_; rintro e w5 ⟨rfl, NA5, NC5, q1, q2, q3, q4, q5⟩)
     have GS2 : GrR w1 (fun k => (k = b99 ∨ nbk NA = some k) ∨ w1.heap.size ≤ k) b99 gl w.heap.size (ints ls) NA5 NC5 k3 ((ns ++ [(⟨x, (col : Nat), (k1 : Nat), 0⟩ : NdT)]) ++ T1) w5 := ⟨GS.K.trans (q3.mono (fun j hj e => by
       rcases e with e | e
       ·exact .inl (.inl e)
       ·rcases Hnb2.out j e with h | h
        ·exact .inl (.inr h)
        ·exact .inr h)), q3.li GS.l (fun e => e.elim (fun e => by have := HL99.out; omega) GS.gn), Nat.lt_of_lt_of_le GS.gu q3.size, q2, by rw [List.length_append, GS.len, HT1l.out]; exact Hk3.out, fun e => (q4 _ e).elim GS.n9 (fun h => by have := hB.head.lt; omega), fun e => (q4 _ e).elim GS.gn (fun h => by have := GS.gu; omega)⟩
     have hnb5 : ∀ j, nbk NA5 = some j → nbk NA = some j ∨ w1.heap.size ≤ j := fun j e => (q4 j e).elim (Hnb2.out j) (fun h => .inr (by have := GS.K.size; omega))
     have Hnb5 := Lib.hid hnb5
     have hB2 : Bx w5 [(b99, 72, #[.slice (some ⟨bb, ob, none⟩) n RC, .slice NA5 k3 NC5])] := Bx.cons q1 (Bx.nil _)
     clear hB hG GS q1 q2 q3 q4 hnb5 Hc1
     have hB := hB2
     have hG := q5
     have GS := GS2
     clear hB2 q5 GS2
     refine NoK.norm (hN _ _ ?_)
     clear hN K
     obtain ⟨u, rfl⟩ : ∃ x, x = w5 := ⟨_, rfl⟩
     refine then_norm ?_
     refine r0T ?_
     refine wp_cond_true (rfl) ?_
     refine wp_seq ?_
     obtain ⟨g8, NC7, e9, -, -⟩ := own_slice GS.own (by have := Hk3.out; have := HZ.out; omega)
     cases e9
     have hkk3 : (k : Int) < (k3 : Int) := by have := Hk3.out; omega
     have hkn3 : k < k3 := by have := Hk3.out; omega
     refine rdC allocs [] [(0, 0), (0, 1), (0, 2), (0, 3), (0, 4), (0, 5), (0, 6), (0, 7), (0, 8), (0, 9), (0, 10), (0, 11)] hB hG fun K L hN hL => ?_
     repeat first | refine gya ?_ | refine gyr ?_ | refine gna ?_ | refine gyb (by (rintro v ⟨hgu, hB, hG, -⟩ N hN; have r := hB.r; simp only [BxR] at r; have q1 := Hlx.out v hgu; go_simp; exact hN)) ?_
     refine geC hL ?_
     clear hB hG hL L
     rintro u ⟨hgu, hB, hG, -⟩
     replace GS := GS.grow hgu
     obtain ⟨z0, z1, z2, z3, o0, o1, o2, o3, hfz⟩ := own_spot4 (enc := ndL) (fun _ => rfl) GS.own GS.len.symm k (by rw [GS.len]; exact hkn3)
     clear hgu
     refine gtT ?_
     clear hN K
     clear o0 o1 o2 o3 hfz
     generalize hu0 : World.setCell u ⟨g8, k * 4 + 3, none⟩ _ = u0
     obtain ⟨p1, p2⟩ := GS.own.stored (k * 4 + 3) (.int .i64 (k3 : Nat))
     rw [hu0] at p1 p2
     have q1 : ((((ns ++ [(⟨x, (col : Nat), (k1 : Nat), 0⟩ : NdT)]) ++ T1).flatMap ndL).set (k * 4 + 3) (.int .i64 (k3 : Nat))) = ((ns ++ [(⟨x, (col : Nat), (k1 : Nat), (k3 : Nat)⟩ : NdT)]) ++ T1).flatMap ndL := by
      have hkl : k < ((ns ++ [(⟨x, (col : Nat), (k1 : Nat), 0⟩ : NdT)]) ++ T1).length := by rw [GS.len]; exact hkn3
      rw [nd_setT _ k _ hkl]
      have e1 : ((ns ++ [(⟨x, (col : Nat), (k1 : Nat), 0⟩ : NdT)]) ++ T1)[k] = ⟨x, (col : Nat), (k1 : Nat), 0⟩ := by
       have := Hke.out
       subst this
       simp
      rw [e1]
      congr 1
      have := Hke.out
      subst this
      simp
     rw [q1] at p1
     have k2 : KepS (fun j => j = g8) u u0 := KepS.ofGrown p2 (fun _ e => (Option.some.inj e).symm)
     have a99 : g8 ≠ b99 := fun e => GS.n9 (by rw [← e]; rfl)
     have hgl : g8 ≠ gl := fun e => GS.gn (by rw [← e]; rfl)
     have GS2 : GrR w1 (fun k => (k = b99 ∨ nbk NA = some k) ∨ w1.heap.size ≤ k) b99 gl w.heap.size (ints ls) (some ⟨g8, 0, none⟩) NC5 k3 ((ns ++ [(⟨x, (col : Nat), (k1 : Nat), (k3 : Nat)⟩ : NdT)]) ++ T1) u0 := ⟨GS.K.trans (KepS.mono k2 (fun j hj e => by
       subst e
       rcases Hnb5.out j rfl with h | h
       ·exact .inl (.inr h)
       ·exact .inr h)), k2.li GS.l (fun e => hgl e.symm), Nat.lt_of_lt_of_le GS.gu k2.size, p1, by have := GS.len; rw [List.length_append, List.length_append] at this ⊢; exact this, GS.n9, GS.gn⟩
     have hB2 : Bx u0 [(b99, 72, #[.slice (some ⟨bb, ob, none⟩) n RC, .slice (some ⟨g8, 0, none⟩) k3 NC5])] := Bx.cons (k2.blk hB.head (fun e => a99 e.symm)) (Bx.nil _)
     have hG2 : Grow w u0 := hG.grown p2 (fun j e => (GS.own.lt j e).1)
     clear hB hG GS p1 p2 q1 k2 hu0 a99 hgl
     have hB := hB2
     have hG := hG2
     have GS := GS2
     clear hB2 hG2 GS2
     obtain ⟨u, rfl⟩ : ∃ x, x = u0 := ⟨_, rfl⟩
     obtain ⟨m2, hm2⟩ : ∃ y, m - h1 = y := ⟨_, rfl⟩
     have hh1 := Hh1.out
     have hk3 := Hk3.out
     have hz2 := HZ2.out
     have hlen := Hlsl.out
     have hm2l : m2 < m := by omega
     have hm20 : 0 < m2 := by omega
     obtain ⟨T2, hT2⟩ : ∃ T, T = flatT (growT X Lw (ls.drop h1) c2) k3 := ⟨_, rfl⟩
     have hsl2 := fun W => cut_drop gl cap m h1 (by omega) (by omega) hcap W
     rw [hm2] at hsl2
     obtain ⟨cap3, hcap3⟩ : ∃ y, cap - h1 = y := ⟨_, rfl⟩
     rw [hcap3] at hsl2
     have hc2 := fun (W : World) (GW : GrR w1 (fun k => (k = b99 ∨ nbk NA = some k) ∨ w1.heap.size ≤ k) b99 gl w.heap.size (ints ls) (some ⟨g8, 0, none⟩) NC5 k3 ((ns ++ [(⟨x, (col : Nat), (k1 : Nat), (k3 : Nat)⟩ : NdT)]) ++ T1) W) (hGW : Grow w W) (hBW : Blk W b99 72 #[.slice (some ⟨bb, ob, none⟩) n RC, .slice (some ⟨g8, 0, none⟩) k3 NC5]) => Hih.out m2 hm2l (ls.drop h1) c2 (some ⟨gl, h1, none⟩) cap3 _ (some ⟨g8, 0, none⟩) NC5 k3 W (by rw [List.length_drop, hlen]; omega) hm20 (fun y hy => Hlsn.out y (List.mem_of_mem_drop hy)) hc2L GW.len.symm (by have := Hk.out; have := Hk1.out; omega) hGW (by rw [ints, List.map_drop]; exact li_drop GW.l h1) hBW GW.own GW.n9
     rw [← hT2] at hc2
     have Hc2 := Lib.hid hc2
     have HT2 := Lib.hid hT2
     have Hm2 := Lib.hid hm2
     clear hc2 hT2 hm2 hcap3 hh1 hk3 hz2 hlen
     refine wp_r0 ?_
     intro K hN
     go_wp2_with (go_at_call 60; refine (Hc2.out u GS hG hB.head).mono ?_; rintro e w5 ⟨rfl, NA8, NC8, q1, q2, q3, q4, q5⟩)
     obtain ⟨k8, hk8⟩ : ∃ y, k3 + m2 = y := ⟨_, rfl⟩
     rw [hk8] at q1 q2
     have GS2 : GrR w1 (fun k => (k = b99 ∨ nbk NA = some k) ∨ w1.heap.size ≤ k) b99 gl w.heap.size (ints ls) NA8 NC8 k8 (((ns ++ [(⟨x, (col : Nat), (k1 : Nat), (k3 : Nat)⟩ : NdT)]) ++ T1) ++ T2) w5 := ⟨GS.K.trans (q3.mono (fun j hj e => by
       rcases e with e | e
       ·exact .inl (.inl e)
       ·rcases Hnb5.out j e with h | h
        ·exact .inl (.inr h)
        ·exact .inr h)), q3.li GS.l (fun e => e.elim (fun e => by have := HL99.out; omega) GS.gn), Nat.lt_of_lt_of_le GS.gu q3.size, q2, by rw [List.length_append, GS.len, HT2.out, flatT_len, growT_size, List.length_drop, Hlsl.out, Hm2.out]; exact hk8, fun e => (q4 _ e).elim GS.n9 (fun h => by have := hB.head.lt; omega), fun e => (q4 _ e).elim GS.gn (fun h => by have := GS.gu; omega)⟩
     have hnb8 : ∀ j, nbk NA8 = some j → nbk NA = some j ∨ w1.heap.size ≤ j := fun j e => (q4 j e).elim (Hnb5.out j) (fun h => .inr (by have := GS.K.size; omega))
     have hB2 : Bx w5 [(b99, 72, #[.slice (some ⟨bb, ob, none⟩) n RC, .slice NA8 k8 NC8])] := Bx.cons q1 (Bx.nil _)
     have Hnb8 := Lib.hid hnb8
     have Hk8 := Lib.hid hk8
     clear hB hG GS q1 q2 q3 q4 hnb8 Hc2 hk8
     have hB := hB2
     have hG := q5
     have GS := GS2
     clear hB2 q5 GS2
     refine NoK.norm (hN _ _ ?_)
     clear hN K
     obtain ⟨u, rfl⟩ : ∃ x, x = w5 := ⟨_, rfl⟩
     refine end_b rfl (results_none rfl _ _ _) ⟨rfl, growR_end GS hB (by have := Hm2.out; have := HZ2.out; have := Hh1.out; have := Hk1.out; have := Hk3.out; have := Hk8.out; omega) ?_ Hnb8.out hG⟩
     rw [Hfl2.out, if_neg (by have := HZ.out; omega), if_neg (by have := HZ2.out; have := Hh1.out; omega), Hk1.out, Hk3.out, Hh1.out, ← HT1.out, ← HT2.out, List.append_assoc, List.append_assoc]
     rfl
    ·have d71 : decide ((h1 : Int) < (m : Int)) = false := by simp; omega
     have d71n : decide (h1 < m) = false := by simp; omega
     have HZ2 := Lib.hid hz2
     clear hz hz2 hmh hlen
     refine r0T ?_
     refine wp_cond_true (rfl) ?_
     refine wp_seq (rdC allocs [] [(0, 0), (0, 1), (0, 2), (0, 3), (0, 4), (0, 5), (0, 6), (0, 7), (0, 8), (0, 9), (0, 10), (0, 11)] hB hG fun K L hN hL => ?_)
     repeat first | refine gya ?_ | refine gyr ?_ | refine gna ?_ | refine gyb (by (rintro v ⟨hgu, hB, hG, -⟩ N hN; have r := hB.r; simp only [BxR] at r; have q1 := Hrdi.out v hG; go_simp; exact hN)) ?_
     refine geC hL ?_
     clear hB hG hL L
     rintro u ⟨hgu, hB, hG, -⟩
     replace GS := GS.grow hgu
     obtain ⟨z0, z1, z2, z3, o0, o1, o2, o3, hfz⟩ := own_spot4 (enc := ndL) (fun _ => rfl) GS.own GS.len.symm k (by rw [GS.len]; omega)
     clear hgu
     refine gtT ?_
     clear hN K
     clear o0 o1 o2 o3 hfz
     generalize hu0 : World.setCell u ⟨g7, k * 4 + 2, none⟩ _ = u0
     obtain ⟨p1, p2⟩ := GS.own.stored (k * 4 + 2) (.int .i64 (k1 : Nat))
     rw [hu0] at p1 p2
     have q1 : (((ns ++ [(⟨x, (col : Nat), 0, 0⟩ : NdT)]).flatMap ndL).set (k * 4 + 2) (.int .i64 (k1 : Nat))) = (ns ++ [(⟨x, (col : Nat), (k1 : Nat), 0⟩ : NdT)]).flatMap ndL := by
      have hkl : k < (ns ++ [(⟨x, (col : Nat), 0, 0⟩ : NdT)]).length := by rw [GS.len]; omega
      rw [nd_setL _ k _ hkl]
      have e1 : (ns ++ [(⟨x, (col : Nat), 0, 0⟩ : NdT)])[k] = ⟨x, (col : Nat), 0, 0⟩ := by
       have := Hke.out
       subst this
       simp
      rw [e1]
      congr 1
      have := Hke.out
      subst this
      simp
     rw [q1] at p1
     have k2 : KepS (fun j => j = g7) u u0 := KepS.ofGrown p2 (fun _ e => (Option.some.inj e).symm)
     have a99 : g7 ≠ b99 := fun e => GS.n9 (by rw [← e]; rfl)
     have hgl : g7 ≠ gl := fun e => GS.gn (by rw [← e]; rfl)
     have GS2 : GrR w1 (fun k => (k = b99 ∨ nbk NA = some k) ∨ w1.heap.size ≤ k) b99 gl w.heap.size (ints ls) (some ⟨g7, 0, none⟩) NC2 k1 (ns ++ [(⟨x, (col : Nat), (k1 : Nat), 0⟩ : NdT)]) u0 := ⟨GS.K.trans (KepS.mono k2 (fun j hj e => by
       subst e
       rcases Hnb2.out j rfl with h | h
       ·exact .inl (.inr h)
       ·exact .inr h)), k2.li GS.l (fun e => hgl e.symm), Nat.lt_of_lt_of_le GS.gu k2.size, p1, by have := GS.len; rw [List.length_append] at this ⊢; exact this, GS.n9, GS.gn⟩
     have hB2 : Bx u0 [(b99, 72, #[.slice (some ⟨bb, ob, none⟩) n RC, .slice (some ⟨g7, 0, none⟩) k1 NC2])] := Bx.cons (k2.blk hB.head (fun e => a99 e.symm)) (Bx.nil _)
     have hG2 : Grow w u0 := hG.grown p2 (fun j e => (GS.own.lt j e).1)
     clear hB hG GS p1 p2 q1 k2 hu0 a99 hgl
     have hB := hB2
     have hG := hG2
     have GS := GS2
     clear hB2 hG2 GS2
     obtain ⟨u, rfl⟩ : ∃ x, x = u0 := ⟨_, rfl⟩
     refine wp_r0 ?_
     intro K hN
     go_wp2_with (go_at_call 60; refine (Hc1.out u GS hG hB.head).mono ?_; rintro e w5 ⟨rfl, NA5, NC5, q1, q2, q3, q4, q5⟩)
     have GS2 : GrR w1 (fun k => (k = b99 ∨ nbk NA = some k) ∨ w1.heap.size ≤ k) b99 gl w.heap.size (ints ls) NA5 NC5 k3 ((ns ++ [(⟨x, (col : Nat), (k1 : Nat), 0⟩ : NdT)]) ++ T1) w5 := ⟨GS.K.trans (q3.mono (fun j hj e => by
       rcases e with e | e
       ·exact .inl (.inl e)
       ·rcases Hnb2.out j e with h | h
        ·exact .inl (.inr h)
        ·exact .inr h)), q3.li GS.l (fun e => e.elim (fun e => by have := HL99.out; omega) GS.gn), Nat.lt_of_lt_of_le GS.gu q3.size, q2, by rw [List.length_append, GS.len, HT1l.out]; exact Hk3.out, fun e => (q4 _ e).elim GS.n9 (fun h => by have := hB.head.lt; omega), fun e => (q4 _ e).elim GS.gn (fun h => by have := GS.gu; omega)⟩
     have hnb5 : ∀ j, nbk NA5 = some j → nbk NA = some j ∨ w1.heap.size ≤ j := fun j e => (q4 j e).elim (Hnb2.out j) (fun h => .inr (by have := GS.K.size; omega))
     have Hnb5 := Lib.hid hnb5
     have hB2 : Bx w5 [(b99, 72, #[.slice (some ⟨bb, ob, none⟩) n RC, .slice NA5 k3 NC5])] := Bx.cons q1 (Bx.nil _)
     clear hB hG GS q1 q2 q3 q4 hnb5 Hc1
     have hB := hB2
     have hG := q5
     have GS := GS2
     clear hB2 q5 GS2
     refine NoK.norm (hN _ _ ?_)
     clear hN K
     obtain ⟨u, rfl⟩ : ∃ x, x = w5 := ⟨_, rfl⟩
     refine then_norm ?_
     refine r0T ?_
     refine wp_cond_false (rfl) ?_
     refine wp_skip ?_
     refine end_b rfl (results_none rfl _ _ _) ⟨rfl, growR_end GS hB (by have := Hh.out; have := HZ2.out; have := Hh1.out; have := Hk1.out; have := Hk3.out; omega) ?_ Hnb5.out hG⟩
     rw [Hfl2.out, if_neg (by have := HZ.out; omega), if_pos (by have := HZ2.out; have := Hh1.out; omega), flat_nil _ _ (i := k + 1 + h) _ (List.drop_eq_nil_of_le (by rw [Hlsl.out]; have := HZ2.out; have := Hh1.out; omega)), Hk1.out, ← HT1.out, List.append_assoc, List.append_nil]
     rfl
end Go.Proofs.YtjmopgepnndckaaGreatDoor
