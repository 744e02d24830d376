/-
  The claim's theorem: ClassH ClassesZ.
-/
import Derived.Test.YtimjnkfcnpfoeaaGreatDoorC49
set_option linter.unusedSimpArgs false
set_option linter.unusedVariables false
namespace Go.Proofs.YtimjnkfcnpfoeaaGreatDoor
open Go.RowKit
theorem qs0_lim : qs 0 ≤ LIM := by rw [qs_zero]; unfold LIM; omega
theorem pair_or (n m : Nat) : pairedB n m = false ∨ (n = m ∧ 0 < n) := by
 unfold pairedB
 by_cases h : n = m
 ·by_cases h0 : 0 < n
  ·exact .inr ⟨h, h0⟩
  ·left; simp; omega
 ·left; simp [h]
def RightOf (n n' : Nat) (l l' : List Int) (v : Rat) (z : Int) : Prop :=
 qs v ≤ LIM ∧ (∀ (W : World) (X Y : Ax), Li W X.1 l → Li W Y.1 l' → Tab W → Calls Tryz.prog 12 #[.slice X.1 n X.2, .slice Y.1 n' Y.2] W fun e w' => e = .returned (.tuple #[qV v, .int .i64 z]) ∧ Grow W w') ∧
 ∀ (W : World) (X Y : Ax), Li W X.1 l → Li W Y.1 l' → Calls Tryz.prog 13 #[.slice X.1 n X.2, .slice Y.1 n' Y.2] W (RetE v z W)
theorem pair_Right (n n' : Nat) (l l' : List Int) (hl : l.length = n) (hl' : l'.length = n') (hn : n ≤ 1048576) : ∃ v z, RightOf n n' l l' v z := by
 rcases pair_or n n' with h | ⟨rfl, h0⟩
 ·exact ⟨0, 5, qs0_lim, fun W X Y _ _ _ => score_Right_no X.1 Y.1 n n' X.2 Y.2 h W, fun W X Y _ _ => ref6_Accurate_no X.1 Y.1 n n' X.2 Y.2 h W⟩
 ·refine ⟨qover (hits l l' n : Nat) (n : Nat), 0, ?_, fun W X Y h1 h2 hT => score_Right_ok X.1 Y.1 n X.2 Y.2 l l' hl hl' h0 (by omega) W h1 h2 hT, fun W X Y h1 h2 => ref6_Accurate_ok X.1 Y.1 n X.2 Y.2 l l' hl hl' h0 hn W h1 h2⟩
  have hh := hits_le l l' n
  have : qs (qover (hits l l' n : Nat) (n : Nat)) ≤ 21 := over_sub 0 0 _ _ 21 (by omega) (by omega) (by omega)
  have : 21 ≤ LIM := by unfold LIM; omega
  omega
abbrev Tx := Ax × List Rw
def TableOf (n n' : Nat) (k : Int) (l l' : List Int) (m : Nat) (L : List (List Int)) (z : Int) : Prop :=
 m = L.length ∧ m ≤ 12 ∧ (∀ r ∈ L, r.length ≤ 1048576) ∧ (∀ (W : World) (X Y : Ax), Li W X.1 l → Li W Y.1 l' → Calls Tryz.prog 14 #[.slice X.1 n X.2, .slice Y.1 n' Y.2, .int .i64 k] W (RetY (fun x : Tx => .tuple #[.slice x.1.1 m x.1.2, .int .i64 z]) (fun x W => Lrows W x.1.1 x.2 ∧ x.2.map (·.2.2) = L) W)) ∧
 ∀ (W : World) (X Y : Ax), Li W X.1 l → Li W Y.1 l' → Calls Tryz.prog 15 #[.slice X.1 n X.2, .slice Y.1 n' Y.2, .int .i64 k] W (RetY (fun x : Tx => .tuple #[.slice x.1.1 m x.1.2, .int .i64 z]) (fun x W => Lrows W x.1.1 x.2 ∧ x.2.map (·.2.2) = L) W)
theorem rows_grow {L : List (List Int)} {x : Tx} {u u' : World} (hg : Grow u u') (h : Lrows u x.1.1 x.2 ∧ x.2.map (·.2.2) = L) : Lrows u' x.1.1 x.2 ∧ x.2.map (·.2.2) = L := ⟨h.1.grow hg, h.2⟩
theorem tabRows_map (B0 k : Nat) (l l' : List Int) (m : Nat) : (tabRows B0 k l l' m).map (·.2.2) = (List.range k).map (tabRow l l' m k) := by
 unfold tabRows
 rw [List.map_map]
 rfl
theorem pair_Table (n n' : Nat) (k : Int) (l l' : List Int) (hl : l.length = n) (hl' : l'.length = n') (hn : n ≤ 1048576) : ∃ (m : Nat) (L : List (List Int)) (z : Int), TableOf n n' k l l' m L z := by
 have fail : ∀ z : Int, (∀ (W : World) (X Y : Ax), Li W X.1 l → Li W Y.1 l' → Calls Tryz.prog 14 #[.slice X.1 n X.2, .slice Y.1 n' Y.2, .int .i64 k] W fun e w' => e = .returned (.tuple #[.slice none 0 0, .int .i64 z]) ∧ Grow W w') →
   (∀ (W : World) (X Y : Ax), Li W X.1 l → Li W Y.1 l' → Calls Tryz.prog 15 #[.slice X.1 n X.2, .slice Y.1 n' Y.2, .int .i64 k] W fun e w' => e = .returned (.tuple #[.slice none 0 0, .int .i64 z]) ∧ Grow W w') → TableOf n n' k l l' 0 [] z := fun z h1 h2 =>
  ⟨rfl, by omega, (fun r hr => by cases hr), fun W X Y hX hY => (h1 W X Y hX hY).mono fun e w' ⟨he, hg⟩ => ⟨((none, 0), []), he, ⟨fun h => absurd rfl h, rfl⟩, hg⟩, fun W X Y hX hY => (h2 W X Y hX hY).mono fun e w' ⟨he, hg⟩ => ⟨((none, 0), []), he, ⟨fun h => absurd rfl h, rfl⟩, hg⟩⟩
 rcases pair_or n n' with h | ⟨rfl, h0⟩
 ·exact ⟨0, [], 5, fail 5 (fun W X Y _ _ => score_Table_no X.1 Y.1 n n' X.2 Y.2 k h W) fun W X Y _ _ => ref6_Table_no X.1 Y.1 n n' X.2 Y.2 k h W⟩
 by_cases hk : k < 1 ∨ 12 < k
 ·exact ⟨0, [], 1, fail 1 (fun W X Y _ _ => score_Table_cls X.1 Y.1 n X.2 Y.2 k h0 hk W) fun W X Y _ _ => ref6_Table_cls X.1 Y.1 n X.2 Y.2 k h0 hk W⟩
 obtain ⟨K, rfl⟩ : ∃ K : Nat, k = (K : Int) := ⟨k.toNat, by omega⟩
 rcases first_bad (fun i => (0 ≤ gi l i ∧ gi l i < K) ∧ 0 ≤ gi l' i ∧ gi l' i < K) n with hg | ⟨R, hR, h1, h2⟩
 ·refine ⟨K, (List.range K).map (tabRow l l' n K), 0, by simp, by omega, (fun r hr => by obtain ⟨i, -, rfl⟩ := List.mem_map.1 hr; unfold tabRow; simp; omega), fun W X Y hX hY => ?_, fun W X Y hX hY => ?_⟩
  ·exact (score_Table_ok X.1 Y.1 n X.2 Y.2 K l l' hl hl' h0 (by omega) (by omega) (by omega) hg W hX hY).mono fun e w' ⟨B0, _, he, hL, hgr⟩ => ⟨((some ⟨B0, 0, none⟩, K), tabRows B0 K l l' n), he, ⟨hL, tabRows_map _ _ _ _ _⟩, hgr⟩
  ·refine (ref6_Table_run X.1 Y.1 n X.2 Y.2 K l l' hl hl' h0 (by omega) (by omega) (by omega) n (Nat.le_refl _) hg (fun h => by omega) W hX hY).mono fun e w' hend => ?_
   unfold tabEnd at hend
   rw [if_neg (by omega)] at hend
   obtain ⟨B0, he, hL, hgr⟩ := hend
   exact ⟨((some ⟨B0, 0, none⟩, K), tabRows B0 K l l' n), he, ⟨hL, tabRows_map _ _ _ _ _⟩, hgr⟩
 ·refine ⟨0, [], 1, fail 1 (fun W X Y hX hY => score_Table_arg X.1 Y.1 n X.2 Y.2 K l l' hl hl' h0 (by omega) (by omega) (by omega) R hR h1 (by omega) W hX hY) fun W X Y hX hY => ?_⟩
  refine (ref6_Table_run X.1 Y.1 n X.2 Y.2 K l l' hl hl' h0 (by omega) (by omega) (by omega) R (by omega) h1 (fun _ => by omega) W hX hY).mono fun e w' hend => ?_
  unfold tabEnd at hend
  rw [if_pos hR] at hend
  exact hend
theorem Lrows.at {u : World} {A : Option Addr} {rs : List Rw} {L : List (List Int)} {i : Nat} {l : List Int} (h : Lrows u A rs ∧ rs.map (·.2.2) = L) (hi : L[i]? = some l) : ∃ (b o : Nat) (X : Ax), A = some ⟨b, o, none⟩ ∧ ∀ W, Grow u W → W.cell? ⟨b, o + i, none⟩ = some (.slice X.1 l.length X.2) ∧ Li W X.1 l := by
 obtain ⟨hL, hm⟩ := h
 subst hm
 rw [List.getElem?_map, Option.map_eq_some_iff] at hi
 obtain ⟨r, hr, rfl⟩ := hi
 obtain ⟨b, off, e, _, _⟩ := hL (fun h0 => by rw [h0] at hr; simp at hr)
 refine ⟨b, off, (r.1, r.2.1), e, fun W hg => ?_⟩
 obtain ⟨b', off', e', _, hc⟩ := (hL.grow hg) (fun h0 => by rw [h0] at hr; simp at hr)
 rw [e] at e'
 cases e'
 exact hc i r hr
set_option maxHeartbeats 8000000 in
set_option maxRecDepth 100000 in
theorem law9_ScoreClasses (A B C : Option Addr) (la lb : List Int) (rs : List Rw) (ca cb cc : Nat) (x2 x3 x4 : Int) (hla : la.length ≤ 9223372036854775807) (hlb : lb.length ≤ 9223372036854775807) (hrs : rs.length ≤ cc) (hcc : cc ≤ 9223372036854775807)
  (w : World) (h1 : Li w A la) (h2 : Li w B lb) (h3 : Lrows w C rs) (HT : Tab w) :
  Calls Tryz.prog 3 #[.slice A la.length ca, .slice B lb.length cb, .int .i64 x2, .int .i64 x3, .int .i64 x4, .slice C rs.length cc] w fun e w' => e = .returned (.bool true) ∧ Grow w w' := by
 obtain ⟨pa, hpa⟩ : ∃ p, p = la.length := ⟨_, rfl⟩
 obtain ⟨pb, hpb⟩ : ∃ p, p = lb.length := ⟨_, rfl⟩
 obtain ⟨pc, hpc⟩ : ∃ p, p = rs.length := ⟨_, rfl⟩
 rw [← hpa, ← hpb, ← hpc]
 obtain ⟨a1, a2⟩ := pick_range x2 (m := 25) (by omega)
 obtain ⟨a3, a4⟩ := pick_range x4 (m := 15) (by omega)
 obtain ⟨a5, a6⟩ := pick_range x3 (m := 5) (by omega)
 have hp1 := fun W => hand_PickG x2 25 (by omega) (by omega) W
 have hp2 := fun W => hand_PickG x4 15 (by omega) (by omega) W
 have hp3 := fun W => hand_PickG x3 5 (by omega) (by omega) W
 obtain ⟨n, hn⟩ : ∃ n : Nat, pick x2 25 = (n : Int) := ⟨(pick x2 25).toNat, by omega⟩
 obtain ⟨y4, hy4⟩ : ∃ y, y = pick x4 15 := ⟨_, rfl⟩
 obtain ⟨y, hy⟩ : ∃ y, y = pick x3 5 := ⟨_, rfl⟩
 rw [hn] at hp1 a1 a2
 rw [← hy4] at hp2 a3 a4
 rw [← hy] at hp3 a5 a6
 obtain ⟨e, he⟩ : ∃ e : Nat, y.tdiv 4 = (e : Int) ∧ y / 4 = (e : Int) ∧ e ≤ 1 := ⟨(y / 4).toNat, by rw [Int.tdiv_eq_ediv_of_nonneg a5]; omega, by omega, by omega⟩
 obtain ⟨fe1, fe2, hel⟩ := he
 have few : IntKind.i64.wrap (e : Int) = (e : Int) := IntWalk.i64_in _ (by omega)
 obtain ⟨n', hn'⟩ : ∃ m, m = n + e := ⟨_, rfl⟩
 have fm : (n : Int) + (e : Int) = (n' : Int) := by omega
 have fmw : IntKind.i64.wrap (n' : Int) = (n' : Int) := IntWalk.i64_in _ (by omega)
 obtain ⟨k, hk⟩ : ∃ k, k = y4 - 1 := ⟨_, rfl⟩
 have fk : y4 - 1 = k := hk.symm
 have fkw : IntKind.i64.wrap k = k := IntWalk.i64_in _ (by omega)
 obtain ⟨KK, hK⟩ : ∃ KK : Nat, max 1 k = (KK : Int) := ⟨(max 1 k).toNat, by omega⟩
 have hK1 : 0 < KK ∧ KK ≤ 14 := by omega
 obtain ⟨Q, hQ⟩ : ∃ Q, Q = min pc 6 := ⟨_, rfl⟩
 have fQ : min (pc : Int) 6 = (Q : Int) := by omega
 have hQc : Q ≤ cc := by omega
 have hsl := slice_run C pc cc Q hQc
 obtain ⟨C', hC'⟩ : ∃ C', C' = (if cc = 0 then C else C.map (·.add 0)) := ⟨_, rfl⟩
 have hrw := fun W (hg : Grow w W) => slice_rows C cc Q rs W (h3.grow hg)
 rw [← hC'] at hsl hrw
 have hr2 : ∀ W, Grow w W → Tab W → Calls Tryz.prog 19 #[.slice C' Q cc] W fun e w' => e = .returned (.bool true) ∧ Grow W w' := fun W hg hT => law9_rates (rs.take Q) Q cc C' (by simp; omega) (by omega) W (hrw W hg) hT
 have hi1 : ∀ W, Grow w W → Calls Tryz.prog 11 #[.slice A pa ca, .int .i64 n, .int .i64 KK] W (RetY (fun x : Ax => .slice x.1 n x.2) (fun x W => Li W x.1 (clsL la KK n)) W) := fun W hg => law9_ints A la ca pa n KK hpa (by omega) (by omega) (by omega) (by omega) W (h1.grow hg)
 have hi2 : ∀ W, Grow w W → Calls Tryz.prog 11 #[.slice B pb cb, .int .i64 n', .int .i64 KK] W (RetY (fun x : Ax => .slice x.1 n' x.2) (fun x W => Li W x.1 (clsL lb KK n')) W) := fun W hg => law9_ints B lb cb pb n' KK hpb (by omega) (by omega) (by omega) (by omega) W (h2.grow hg)
 have hl1 := clsL_len la KK n
 have hl2 := clsL_len lb KK n'
 generalize clsL la KK n = l1 at *
 generalize clsL lb KK n' = l2 at *
 obtain ⟨vr, z1, hqv, r1, r2⟩ := pair_Right n n' l1 l2 hl1 hl2 (by omega)
 obtain ⟨m, LL, z2, hmL, hm12, hrl, t1, t2⟩ := pair_Table n n' k l1 l2 hl1 hl2 (by omega)
 have hzz1 : (z1 != z1) = false := by simp
 have hzz2 : (z2 != z2) = false := by simp
 have hmm : ((m : Int) != (m : Int)) = false := by simp
 have Hp1 := Lib.hid hp1
 have Hp2 := Lib.hid hp2
 have Hp3 := Lib.hid hp3
 have Hsl := Lib.hid hsl
 have Hr2 := Lib.hid hr2
 have Hi1 := Lib.hid hi1
 have Hi2 := Lib.hid hi2
 have R1 := Lib.hid r1
 have R2 := Lib.hid r2
 have T1 := Lib.hid t1
 have T2 := Lib.hid t2
 have HmL := Lib.hid hmL
 have Hrl := Lib.hid hrl
 clear hp1 hp2 hp3 hsl hr2 hi1 hi2 r1 r2 t1 t2 hmL hrl hrw hC' hQ hk hn' hy hy4 hn hpa hpb hpc h1 h2 h3 hl1 hl2 hla hlb hrs hcc a1 a2 a3 a4 a5 a6 hK1 hel hQc
 go_enter Tryz.func3, Tryz.ntmps3
 refine en0 ?_
 intro u hG hB hF
 refine wp_seq (rsE allocs2 [0, 1, 0] hB hG fun L hL => ?_)
 refine gs ?_
 refine gmw (C := fun v => Hp1.out _) ?_
 refine gs ?_
 refine geT hL ?_
 clear hB hG hL L
 rintro u ⟨-, hB, hG, -⟩
 refine wp_seq (rsE allocs2 [0, 1, 0, 0] hB hG fun L hL => ?_)
 refine gs ?_
 refine gmw (C := fun v => Hp2.out _) ?_
 refine gs ?_
 refine geT hL ?_
 clear hB hG hL L
 rintro u ⟨-, hB, hG, -⟩
 refine wp_seq (rsE allocs2 [0, 0, 0, 0, 1, 0] hB hG fun L hL => ?_)
 refine gs ?_
 refine gxd (X := Ax) (fun x : Ax => .slice x.1 n x.2) (fun x W => Li W x.1 l1) (fun x u u' hg h => Li.grow h hg) (fun x34 => ?_) (C := by (rintro v ⟨hgu, hB, hG, -⟩; exact Hi1.out _ hG))
 refine gs ?_
 refine geT hL ?_
 clear hB hG hL L
 rintro u ⟨⟨hgu, hB, hG, -⟩, hx34⟩
 have HP := Lib.hid hx34
 clear hx34
 clear hgu
 refine wp_seq (rsE allocs2 [0, 0, 0, 1, 0, 0, 0, 0, 1, 0] hB hG fun L hL => ?_)
 refine gs ?_
 refine gmw (C := fun v => Hp3.out _) ?_
 refine gs ?_
 refine gxd (X := Ax) (fun x : Ax => .slice x.1 n' x.2) (fun x W => Li W x.1 l2) (fun x u u' hg h => Li.grow h hg) (fun x43 => ?_) (C := by (rintro v ⟨hgu, hB, hG, -⟩; exact Hi2.out _ hG))
 refine gs ?_
 refine geT hL ?_
 clear hB hG hL L
 rintro u ⟨⟨hgu, hB, hG, -⟩, hx43⟩
 have HP' := Lib.hid (Li.grow HP.out hgu)
 have HQ := Lib.hid hx43
 clear HP hx43
 have HP := HP'
 clear HP'
 clear hgu
 have HG0 := Lib.hid hG
 clear hB hF hG
 obtain ⟨w0, rfl⟩ : ∃ x, x = w := ⟨_, rfl⟩
 obtain ⟨w, hwu⟩ : ∃ x, x = u := ⟨_, rfl⟩
 rw [← hwu] at HG0 HP HQ
 have hB := Bx.nil u
 have hF := Fr.nil w
 have hG : Grow w u := hwu ▸ Grow.refl u
 clear hwu
 replace HT := HT.grow HG0.out
 refine wp_seq (rsC allocs2 [0, 0, 1, 0, 0, 0, 2] hB hG fun K L hN hL => ?_)
 refine gs ?_
 refine gmd (C := fun v ⟨hgu, hB, hG, _⟩ => R1.out _ x34 x43 (Li.grow HP.out hG) (Li.grow HQ.out hG) (HT.grow hG)) ?_
 refine gs ?_
 refine gaa (newObj_Q _ _ _ _ _) fun b16 hb16 hn16 => ?_
 replace hF := hF.n1 [] hB hG hb16 hn16
 refine geC hL ?_
 clear hB hG hL L
 rintro u ⟨⟨-, hB, hG, -⟩, h16⟩
 replace hB := hB.cons' h16
 clear h16
 clear hb16 hn16
 refine gtT ?_
 clear hN K
 refine st hB hF hG 0 0 [_, _, _, _, _] ?_
 clear hB hG
 intro u hB hG
 refine wp_seq (rsC allocs2 [0, 0, 1, 0, 0, 0, 2] hB hG fun K L hN hL => ?_)
 refine gs ?_
 refine gxd (X := Az) (fun p : Az => .tuple #[rzV p vr, .int .i64 z1]) (fun p W => Rz W p vr) (fun p u u' hg h => Rz.grow h hg) (fun x53 => ?_) (C := by (rintro v ⟨hgu, hB, hG, -⟩; exact R2.out _ x34 x43 (Li.grow HP.out hG) (Li.grow HQ.out hG)))
 refine gs ?_
 refine gaa (newObj_RQ _ _ _ _ _) fun b18 hb18 hn18 => ?_
 replace hF := hF.n1 [] hB hG hb18 hn18
 refine geC hL ?_
 clear hB hG hL L
 rintro u ⟨⟨⟨-, hB, hG, -⟩, hx53⟩, h18⟩
 replace hB := hB.cons' h18
 clear h18
 clear hb18 hn18
 refine gtT ?_
 clear hN K
 refine sv hB hF hG 0 0 [_, _, _] ?_
 intro u hu hBG
 replace hx53 := hx53.put hB 0 rfl (by first | decide | simp) _ _ hu
 clear hB hG hu
 obtain ⟨hB, hG⟩ := hBG
 refine wp_seq (rsE allocs2 [0, 0, 0, 1, 0, 0, 0, 0, 0] hB hG fun L hL => ?_)
 refine gs ?_
 refine gxd (X := Tx) (fun x : Tx => .tuple #[.slice x.1.1 m x.1.2, .int .i64 z2]) (fun x W => Lrows W x.1.1 x.2 ∧ x.2.map (·.2.2) = LL) (fun x u u' hg h => rows_grow hg h) (fun x60 => ?_) (C := by (rintro v ⟨hgu, hB, hG, -⟩; exact T1.out _ x34 x43 (Li.grow HP.out hG) (Li.grow HQ.out hG)))
 refine gs ?_
 refine geT hL ?_
 clear hB hG hL L
 rintro u ⟨⟨hgu, hB, hG, -⟩, hx60⟩
 replace hx53 := hx53.grow hgu
 have HS := Lib.hid hx60
 clear hx60
 clear hgu
 refine wp_seq (rsE allocs2 [0, 0, 0, 1, 0, 0, 0, 0, 0] hB hG fun L hL => ?_)
 refine gs ?_
 refine gxd (X := Tx) (fun x : Tx => .tuple #[.slice x.1.1 m x.1.2, .int .i64 z2]) (fun x W => Lrows W x.1.1 x.2 ∧ x.2.map (·.2.2) = LL) (fun x u u' hg h => rows_grow hg h) (fun x67 => ?_) (C := by (rintro v ⟨hgu, hB, hG, -⟩; exact T2.out _ x34 x43 (Li.grow HP.out hG) (Li.grow HQ.out hG)))
 refine gs ?_
 refine geT hL ?_
 clear hB hG hL L
 rintro u ⟨⟨hgu, hB, hG, -⟩, hx67⟩
 replace hx53 := hx53.grow hgu
 have HS' := Lib.hid (rows_grow hgu HS.out)
 have HD := Lib.hid hx67
 clear HS hx67
 have HS := HS'
 clear HS'
 clear hgu
 refine wp_seq ?_
 refine wp_seq (rsE allocs2 [1, 0, 0, 0, 0, 0, 0, 0, 0, 0, 1, 0, 0, 0, 0, 0, 0, 0, 0, 0, 0, 0, 0, 0, 0] hB hG fun L hL => ?_)
 refine gmd (C := fun v ⟨hgu, hB, hG, _⟩ => law9_known _ (HT.grow hG)) ?_
 refine gs ?_
 first | refine gmd (C := fun v ⟨hgu, hB, hG, _⟩ => hand_Same vr x53.1 x53.2 hqv _ (Rz.grow hx53 hgu).a (Rz.grow hx53 hgu).b) ?_ | refine gmna ?_
 refine gs ?_
 refine geT hL ?_
 clear hB hG hL L
 rintro u ⟨hgu, hB, hG, -⟩
 replace hx53 := hx53.grow hgu
 have HS' := Lib.hid (rows_grow hgu HS.out)
 have HD' := Lib.hid (rows_grow hgu HD.out)
 clear HS HD
 have HS := HS'
 have HD := HD'
 clear HS' HD'
 clear hgu
 have HG1 := Lib.hid (HG0.out.trans hG)
 have HTu := Lib.hid (HT.grow hG)
 have HS1 := Lib.hid HS.out
 have HD1 := Lib.hid HD.out
 clear HG0 HP HQ hB hF hG hx53 HS HD
 obtain ⟨w1, rfl⟩ : ∃ x, x = w := ⟨_, rfl⟩
 obtain ⟨w, hwu⟩ : ∃ x, x = u := ⟨_, rfl⟩
 rw [← hwu] at HG1 HTu HS1 HD1
 replace HT := HTu.out
 have hB := Bx.nil u
 have hF := Fr.nil w
 have hG : Grow w u := hwu ▸ Grow.refl u
 clear hwu HTu
 obtain ⟨⟨A60, c60⟩, rs60⟩ := x60
 obtain ⟨⟨A67, c67⟩, rs67⟩ := x67
 refine wp_cond_false (rfl) ?_
 refine wp_skip ?_
 refine then_norm ?_
 refine wp_seq ?_
 refine r0T ?_
 refine wp_block ?_
 go_loopw [24] (fun s0 wr => ∃ (i : Nat) , i ≤ m ∧ s0 = .int .i64 i ∧ Grow w wr) (fun s0 _ => m - (intOf s0).toNat)
 case atStart => exact ⟨0, Nat.zero_le _, rfl, hG⟩
 case round =>
  clear hB hG
  obtain ⟨i, hi, rfl, hG⟩ := hrel
  obtain ⟨u, rfl⟩ : ∃ x, x = wr := ⟨_, rfl⟩
  have hB := Bx.nil u
  rcases Nat.lt_or_ge i m with hlt0 | hge0
  ·have hdec : decide ((i : Int) < (m : Int)) = true := by simp; omega
   have hil : i < LL.length := by rw [← HmL.out]; exact hlt0
   obtain ⟨l, hli⟩ : ∃ r, LL[i]? = some r := ⟨_, List.getElem?_eq_getElem hil⟩
   obtain ⟨ba, oa, X1, hAe, hca⟩ := Lrows.at HS1.out hli
   obtain ⟨bd, od, X2, hDe, hcd⟩ := Lrows.at HD1.out hli
   simp only at hAe hDe
   subst hAe
   subst hDe
   obtain ⟨ln1, hln⟩ : ∃ x, x = l.length := ⟨_, rfl⟩
   simp only [← hln] at hca hcd
   have hln2 : ln1 ≤ 1048576 := by rw [hln]; exact Hrl.out l (List.mem_of_getElem? hli)
   have Hca := Lib.hid hca
   have Hcd := Lib.hid hcd
   have Hln := Lib.hid hln
   clear hca hcd hli hil hln
   refine wp_seq ?_
   refine r0T ?_
   refine wp_cond_true (rfl) ?_
   refine wp_skip ?_
   refine then_norm ?_
   refine wp_seq ?_
   refine wp_block ?_
   refine wp_seq (rdC allocs2 [] [(0, 0), (0, 1), (0, 2), (0, 3), (0, 4), (0, 5), (0, 6), (0, 7), (1, 8)] hB hG fun K L hN hL => ?_)
   repeat first | refine gya ?_ | refine gyr ?_ | refine gna ?_ | refine gyb (by (rintro v ⟨hgu, hB, hG, -⟩ N hN; have r := hB.r; simp only [BxR] at r; obtain ⟨q1, -⟩ := Hca.out v hG; obtain ⟨q2, -⟩ := Hcd.out v hG; go_simp; exact hN)) ?_
   refine gmd (C := fun v ⟨hgu, hB, hG, _⟩ => hand_SameInts X1.1 X2.1 l ln1 X1.2 X2.2 Hln.out (by omega) _ (Hca.out _ hG).2 (Hcd.out _ hG).2) ?_
   refine geC hL ?_
   clear hB hG hL L
   rintro u ⟨-, hB, hG, -⟩
   refine gtT ?_
   clear hN K
   refine wp_cond_false (rfl) ?_
   refine wp_skip ?_
   refine blk_norm ?_
   refine then_norm ?_
   refine r0E ?_
   refine then_norm ?_
   go_roundw
   case rel => exact ⟨i + 1, by omega, by go_num, hG⟩
   case measure => simp [intOf]; try omega
  ·obtain rfl : m = i := by omega
   have hdec : decide ((m : Int) < (m : Int)) = false := by simp
   skip
   refine wp_seq ?_
   refine r0T ?_
   refine wp_cond_false (rfl) ?_
   refine wp_exit ?_
   refine then_exit ?_
   refine then_exit ?_
   refine blk_exit ?_
   refine then_norm ?_
   refine wp_seq (rsE allocs2 [0, 1, 0, 0, 0, 0, 0, 0, 1, 0, 0] hB hG fun L hL => ?_)
   refine gs ?_
   refine gmd (C := fun v ⟨hgu, hB, hG, _⟩ => law9_rates rs60 m c60 A60 (by have := congrArg List.length HS1.out.2; have h2 := HmL.out; simp at this; omega) (by omega) _ (HS1.out.1.grow hG) (HT.grow hG)) ?_
   refine gs ?_
   first | (apply gy; exact rfl; (rintro v - N hN; have q := Hsl.out; go_simp; exact hN)) | (apply gn; exact rfl)
   refine okf (by simp only [Act.put, List.setIfInBounds_toArray, List.set_cons_succ, List.set_cons_zero]; exact rfl) ?_
   first | refine gmd (C := fun v ⟨hgu, hB, hG, _⟩ => Hr2.out _ (HG1.out.trans hG) (HT.grow hG)) ?_ | refine gmna ?_
   refine gs ?_
   refine geT hL ?_
   clear hB hG hL L
   rintro u ⟨-, hB, hG, -⟩
   refine rt Tryz.results3 ?_
   exact ⟨rfl, HG1.out.trans hG⟩
end Go.Proofs.YtimjnkfcnpfoeaaGreatDoor
namespace Go.Proofs.YtimjnkfcnpfoeaaGreatDoor.scoreClasses
open Go.ChangeShapes Go.WideShapes Go.ChangeAt Go.RowKit
theorem params_ok : ∀ t ∈ Tryz.f3.params.toList, Tryz.prog.readableRec t = true ∧ t < Tryz.prog.types.size := by
 have h : (Tryz.f3.params.toList.all fun t => Tryz.prog.readableRec t && decide (t < Tryz.prog.types.size)) = true := by kernel_rfl
 intro t ht
 have := List.all_eq_true.1 h t ht
 simpa using this
set_option maxRecDepth 100000 in
theorem contract (H : Type) (enc : TypeId × Value → H) (W : World) (base : Nat) (args : Array Value) (ds gs : List (DataW H)) (before : List MemPlace)
  (hval : ∀ (j : Nat) t v, Tryz.f3.params[j]? = some t → args[j]? = some v → Value.okWide Tryz.prog W .any base t v)
  (hW : DataW.Whole enc Tryz.prog Tryz.f3.params.toList Rows.scoreClassesSpec.vars false W args.toList ds gs before) (hL : laidMetH Tryz.prog Rows.scoreClassesRow.laid W) :
  Calls Tryz.prog 3 args W fun e W' => ∃ v, e = .returned v ∧ Rows.scoreClassesSpec.post enc Tryz.prog Tryz.f3 false true false false W args v W' := by
 have hW' := hW
 obtain ⟨p, q, hA0, hV, rfl, hfz, hnd⟩ := hW
 have hA : DataW.TrodAll enc Tryz.prog W 0 (fun _ => true) true Tryz.f3.params.toList args.toList ds p := hA0
 rw [Tryz.params3] at hA hval
 obtain ⟨v0, vs0, d0, ds0, p0, q0, ha0, rfl, rfl, h0, hA1⟩ := trodAll_cons hA
 obtain ⟨v1, vs1, d1, ds1, p1, q1, rfl, rfl, rfl, h1, hA2⟩ := trodAll_cons hA1
 obtain ⟨v2, vs2, d2, ds2, p2, q2, rfl, rfl, rfl, h2, hA3⟩ := trodAll_cons hA2
 obtain ⟨v3, vs3, d3, ds3, p3, q3, rfl, rfl, rfl, h3, hA4⟩ := trodAll_cons hA3
 obtain ⟨v4, vs4, d4, ds4, p4, q4, rfl, rfl, rfl, h4, hA5⟩ := trodAll_cons hA4
 obtain ⟨v5, vs5, d5, ds5, p5, q5, rfl, rfl, rfl, h5, hA6⟩ := trodAll_cons hA5
 obtain ⟨rfl, rfl, rfl⟩ := trodAll_nil hA6
 obtain rfl : args = #[v0, v1, v2, v3, v4, v5] := by
  cases args
  simp_all
 obtain ⟨rfl, rfl⟩ := trodVars_none hV
 obtain ⟨n2, rfl, rfl, rfl, w2⟩ := open_int Tryz.underlying3 (hval 2 3 v2 rfl rfl) h2
 obtain ⟨n3, rfl, rfl, rfl, w3⟩ := open_int Tryz.underlying3 (hval 3 3 v3 rfl rfl) h3
 obtain ⟨n4, rfl, rfl, rfl, w4⟩ := open_int Tryz.underlying3 (hval 4 3 v4 rfl rfl) h4
 obtain ⟨A, la, ca, rfl, hla, hna, hba⟩ := arg_ints (hval 0 22 v0 rfl rfl) h0
 obtain ⟨B, lb, cb, rfl, hlb, hnb, hbb⟩ := arg_ints (hval 1 22 v1 rfl rfl) h1
 obtain ⟨C, rs, cc, rfl, hlc, hnc, hcc⟩ := arg_rows (hval 5 23 v5 rfl rfl) h5
 refine (law9_ScoreClasses A B C la lb rs ca cb cc n2 n3 n4 hna hnb hnc hcc W hla hlb hlc (tab_laid (by kernel_rfl) hL)).mono fun e W' ⟨he, hg⟩ => ?_
 exact ⟨_, he, law_post hW' rfl rfl rfl rfl (by kernel_rfl) params_ok hg⟩
def wit : Array Value := #[.slice none 0 0, .slice none 0 0, .int .i64 0, .int .i64 0, .int .i64 0, .slice none 0 0]
theorem laid_met (os : Os) : laidMet Tryz.prog Rows.scoreClassesRow.laid ((laidWorld os).forCall (fun _ _ => 0) ⟨#[], wit, []⟩).memory :=
 laidMet_of_run' 8 (by kernel_rfl) (by kernel_rfl)
theorem reads (os : Os) {H : Type} (enc : TypeId × Value → H) : ∃ places, DataW.whole enc Tryz.prog ((laidWorld os).forCall (fun _ _ => 0) ⟨#[], wit, []⟩).memory Tryz.f3.params.toList Rows.scoreClassesSpec.vars false wit.toList 8 = some ([.nil, .nil, .lit (.int .i64 0), .lit (.int .i64 0), .lit (.int .i64 0), .nil], [], places) :=
 ⟨[], by kernel_rfl⟩
set_option maxRecDepth 100000 in
theorem lifted (os : Os) (started : os.Started) (H : Type) (enc : TypeId × Value → H) (F : Stop.Interp) :
  ReturnsInHanded {} Tryz.checked os 3 .any ((OpenSpec.ofChange Rows.scoreClassesSpec).preRow enc Tryz.prog Tryz.f3 Rows.scoreClassesRow.domain false Rows.scoreClassesRow.laid) (((OpenSpec.ofChange Rows.scoreClassesSpec).at F).post enc Tryz.prog Tryz.f3 false true false false) := by
 obtain ⟨places, hx⟩ := reads os enc
 refine returnsInHanded_of_row (C := Tryz.checked) (s := OpenSpec.ofChange Rows.scoreClassesSpec) ownK started (by kernel_rfl) Tryz.func3
  (witness_row_at (enc := enc) (C := Tryz.checked) false (laidWorld os) wit rfl (by kernel_rfl) (by kernel_rfl) (by kernel_rfl)
   (OpenSpec.preRow_of_cond 8 hx (by kernel_rfl) (fun k hk => by cases hk) (by kernel_rfl) (laid_met os))) ?_
 intro W base args ds gs before hval hW _ _ _ hL _ _
 exact contract H enc W base args ds gs before hval hW hL
theorem said : Rows.ScoreClassesSaid :=
 OpenClaim.holds_of_cond 3 Tryz.f3 rfl rfl rfl rfl rfl rfl rfl ⟨rfl, rfl, rfl, rfl, rfl⟩ rfl rfl rfl rfl rfl (by kernel_rfl) Tryz.func3 (by kernel_rfl)
  (of_decide_eq_true (by kernel_rfl)) (by unfold Func.isWrapper; first | (rw [if_pos (by decide +kernel)]; kernel_rfl) | (rw [if_neg (by decide +kernel)]; exact ⟨rfl, rfl⟩))
  (fun os started H enc _ F => by rw [OpenClaim.pre_eq_preRow]; exact lifted os started H enc F)
theorem plain (f : FuncId) (fn : Func) (hf : Tryz.pinned.checked.prog.funcNamed Rows.scoreClassesRow.func = some f) (hfn : Tryz.pinned.checked.prog.funcs[f]? = some fn) :
  false = Tryz.pinned.checked.prog.looks [] ∧ ∀ (j : Nat) t, fn.params[j]? = some t → Tryz.pinned.checked.prog.wantsStandIn t = false := by
 obtain rfl : f = 3 := Option.some.inj ((show Tryz.prog.funcNamed Rows.scoreClassesRow.func = some 3 by kernel_rfl).symm.trans hf) |>.symm
 obtain rfl : fn = Tryz.f3 := (Option.some.inj (Tryz.func3.symm.trans hfn)).symm
 refine ⟨by kernel_rfl, fun j t ht => ?_⟩
 have h : (Tryz.f3.params.toList.all fun t => !Tryz.prog.wantsStandIn t) = true := by kernel_rfl
 have := List.all_eq_true.1 h t (Array.mem_toList_iff.2 (Array.mem_of_getElem? ht))
 have h2 : Tryz.prog.wantsStandIn t = false := by simpa using this
 exact h2
theorem card : Rows.ScoreClassesCardSaid :=
 Claim7.holds_tied_plain_at .later [] _ _ _ _ said (fun _ h => by cases h) (by kernel_rfl) (fun _ h => by cases h) scoreClasses_row_tie rfl ⟨rfl, rfl⟩ (by kernel_rfl) rfl plain (by kernel_rfl)
end Go.Proofs.YtimjnkfcnpfoeaaGreatDoor.scoreClasses
namespace Go.Proofs.YtimjnkfcnpfoeaaGreatDoor
theorem scoreClasses_holds : Rows.ScoreClassesCardSaid := scoreClasses.card
#print axioms scoreClasses_holds
end Go.Proofs.YtimjnkfcnpfoeaaGreatDoor
