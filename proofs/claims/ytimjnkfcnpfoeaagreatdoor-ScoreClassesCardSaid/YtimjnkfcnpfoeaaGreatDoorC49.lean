/-
  Contracts and laws: ClassF ClassG.
-/
import Derived.Test.YtimjnkfcnpfoeaaGreatDoorC48
set_option linter.unusedSimpArgs false
set_option linter.unusedVariables false
namespace Go.Proofs.YtimjnkfcnpfoeaaGreatDoor
open Go.RowKit
/-- the entries of rows -/
def entT (rs : List Rw) (i j : Nat) : Int := match rs[i]? with
 | some r => gi r.2.2 j
 | none => 0
def rowAd (rs : List Rw) (i : Nat) : Addr := match rs[i]? with
 | some (some a, _, _) => a
 | _ => ⟨0, 0, none⟩
def rowCp (rs : List Rw) (i : Nat) : Nat := match rs[i]? with
 | some (_, c, _) => c
 | none => 0
theorem Lrows.tb' {W : World} {A : Option Addr} {rs : List Rw} {k : Nat} (h : Lrows W A rs) (hk : rs.length = k) (hk0 : 0 < k) (hr : ∀ (i : Nat) (r : Rw), rs[i]? = some r → r.2.2.length = k) :
  ∃ b off, A = some ⟨b, off, none⟩ ∧ Tb W b off k (fun i => (rowAd rs i).block) (fun i => (rowAd rs i).off) (rowCp rs) (entT rs) := by
 obtain ⟨b, off, e, hb, hc⟩ := h (fun h0 => by rw [h0] at hk; simp at hk; omega)
 refine ⟨b, off, e, hb, fun i hi => ?_⟩
 obtain ⟨r, hri⟩ : ∃ r, rs[i]? = some r := ⟨_, List.getElem?_eq_getElem (by omega)⟩
 obtain ⟨h1, h2⟩ := hc i r hri
 have hl := hr i r hri
 obtain ⟨Ar, cr, lr⟩ := r
 simp only at h1 h2 hl
 obtain ⟨br, orr, e2, hbr, hcr⟩ := h2 (fun h0 => by rw [h0] at hl; simp at hl; omega)
 subst e2
 have ea : rowAd rs i = ⟨br, orr, none⟩ := by unfold rowAd; rw [hri]
 have ec : rowCp rs i = cr := by unfold rowCp; rw [hri]
 simp only [ea, ec]
 rw [hl] at h1
 refine ⟨h1, hbr, fun j hj => ?_⟩
 have et : entT rs i j = gi lr j := by unfold entT; rw [hri]
 rw [et]
 exact hcr j _ (gi_eq (by omega))
open Classical in
/-- the first number of a list that is bad -/
theorem first_bad (p : Nat → Prop) : ∀ n, (∀ i, i < n → p i) ∨ ∃ R, R < n ∧ (∀ i, i < R → p i) ∧ ¬ p R
 | 0 => .inl fun i hi => by omega
 | n + 1 => by
  rcases first_bad p n with h | ⟨R, hR, h1, h2⟩
  ·by_cases hp : p n
   ·exact .inl fun i hi => by
     rcases Nat.lt_or_eq_of_le (Nat.le_of_lt_succ hi) with h' | h'
     ·exact h i h'
     ·exact h' ▸ hp
   ·exact .inr ⟨n, by omega, h, hp⟩
  ·exact .inr ⟨R, by omega, h1, h2⟩
/-- the sum of a table's first entries, row by row -/
def preT (k : Nat) (T : Nat → Nat → Int) (n : Nat) : Int := sumTo (fun m => T (m / k) (m % k)) n
theorem preT_all (k : Nat) (hk : 0 < k) (T : Nat → Nat → Int) : ∀ i j, j ≤ k → preT k T (i * k + j) = allS k T i j := by
 intro i
 induction i with
 | zero =>
  intro j
  induction j with
  | zero => intro _; simp [preT, sumTo, allS]
  | succ j ih =>
   intro hj
   rw [allS_succ, ← ih (by omega)]
   show sumTo _ (0 * k + j) + T ((0 * k + j) / k) ((0 * k + j) % k) = _
   rw [Nat.zero_mul, Nat.zero_add, Nat.div_eq_of_lt (by omega), Nat.mod_eq_of_lt (by omega)]
   rfl
 | succ i ihi =>
  intro j
  induction j with
  | zero =>
   intro _
   have h := ihi k (Nat.le_refl _)
   rw [allS_next] at h
   rw [← h, Nat.add_zero, Nat.succ_mul]
  | succ j ih =>
   intro hj
   rw [allS_succ, ← ih (by omega)]
   show sumTo _ ((i + 1) * k + j) + T (((i + 1) * k + j) / k) (((i + 1) * k + j) % k) = _
   have e1 : ((i + 1) * k + j) / k = i + 1 := by rw [Nat.mul_comm, Nat.mul_add_div hk, Nat.div_eq_of_lt (by omega), Nat.add_zero]
   have e2 : ((i + 1) * k + j) % k = j := by rw [Nat.mul_comm, Nat.mul_add_mod, Nat.mod_eq_of_lt (by omega)]
   rw [e1, e2]
   rfl
theorem total_pre (k : Nat) (hk : 0 < k) (T : Nat → Nat → Int) : sumTo (fun a => sumTo (T a) k) k = preT k T (k * k) := by
 have h := preT_all k hk T k 0 (Nat.zero_le _)
 rw [Nat.add_zero] at h
 rw [h]
 simp [allS, sumTo]
theorem lin_lt {k m R : Nat} (hk : 0 < k) : (m / k < R / k ∨ m / k = R / k ∧ m % k < R % k) ↔ m < R := by
 have h1 := Nat.div_add_mod m k
 have h2 := Nat.div_add_mod R k
 have h3 := Nat.mod_lt m hk
 have h4 := Nat.mod_lt R hk
 constructor
 ·rintro (h | ⟨h, h'⟩)
  ·have := Nat.mul_le_mul_left k h
   rw [Nat.mul_succ] at this
   omega
  ·rw [h] at h1; omega
 ·intro h
  rcases Nat.lt_or_ge (m / k) (R / k) with h' | h'
  ·exact .inl h'
  ·right
   rcases Nat.lt_or_eq_of_le h' with h5 | h5
   ·have := Nat.mul_le_mul_left k h5
    rw [Nat.mul_succ] at this
    omega
   ·rw [← h5] at h1; exact ⟨h5.symm, by omega⟩
theorem pre_cut {k : Nat} (hk : 0 < k) (T : Nat → Nat → Int) (R : Nat) : ∀ n, preT k (cutT T (R / k) (R % k)) n = preT k T (min n R)
 | 0 => by simp [preT, sumTo]
 | n + 1 => by
  have ih := pre_cut hk T R n
  show preT k (cutT T (R / k) (R % k)) n + cutT T (R / k) (R % k) (n / k) (n % k) = _
  rw [ih]
  by_cases h : n < R
  ·rw [cutT_at ((lin_lt hk).2 h), Nat.min_eq_left (by omega), Nat.min_eq_left (by omega)]
   rfl
  ·have : cutT T (R / k) (R % k) (n / k) (n % k) = 0 := if_neg fun h' => h ((lin_lt hk).1 h')
   rw [this, Nat.min_eq_right (by omega), Nat.min_eq_right (by omega), Int.add_zero]
/-- all entries may be added up, or there is a first one that may not -/
theorem table_cases (k : Nat) (hk : 0 < k) (T : Nat → Nat → Int) :
  ((∀ a, a < k → ∀ t, t < k → 0 ≤ T a t) ∧ sumTo (fun a => sumTo (T a) k) k ≤ 2147483647) ∨
  ∃ I J, I < k ∧ J < k ∧ (∀ a, a < k → ∀ t, t < k → 0 ≤ cutT T I J a t) ∧ sumTo (fun a => sumTo (cutT T I J a) k) k ≤ 2147483647 ∧ (T I J < 0 ∨ 2147483647 - allS k (cutT T I J) I J < T I J) := by
 have hpos : ∀ a t, a < k → t < k → a * k + t < k * k ∧ (a * k + t) / k = a ∧ (a * k + t) % k = t := fun a t ha ht => by
  refine ⟨?_, by rw [Nat.mul_comm, Nat.mul_add_div hk, Nat.div_eq_of_lt ht]; rfl, by rw [Nat.mul_comm, Nat.mul_add_mod, Nat.mod_eq_of_lt ht]⟩
  have := Nat.mul_le_mul_right k (show a + 1 ≤ k from ha)
  rw [Nat.succ_mul] at this
  omega
 rcases first_bad (fun n => 0 ≤ T (n / k) (n % k) ∧ T (n / k) (n % k) ≤ 2147483647 - preT k T n) (k * k) with h | ⟨R, hR, h1, h2⟩
 ·left
  refine ⟨fun a ha t ht => ?_, ?_⟩
  ·obtain ⟨e1, e2, e3⟩ := hpos a t ha ht
   have := (h _ e1).1
   rwa [e2, e3] at this
  ·rw [total_pre k hk T]
   obtain ⟨m, hm⟩ : ∃ m, k * k = m + 1 := ⟨k * k - 1, by have := Nat.mul_le_mul hk hk; omega⟩
   have := (h m (by omega)).2
   rw [hm]
   show preT k T m + T (m / k) (m % k) ≤ _
   omega
 ·right
  have hI : R / k < k := Nat.div_lt_of_lt_mul hR
  have hJ : R % k < k := Nat.mod_lt R hk
  have hpR : preT k T R ≤ 2147483647 := by
   cases R with
   | zero => simp [preT, sumTo]
   | succ m =>
    have := (h1 m (by omega)).2
    show preT k T m + T (m / k) (m % k) ≤ _
    omega
  have hall : allS k (cutT T (R / k) (R % k)) (R / k) (R % k) = preT k T R := by
   rw [← preT_all k hk _ _ _ (by omega), pre_cut hk, Nat.mul_comm, Nat.div_add_mod, Nat.min_self]
  refine ⟨R / k, R % k, hI, hJ, fun a ha t ht => ?_, ?_, ?_⟩
  ·obtain ⟨e1, e2, e3⟩ := hpos a t ha ht
   by_cases hc : a < R / k ∨ a = R / k ∧ t < R % k
   ·rw [cutT_at hc]
    have hlt : a * k + t < R := (lin_lt hk).1 (by rw [e2, e3]; exact hc)
    have := (h1 _ hlt).1
    rwa [e2, e3] at this
   ·unfold cutT; rw [if_neg hc]; omega
  ·rw [total_pre k hk, pre_cut hk, Nat.min_eq_right (by omega)]
   exact hpR
  ·rw [hall]
   by_cases h3 : T (R / k) (R % k) < 0
   ·exact .inl h3
   ·right
    have : ¬ T (R / k) (R % k) ≤ 2147483647 - preT k T R := fun h4 => h2 ⟨by omega, h4⟩
    omega
/-- rates of the program's that lie from the address on -/
def Lr3 (u : World) (A : Option Addr) (l : List R3) : Prop :=
 l ≠ [] → ∃ b off, A = some ⟨b, off, none⟩ ∧ b < u.heap.size ∧ ∀ i r, l[i]? = some r → Cq u b (off + i * 15) r.1 ∧ Cq u b (off + i * 15 + 5) r.2.1 ∧ Cq u b (off + i * 15 + 10) r.2.2
theorem Cq.grow {u u' : World} {b o : Nat} {q : Rat} (h : Cq u b o q) (hb : b < u.heap.size) (hg : Grow u u') : Cq u' b o q :=
 ⟨(hg.cell (p := ⟨b, o, none⟩) hb).trans h.1, (hg.cell (p := ⟨b, o + 1, none⟩) hb).trans h.2.1, (hg.cell (p := ⟨b, o + 2, none⟩) hb).trans h.2.2.1, (hg.cell (p := ⟨b, o + 3, none⟩) hb).trans h.2.2.2.1, (hg.cell (p := ⟨b, o + 4, none⟩) hb).trans h.2.2.2.2⟩
theorem Lr3.nil (u : World) (A : Option Addr) : Lr3 u A [] := fun h => absurd rfl h
theorem Lr3.grow {u u' : World} {A : Option Addr} {l : List R3} (h : Lr3 u A l) (hg : Grow u u') : Lr3 u' A l := fun hn => by
 obtain ⟨b, off, e, hb, hc⟩ := h hn
 exact ⟨b, off, e, Nat.lt_of_lt_of_le hb hg.size, fun i r hi => ⟨(hc i r hi).1.grow hb hg, (hc i r hi).2.1.grow hb hg, (hc i r hi).2.2.grow hb hg⟩⟩
theorem lr3_blk {u : World} {b : Nat} {l : List R3} (h : Blk u b 58 (cellsR l)) : Lr3 u (some ⟨b, 0, none⟩) l := fun _ =>
 ⟨b, 0, rfl, h.lt, fun i r hi => by
  obtain ⟨hl, rfl⟩ := List.getElem?_eq_some_iff.1 hi
  have key : ∀ j v, j < 15 → (rL l[i])[j]? = some v → u.cell? ⟨b, 0 + i * 15 + j, none⟩ = some v := fun j v hj hv => by
   rw [h.cell, Nat.zero_add, Nat.mul_comm, cellsR_get _ hl hj]; exact hv
  exact ⟨⟨key 0 _ (by omega) rfl, key 1 _ (by omega) rfl, key 2 _ (by omega) rfl, key 3 _ (by omega) rfl, key 4 _ (by omega) rfl⟩, ⟨key 5 _ (by omega) rfl, key 6 _ (by omega) rfl, key 7 _ (by omega) rfl, key 8 _ (by omega) rfl, key 9 _ (by omega) rfl⟩, ⟨key 10 _ (by omega) rfl, key 11 _ (by omega) rfl, key 12 _ (by omega) rfl, key 13 _ (by omega) rfl, key 14 _ (by omega) rfl⟩⟩⟩
def RatesOf (rs : List Rw) (k m : Nat) (L : List R3) (z : Int) : Prop :=
 m = L.length ∧ m ≤ k ∧ (∀ r ∈ L, qs r.1 ≤ LIM ∧ qs r.2.1 ≤ LIM ∧ qs r.2.2 ≤ LIM) ∧
 (∀ (W : World) (A : Option Addr) (c : Nat), Lrows W A rs → Tab W → Calls Tryz.prog 20 #[.slice A k c] W (RetY (fun x : Ax => .tuple #[.slice x.1 m x.2, .int .i64 z]) (fun x W => Lr3 W x.1 L) W)) ∧
 ∀ (W : World) (A : Option Addr) (c : Nat), Lrows W A rs → Calls Tryz.prog 64 #[.slice A k c] W (RetY (fun x : Ax => .tuple #[.slice x.1 m x.2, .int .i64 z]) (fun x W => Lz3 W x.1 L) W)
theorem pair_Rates (rs : List Rw) (k : Nat) (hk : rs.length = k) (hk2 : k ≤ 1048576) : ∃ (m : Nat) (L : List R3) (z : Int), RatesOf rs k m L z := by
  have fail : ∀ z : Int, (∀ (W : World) (A : Option Addr) (c : Nat), Lrows W A rs → Tab W → Calls Tryz.prog 20 #[.slice A k c] W fun e w' => e = .returned (.tuple #[.slice none 0 0, .int .i64 z]) ∧ Grow W w') →
      (∀ (W : World) (A : Option Addr) (c : Nat), Lrows W A rs → Calls Tryz.prog 64 #[.slice A k c] W fun e w' => e = .returned (.tuple #[.slice none 0 0, .int .i64 z]) ∧ Grow W w') → RatesOf rs k 0 [] z := fun z h1 h2 =>
    ⟨rfl, Nat.zero_le _, (fun r hr => by cases hr), fun W A c hL hT => (h1 W A c hL hT).mono fun e w' ⟨he, hg⟩ => ⟨(none, 0), he, Lr3.nil _ _, hg⟩, fun W A c hL => (h2 W A c hL).mono fun e w' ⟨he, hg⟩ => ⟨(none, 0), he, Lz3.nil _ _, hg⟩⟩
  rcases Nat.eq_zero_or_pos k with rfl | hk0
  · exact ⟨0, [], 5, fail 5 (fun W A c _ _ => score_Rates_none A c W) (fun W A c _ => ref6_Rates_none A c W)⟩
  rcases first_bad (fun i => ∀ r, rs[i]? = some r → r.2.2.length = k) k with hg | ⟨R, hR, hb1, hb2⟩
  · have hr : ∀ (i : Nat) (r : Rw), rs[i]? = some r → r.2.2.length = k := fun i r hi => hg i (by have := (List.getElem?_eq_some_iff.1 hi).1; omega) r hi
    have htb := fun (W : World) (A : Option Addr) (hL : Lrows W A rs) => hL.tb' hk hk0 hr
    rcases table_cases k hk0 (entT rs) with ⟨h1, h2⟩ | ⟨I, J, hI, hJ, h1, h2, h3⟩
    · refine ⟨k, ratesL k (entT rs) k, 0, (ratesL_len _ _ _).symm, Nat.le_refl _, fun r hr => ?_, fun W A c hL hT => ?_, fun W A c hL => ?_⟩
      · unfold ratesL at hr
        obtain ⟨i, hi, rfl⟩ := List.mem_map.1 hr
        have hik := List.mem_range.1 hi
        obtain ⟨r1, r2⟩ := row_le (k := k) (T := entT rs) h1 hik k (Nat.le_refl _)
        obtain ⟨r3, r4⟩ := col_le (k := k) (T := entT rs) h1 hik k (Nat.le_refl _)
        have e8 := h1 i hik i hik
        have e9 := le_sumTo hik (fun j hj => h1 i hik j hj)
        have z1 : qs (precAt k (entT rs) i) ≤ 31 := over_sub 0 0 _ _ 31 (by omega) (by omega) (by omega)
        have z2 : qs (recAt k (entT rs) i) ≤ 31 := over_sub 0 0 _ _ 31 (by omega) (by omega) (by omega)
        have z3 : qs (prodAt k (entT rs) i) ≤ 62 := by have := qs_mul (precAt k (entT rs) i) (recAt k (entT rs) i); unfold prodAt qmul; omega
        have z4 := qs_add (prodAt k (entT rs) i) (prodAt k (entT rs) i)
        have z5 := qs_add (precAt k (entT rs) i) (recAt k (entT rs) i)
        have z6 : qs (bothAt k (entT rs) i) ≤ 300 := by have := qs_div (prodAt k (entT rs) i + prodAt k (entT rs) i) (precAt k (entT rs) i + recAt k (entT rs) i); unfold bothAt qdiv qadd; omega
        have hL : 300 ≤ LIM := by unfold LIM; omega
        exact ⟨Nat.le_trans z1 (by omega), Nat.le_trans z2 (by omega), Nat.le_trans z6 hL⟩
      · obtain ⟨b, off, rfl, ht⟩ := htb W A hL
        have hBl : 1000 ≤ BIG := by unfold BIG; omega
        refine (score_Rates_ok b off k c _ _ _ (entT rs) 31 hk0 hk2 h1 h2 (by omega) (by omega) (by omega) W ht hT).mono fun e w' ⟨bo, _, he, hB, hg⟩ => ⟨(some ⟨bo, 0, none⟩, k), he, ?_, hg⟩
        rw [ratesL_all] at hB
        exact lr3_blk hB
      · obtain ⟨b, off, rfl, ht⟩ := htb W A hL
        have hBl : 1000 ≤ BIG := by unfold BIG; omega
        exact ref6_Rates_ok b off k c _ _ _ (entT rs) 31 hk0 hk2 h1 h2 (by omega) (by omega) (by omega) W ht
    · exact ⟨0, [], 1, fail 1 (fun W A c hL hT => by
          obtain ⟨b, off, rfl, ht⟩ := htb W A hL
          exact score_Rates_arg b off k c _ _ _ (entT rs) I J hI hJ hk2 h1 h2 h3 W ht) (fun W A c hL => by
          obtain ⟨b, off, rfl, ht⟩ := htb W A hL
          exact ref6_Rates_arg b off k c _ _ _ (entT rs) I J hI hJ hk2 h1 h2 h3 W ht)⟩
  · obtain ⟨r0, hr0⟩ : ∃ r, rs[R]? = some r := ⟨_, List.getElem?_eq_getElem (by omega)⟩
    have hbad : r0.2.2.length ≠ k := fun e => hb2 fun r hr => by rw [hr0] at hr; cases hr; exact e
    exact ⟨0, [], 5, fail 5 (fun W A c hL _ => score_Rates_shape A rs k c hk R hR (fun i r hi hri => hb1 i hi r hri) r0 hr0 hbad (by omega) W hL) (fun W A c hL => ref6_Rates_shape A rs k c hk R hR (fun i r hi hri => hb1 i hi r hri) r0 hr0 hbad (by omega) W hL)⟩
end Go.Proofs.YtimjnkfcnpfoeaaGreatDoor
namespace Go.Proofs.YtimjnkfcnpfoeaaGreatDoor
open Go.RowKit
theorem Lr3.read {u : World} {A : Option Addr} {l : List R3} {i : Nat} {r1 r2 r3 : Rat} (h : Lr3 u A l) (hi : l[i]? = some (r1, r2, r3)) : ∃ b o, A = some ⟨b, o, none⟩ ∧ ∀ W, Grow u W →
  (W.cell? ⟨b, o + i * 15, none⟩ = some (.bool (intNeg r1.num)) ∧ W.cell? ⟨b, o + i * 15 + 1, none⟩ = some (.int .u64 (natLo r1.num.natAbs)) ∧ W.cell? ⟨b, o + i * 15 + 2, none⟩ = some (.string (natMo r1.num.natAbs)) ∧ W.cell? ⟨b, o + i * 15 + 3, none⟩ = some (.int .u64 (natLo (keptDen r1.den))) ∧ W.cell? ⟨b, o + i * 15 + 4, none⟩ = some (.string (natMo (keptDen r1.den)))) ∧
  (W.cell? ⟨b, o + i * 15 + 5, none⟩ = some (.bool (intNeg r2.num)) ∧ W.cell? ⟨b, o + i * 15 + 6, none⟩ = some (.int .u64 (natLo r2.num.natAbs)) ∧ W.cell? ⟨b, o + i * 15 + 7, none⟩ = some (.string (natMo r2.num.natAbs)) ∧ W.cell? ⟨b, o + i * 15 + 8, none⟩ = some (.int .u64 (natLo (keptDen r2.den))) ∧ W.cell? ⟨b, o + i * 15 + 9, none⟩ = some (.string (natMo (keptDen r2.den)))) ∧
  W.cell? ⟨b, o + i * 15 + 10, none⟩ = some (.bool (intNeg r3.num)) ∧ W.cell? ⟨b, o + i * 15 + 11, none⟩ = some (.int .u64 (natLo r3.num.natAbs)) ∧ W.cell? ⟨b, o + i * 15 + 12, none⟩ = some (.string (natMo r3.num.natAbs)) ∧ W.cell? ⟨b, o + i * 15 + 13, none⟩ = some (.int .u64 (natLo (keptDen r3.den))) ∧ W.cell? ⟨b, o + i * 15 + 14, none⟩ = some (.string (natMo (keptDen r3.den))) := by
 obtain ⟨b, off, e, hb, hc⟩ := h (fun h0 => by rw [h0] at hi; simp at hi)
 refine ⟨b, off, e, fun W hg => ?_⟩
 obtain ⟨h1, h2, h3⟩ := hc i _ hi
 exact ⟨h1.grow hb hg, h2.grow hb hg, h3.grow hb hg⟩
theorem Lz3.read {u : World} {A : Option Addr} {l : List R3} {i : Nat} {r1 r2 r3 : Rat} (h : Lz3 u A l) (hi : l[i]? = some (r1, r2, r3)) : ∃ (b o : Nat) (p1 p2 p3 : Az), A = some ⟨b, o, none⟩ ∧ ∀ W, Grow u W → (Rz W p1 r1 ∧ Rz W p2 r2 ∧ Rz W p3 r3) ∧
  (W.cell? ⟨b, o + i * 9, none⟩ = some (.bool (intNeg r1.num)) ∧ W.cell? ⟨b, o + i * 9 + 1, none⟩ = some (.slice p1.1.1 (ln r1.num.natAbs) p1.1.2) ∧ W.cell? ⟨b, o + i * 9 + 2, none⟩ = some (.slice p1.2.1 (ln r1.den) p1.2.2)) ∧
  (W.cell? ⟨b, o + i * 9 + 3, none⟩ = some (.bool (intNeg r2.num)) ∧ W.cell? ⟨b, o + i * 9 + 4, none⟩ = some (.slice p2.1.1 (ln r2.num.natAbs) p2.1.2) ∧ W.cell? ⟨b, o + i * 9 + 5, none⟩ = some (.slice p2.2.1 (ln r2.den) p2.2.2)) ∧
  W.cell? ⟨b, o + i * 9 + 6, none⟩ = some (.bool (intNeg r3.num)) ∧ W.cell? ⟨b, o + i * 9 + 7, none⟩ = some (.slice p3.1.1 (ln r3.num.natAbs) p3.1.2) ∧ W.cell? ⟨b, o + i * 9 + 8, none⟩ = some (.slice p3.2.1 (ln r3.den) p3.2.2) := by
 obtain ⟨b, off, e, hb, hc⟩ := h (fun h0 => by rw [h0] at hi; simp at hi)
 obtain ⟨p1, p2, p3, ⟨a1, a2, a3⟩, h1, h2, h3⟩ := hc i _ hi
 exact ⟨b, off, p1, p2, p3, e, fun W hg => ⟨⟨a1.grow hg, a2.grow hg, a3.grow hg⟩, h1.grow hb hg, h2.grow hb hg, h3.grow hb hg⟩⟩
set_option maxHeartbeats 4000000 in
set_option maxRecDepth 100000 in
theorem law9_rates (rs : List Rw) (k c : Nat) (A : Option Addr) (hk : rs.length = k) (hk2 : k ≤ 1048576) (w : World) (h : Lrows w A rs) (HT : Tab w) :
  Calls Tryz.prog 19 #[.slice A k c] w fun e w' => e = .returned (.bool true) ∧ Grow w w' := by
 obtain ⟨m, LL, z, hm, hmk, hsz, hp, hd⟩ := pair_Rates rs k hk hk2
 have hp1 := fun W (hg : Grow w W) hT => hp W A c (h.grow hg) hT
 have hd1 := fun W (hg : Grow w W) => hd W A c (h.grow hg)
 have hzz : (z != z) = false := by simp
 have hmm : ((m : Int) != (m : Int)) = false := by simp
 have Hp := Lib.hid hp1
 have Hd := Lib.hid hd1
 have Hsz := Lib.hid hsz
 have Hm := Lib.hid hm
 clear hp hd hp1 hd1 hsz hm h hk
 go_enter Tryz.func19, Tryz.ntmps19
 refine en0 ?_
 intro u hG hB hF
 refine wp_seq (rsE allocs [0, 1, 0, 0, 0, 0, 0] hB hG fun L hL => ?_)
 refine gs ?_
 refine gxd (X := Ax) (fun x : Ax => .tuple #[.slice x.1 m x.2, .int .i64 z]) (fun x W => Lr3 W x.1 LL) (fun x u u' hg h => Lr3.grow h hg) (fun x10 => ?_) (C := by (rintro v ⟨hgu, hB, hG, -⟩; exact Hp.out _ hG (HT.grow hG)))
 refine gs ?_
 refine geT hL ?_
 clear hB hG hL L
 rintro u ⟨⟨hgu, hB, hG, -⟩, hx10⟩
 have HP := Lib.hid hx10
 clear hx10
 clear hgu
 refine wp_seq (rsE allocs [0, 1, 0, 0, 0, 0, 0] hB hG fun L hL => ?_)
 refine gs ?_
 refine gxd (X := Ax) (fun x : Ax => .tuple #[.slice x.1 m x.2, .int .i64 z]) (fun x W => Lz3 W x.1 LL) (fun x u u' hg h => Lz3.grow h hg) (fun x15 => ?_) (C := by (rintro v ⟨hgu, hB, hG, -⟩; exact Hd.out _ hG))
 refine gs ?_
 refine geT hL ?_
 clear hB hG hL L
 rintro u ⟨⟨hgu, hB, hG, -⟩, hx15⟩
 have HP' := Lib.hid (Lr3.grow HP.out hgu)
 have HD := Lib.hid hx15
 clear HP hx15
 have HP := HP'
 clear HP'
 clear hgu
 have HG0 := Lib.hid hG
 clear hB hF hG
 obtain ⟨w0, rfl⟩ : ∃ x, x = w := ⟨_, rfl⟩
 obtain ⟨w, hwu⟩ : ∃ x, x = u := ⟨_, rfl⟩
 rw [← hwu] at HG0 HP HD
 have hB := Bx.nil u
 have hF := Fr.nil w
 have hG : Grow w u := hwu ▸ Grow.refl u
 clear hwu
 replace HT := HT.grow HG0.out
 obtain ⟨A10, c10⟩ := x10
 obtain ⟨A15, c15⟩ := x15
 refine wp_seq ?_
 refine r0T ?_
 refine wp_cond_false (rfl) ?_
 refine wp_skip ?_
 refine then_norm ?_
 refine wp_seq ?_
 refine r0T ?_
 refine wp_block ?_
 go_loopw [7] (fun s0 wr => ∃ (i : Nat) , i ≤ m ∧ s0 = .int .i64 i ∧ Grow w wr) (fun s0 _ => m - (intOf s0).toNat)
 case atStart => exact ⟨0, Nat.zero_le _, rfl, hG⟩
 case round =>
  clear hB hG
  obtain ⟨i, hi, rfl, hG⟩ := hrel
  obtain ⟨u, rfl⟩ : ∃ x, x = wr := ⟨_, rfl⟩
  have hB := Bx.nil u
  rcases Nat.lt_or_ge i m with hlt0 | hge0
  ·have hdec : decide ((i : Int) < (m : Int)) = true := by simp; omega
   have hil : i < LL.length := by rw [← Hm.out]; exact hlt0
   obtain ⟨⟨r1, r2, r3⟩, hri⟩ : ∃ r, LL[i]? = some r := ⟨_, List.getElem?_eq_getElem hil⟩
   obtain ⟨ba, oa, hAe, hca⟩ := HP.out.read hri
   obtain ⟨bd, od, p1, p2, p3, hDe, hcd⟩ := HD.out.read hri
   simp only at hAe hDe
   subst hAe
   subst hDe
   obtain ⟨s1, s2, s3⟩ := Hsz.out _ (List.mem_of_getElem? hri)
   simp only at s1 s2 s3
   have Hca := Lib.hid hca
   have Hcd := Lib.hid hcd
   clear hca hcd hri hil
   refine wp_seq ?_
   refine r0T ?_
   refine wp_cond_true (rfl) ?_
   refine wp_skip ?_
   refine then_norm ?_
   refine wp_seq ?_
   refine wp_block ?_
   refine wp_seq (rdC allocs [] [(0, 0), (0, 1), (0, 2), (0, 3), (0, 4), (0, 5), (0, 6), (0, 7), (0, 8), (0, 9), (1, 10), (0, 11), (0, 12), (0, 13), (0, 14), (0, 15), (0, 16), (0, 17), (0, 18), (0, 19), (0, 20), (0, 21), (0, 22), (1, 23), (0, 24), (0, 25), (0, 26), (0, 27), (0, 28), (0, 29), (0, 30), (0, 31), (0, 32), (0, 33), (0, 34), (0, 35), (0, 36), (1, 37), (0, 38)] hB hG fun K L hN hL => ?_)
   repeat first | refine gya ?_ | refine gyr ?_ | refine gna ?_ | refine gyb (by (rintro v ⟨hgu, hB, hG, -⟩ N hN; have r := hB.r; simp only [BxR] at r; obtain ⟨⟨a1, a2, a3, a4, a5⟩, ⟨b1, b2, b3, b4, b5⟩, c1, c2, c3, c4, c5⟩ := Hca.out v hG; obtain ⟨-, ⟨d1, d2, d3⟩, ⟨e1, e2, e3⟩, f1, f2, f3⟩ := Hcd.out v hG; go_simp; exact hN)) ?_
   refine gmd (C := fun v ⟨hgu, hB, hG, _⟩ => hand_Same r1 p1.1 p1.2 s1 _ (Hcd.out _ hG).1.1.a (Hcd.out _ hG).1.1.b) ?_
   repeat first | refine gya ?_ | refine gyr ?_ | refine gna ?_ | refine gyb (by (rintro v ⟨hgu, hB, hG, -⟩ N hN; have r := hB.r; simp only [BxR] at r; obtain ⟨⟨a1, a2, a3, a4, a5⟩, ⟨b1, b2, b3, b4, b5⟩, c1, c2, c3, c4, c5⟩ := Hca.out v hG; obtain ⟨-, ⟨d1, d2, d3⟩, ⟨e1, e2, e3⟩, f1, f2, f3⟩ := Hcd.out v hG; go_simp; exact hN)) ?_
   first | refine gmd (C := fun v ⟨hgu, hB, hG, _⟩ => hand_Same r2 p2.1 p2.2 s2 _ (Hcd.out _ hG).1.2.1.a (Hcd.out _ hG).1.2.1.b) ?_ | refine gmna ?_
   repeat first | refine gya ?_ | refine gyr ?_ | refine gna ?_ | refine gyb (by (rintro v ⟨hgu, hB, hG, -⟩ N hN; have r := hB.r; simp only [BxR] at r; obtain ⟨⟨a1, a2, a3, a4, a5⟩, ⟨b1, b2, b3, b4, b5⟩, c1, c2, c3, c4, c5⟩ := Hca.out v hG; obtain ⟨-, ⟨d1, d2, d3⟩, ⟨e1, e2, e3⟩, f1, f2, f3⟩ := Hcd.out v hG; go_simp; exact hN)) ?_
   first | refine gmd (C := fun v ⟨hgu, hB, hG, _⟩ => hand_Same r3 p3.1 p3.2 s3 _ (Hcd.out _ hG).1.2.2.a (Hcd.out _ hG).1.2.2.b) ?_ | refine gmna ?_
   refine gs ?_
   refine geC hL ?_
   clear hB hG hL L
   rintro u ⟨-, hB, hG, -⟩
   refine gtT ?_
   clear hN K
   refine wp_cond_false (rfl) ?_
   refine wp_skip ?_
   refine blk_norm ?_
   refine then_norm ?_
   refine r0E ?_
   refine then_norm ?_
   go_roundw
   case rel => exact ⟨i + 1, by omega, by go_num, hG⟩
   case measure => simp [intOf]; try omega
  ·obtain rfl : m = i := by omega
   have hdec : decide ((m : Int) < (m : Int)) = false := by simp
   skip
   refine wp_seq ?_
   refine r0T ?_
   refine wp_cond_false (rfl) ?_
   refine wp_exit ?_
   refine then_exit ?_
   refine then_exit ?_
   refine blk_exit ?_
   refine then_norm ?_
   refine r0T ?_
   refine rt Tryz.results19 ?_
   exact ⟨rfl, HG0.out.trans hG⟩
end Go.Proofs.YtimjnkfcnpfoeaaGreatDoor
