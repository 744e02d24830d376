/-
  Contracts and laws: ClassC ClassD.
-/
import Derived.Test.YtimjnkfcnpfoeaaGreatDoorC43
import Derived.Test.YtimjnkfcnpfoeaaGreatDoorC46
set_option linter.unusedSimpArgs false
set_option linter.unusedVariables false
namespace Go.Proofs.YtimjnkfcnpfoeaaGreatDoor
open Go.RowKit
set_option maxHeartbeats 400000 in
theorem score_Table_no (A B : Option Addr) (m n c d : Nat) (z : Int) (h : pairedB m n = false) (w : World) :
  Calls Tryz.prog 14 #[.slice A m c, .slice B n d, .int .i64 z] w fun e w' => e = .returned (.tuple #[.slice none 0 0, .int .i64 5]) ∧ Grow w w' := by
 have hp := fun W => score_paired_ii A B m n c d W
 simp only [h] at hp
 have Hp := Lib.hid hp
 clear hp h
 go_enter Tryz.func14, Tryz.ntmps14
 go_wp2_with (go_at_call 57; ((with_reducible refine (Hp.out _).mono ?_); rintro e w1 ⟨rfl, hg1⟩))
 go_ret2
 exact ⟨rfl, hg1⟩
set_option maxHeartbeats 400000 in
theorem score_Table_cls (A B : Option Addr) (m c d : Nat) (z : Int) (hm : 0 < m) (h : z < 1 ∨ 12 < z) (w : World) :
  Calls Tryz.prog 14 #[.slice A m c, .slice B m d, .int .i64 z] w fun e w' => e = .returned (.tuple #[.slice none 0 0, .int .i64 1]) ∧ Grow w w' := by
 have hp := fun W => score_paired_ii A B m m c d W
 rw [pairedB_yes hm] at hp
 have Hp := Lib.hid hp
 clear hp
 by_cases h1 : z < 1
 ·have c1 : decide (z < 1) = true := by simpa using h1
  clear h
  go_enter Tryz.func14, Tryz.ntmps14
  go_wp2_with (go_at_call 57; ((with_reducible refine (Hp.out _).mono ?_); rintro e w1 ⟨rfl, hg1⟩))
  go_ret2
  exact ⟨rfl, hg1⟩
 ·have c1 : decide (z < 1) = false := by simpa using h1
  have c2 : decide (12 < z) = true := by simp; omega
  clear h h1
  go_enter Tryz.func14, Tryz.ntmps14
  go_wp2_with (go_at_call 57; ((with_reducible refine (Hp.out _).mono ?_); rintro e w1 ⟨rfl, hg1⟩))
  go_ret2
  exact ⟨rfl, hg1⟩
/-- the table's entries ahead of a place, 0 from there on -/
def cutT (T : Nat → Nat → Int) (I J a t : Nat) : Int := if a < I ∨ a = I ∧ t < J then T a t else 0
theorem cutT_at {T : Nat → Nat → Int} {I J a t : Nat} (h : a < I ∨ a = I ∧ t < J) : cutT T I J a t = T a t := if_pos h
set_option maxHeartbeats 8000000 in
set_option maxRecDepth 100000 in
theorem score_Rates_arg (bt ot k c : Nat) (rb ro rc : Nat → Nat) (T : Nat → Nat → Int) (I J : Nat) (hI : I < k) (hJ : J < k) (hk2 : k ≤ 1048576) (hT : ∀ a, a < k → ∀ t, t < k → 0 ≤ cutT T I J a t) (hsum : sumTo (fun a => sumTo (cutT T I J a) k) k ≤ 2147483647)
  (hbad : T I J < 0 ∨ 2147483647 - allS k (cutT T I J) I J < T I J) (w : World) (ht : Tb w bt ot k rb ro rc T) :
  Calls Tryz.prog 20 #[.slice (some ⟨bt, ot, none⟩) k c] w fun e w' => e = .returned (.tuple #[.slice none 0 0, .int .i64 1]) ∧ Grow w w' := by
 have Ht := Lib.hid ht
 have hZ : ∀ a t, a < I ∨ a = I ∧ t < J → T a t = cutT T I J a t := fun a t h => (cutT_at h).symm
 obtain ⟨Z, hZe⟩ : ∃ Z, Z = cutT T I J := ⟨_, rfl⟩
 rw [← hZe] at hT hsum hbad hZ
 have HZ := Lib.hid hZ
 have HT0 := Lib.hid hT
 have Hbad := Lib.hid hbad
 have hmk2 := make_int k (by omega) (k : Int) rfl
 have hk0 : ((k : Int) == 0) = false := by simp; omega
 obtain ⟨S, hS⟩ : ∃ S, S = sumTo (fun a => sumTo (Z a) k) k := ⟨_, rfl⟩
 rw [← hS] at hsum
 have HS := Lib.hid hS
 clear ht hT hS hZ hZe hbad
 go_enter Tryz.func20, Tryz.ntmps20
 refine en0 ?_
 intro u hG hB hF
 refine wp_seq ?_
 refine r0T ?_
 refine wp_cond_false (rfl) ?_
 refine wp_skip ?_
 refine then_norm ?_
 refine wp_seq ?_
 refine r0T ?_
 refine wp_block ?_
 go_loopw [22] (fun z wr => ∃ i : Nat, i ≤ k ∧ z = .int .i64 i ∧ Grow w wr) (fun z _ => k - (intOf z).toNat)
 case atStart => exact ⟨0, Nat.zero_le _, rfl, hG⟩
 case round =>
  obtain ⟨i, hi, rfl, hG⟩ := hrel
  obtain ⟨u, rfl⟩ : ∃ x, x = wr := ⟨_, rfl⟩
  have hB := Bx.nil u
  rcases Nat.lt_or_ge i k with hlt | hge
  ·have q1 := ((Ht.out.grow hG).2 i hlt).1
   have hne : ((k : Int) != (k : Int)) = false := by simp
   refine r0T ?_
   refine wp_seq ?_
   refine wp_cond_true (rfl) ?_
   refine wp_skip ?_
   refine then_norm ?_
   refine wp_seq ?_
   refine wp_block ?_
   refine r0T ?_
   refine r0T ?_
   refine wp_cond_false (rfl) ?_
   refine wp_skip ?_
   refine blk_norm ?_
   refine then_norm ?_
   refine r0E ?_
   refine then_norm ?_
   go_roundw
   case rel => exact ⟨i + 1, by omega, by go_num, hG⟩
   case measure => simp [intOf]; omega
  ·obtain rfl : k = i := by omega
   refine r0T ?_
   refine wp_seq ?_
   refine wp_cond_false (rfl) ?_
   refine wp_exit ?_
   refine then_exit ?_
   refine then_exit ?_
   refine blk_exit ?_
   refine then_norm ?_
   refine r0T ?_
   refine wp_seq ?_
   refine Code.wp_mono NoP.up ?_
   go_region
   have hT2 := two_newB hB hF hG 3 (cellsI (List.replicate k 0)) 3 (cellsI (List.replicate k 0))
   clear hB hF hG
   obtain ⟨hB, hF, hG⟩ := hT2
   generalize World.drew _ = v at hB hG ⊢
   generalize u.heap.size + 1 = b8 at hB hF ⊢
   generalize u.heap.size = b7 at hB hF ⊢
   obtain ⟨u, rfl⟩ : ∃ x, x = v := ⟨_, rfl⟩
   refine NoP.norm ?_
   rotate_left
   have hT2 := two_newA hB hF hG 3 (cellsI (List.replicate k 0)) 3 (cellsI (List.replicate k 0))
   clear hB hF hG
   obtain ⟨hB, hF, hG⟩ := hT2
   generalize World.drew _ = v at hB hG ⊢
   generalize u.heap.size + 1 = b7 at hB hF ⊢
   generalize u.heap.size = b8 at hB hF ⊢
   obtain ⟨u, rfl⟩ : ∃ x, x = v := ⟨_, rfl⟩
   refine NoP.norm ?_
   rotate_left
   all_goals
    refine then_norm ?_
    refine wp_seq ?_
    refine r0T ?_
    refine wp_block ?_
    go_loopw [6, 40] (fun z t wr => ∃ i : Nat, i ≤ I ∧ t = .int .i64 i ∧ z = .int .i64 (allS k Z i 0) ∧ Bx wr [(b7, 3, cellsI (rowL k Z i 0)), (b8, 3, cellsI (colL k Z i 0))] ∧ Grow w wr) (fun _ t _ => k - (intOf t).toNat)
    case atStart => exact ⟨0, Nat.zero_le _, rfl, rfl, by rw [rowL_start, colL_start]; exact hB, hG⟩
    case round =>
     clear hB hG
     obtain ⟨i, hi, rfl, rfl, hB, hG⟩ := hrel
     obtain ⟨u, rfl⟩ : ∃ x, x = wr := ⟨_, rfl⟩
     have hlt : i < k := by omega
     have hdi : decide (i < k) = true := by simpa using hlt
     have q1 := ((Ht.out.grow hG).2 i hlt).1
     refine r0T ?_
     refine wp_seq ?_
     refine wp_cond_true (rfl) ?_
     refine wp_skip ?_
     refine then_norm ?_
     refine wp_seq ?_
     refine wp_block ?_
     refine r0T ?_
     refine r0T ?_
     refine wp_block ?_
     go_loopw [6, 47] (fun z t wr => ∃ j : Nat, j ≤ k ∧ (i = I → j ≤ J) ∧ t = .int .i64 j ∧ z = .int .i64 (allS k Z i j) ∧ Bx wr [(b7, 3, cellsI (rowL k Z i j)), (b8, 3, cellsI (colL k Z i j))] ∧ Grow w wr) (fun _ t _ => k - (intOf t).toNat)
     case atStart => exact ⟨0, Nat.zero_le _, fun _ => Nat.zero_le _, rfl, rfl, hB, hG⟩
     case round =>
      clear hB hG q1
      obtain ⟨j, hj, hjJ, rfl, rfl, hB, hG⟩ := hrel
      obtain ⟨u, rfl⟩ : ∃ x, x = wr := ⟨_, rfl⟩
      rcases Nat.lt_or_ge j k with hjk | hjk
      ·have q2 := ((Ht.out.grow hG).2 i hlt).2.2 j hjk
       have hdj : decide (j < k) = true := by simpa using hjk
       obtain ⟨e1, e2, e3⟩ := allS_le (k := k) (T := Z) HT0.out hlt hjk
       by_cases hij : i < I ∨ i = I ∧ j < J
       ·have hZe := HZ.out i j hij
        have g1 : (cellsI (rowL k Z i j))[i]? = some (.int .i64 (sumTo (Z i) j)) := by rw [cellsI_get, rowL_get hlt]; rfl
        have g2 : (cellsI (colL k Z i j))[j]? = some (.int .i64 (sumTo (fun a => Z a j) i)) := by rw [cellsI_get, colL_get hjk]; rfl
        have g3 : (cellsI (rowL k Z i j)).setIfInBounds i (.int .i64 (sumTo (Z i) j + Z i j)) = cellsI (rowL k Z i (j + 1)) := by rw [cellsI_set, rowL_set hlt]
        have g4 : (cellsI (colL k Z i j)).setIfInBounds j (.int .i64 (sumTo (fun a => Z a j) i + Z i j)) = cellsI (colL k Z i (j + 1)) := by rw [cellsI_set, colL_set hjk]
        obtain ⟨e4, e5⟩ := row_le (k := k) (T := Z) HT0.out hlt j (by omega)
        obtain ⟨e6, e7⟩ := col_le (k := k) (T := Z) HT0.out hjk i (by omega)
        rw [hZe] at q2
        obtain ⟨N, hN⟩ : ∃ N, N = Z i j := ⟨_, rfl⟩
        obtain ⟨X, hX⟩ : ∃ N, N = sumTo (Z i) j := ⟨_, rfl⟩
        obtain ⟨Y, hY⟩ : ∃ N, N = sumTo (fun a => Z a j) i := ⟨_, rfl⟩
        obtain ⟨L, hL⟩ : ∃ N, N = allS k Z i j := ⟨_, rfl⟩
        rw [← HS.out] at e2 e5 e7
        rw [← hN] at q2 g3 g4 e2 e3
        rw [← hX] at g1 g3 e4 e5
        rw [← hY] at g2 g4 e6 e7
        rw [← hL] at e1 e2 ⊢
        have hL2 : allS k Z i (j + 1) = L + N := by rw [allS_succ, hL, hN]
        have HL2 := Lib.hid hL2
        have G3 := Lib.hid g3
        have G4 := Lib.hid g4
        have c1 : decide (N < 0) = false := by simp; omega
        have c2 : decide (2147483647 - L < N) = false := by simp; omega
        have hjJ1 : i = I → j + 1 ≤ J := fun e => by omega
        have HjJ := Lib.hid hjJ1
        clear hN hX hY hL hL2 g3 g4 hZe hij hjJ hjJ1
        refine r0T ?_
        refine wp_seq ?_
        refine wp_cond_true (rfl) ?_
        refine wp_skip ?_
        refine then_norm ?_
        refine wp_seq ?_
        refine wp_block ?_
        refine r0T ?_
        refine wp_seq ?_
        refine r0T ?_
        refine wp_cond_false (rfl) ?_
        refine wp_skip ?_
        refine then_norm ?_
        refine r0T ?_
        refine r0T ?_
        generalize hu0 : World.setCell u _ _ = u0
        have hBG := hB.over hF hG 0 rfl i [_] hu0
        clear hB hG
        simp only [List.modify_zero_cons, wrAll, G3.out] at hBG
        obtain ⟨hB, hG⟩ := hBG
        obtain ⟨u, rfl⟩ : ∃ x, x = u0 := ⟨_, rfl⟩
        refine r0E ?_
        generalize hu1 : World.setCell u _ _ = u1
        have hBG := hB.over hF hG 1 rfl j [_] hu1
        clear hB hG
        simp only [List.modify_succ_cons, List.modify_zero_cons, wrAll, G4.out] at hBG
        obtain ⟨hB, hG⟩ := hBG
        obtain ⟨u, rfl⟩ : ∃ x, x = u1 := ⟨_, rfl⟩
        refine blk_norm ?_
        refine then_norm ?_
        refine r0E ?_
        refine then_norm ?_
        go_roundw
        case rel => exact ⟨j + 1, by omega, HjJ.out, by go_num, by rw [HL2.out], hB, hG⟩
        case measure => simp [intOf]; omega
       ·have hIJ : i = I ∧ j = J := by
         by_cases e : i = I
         ·exact ⟨e, by have := hjJ e; omega⟩
         ·omega
        obtain ⟨rfl, rfl⟩ := hIJ
        have hbd := Hbad.out
        obtain ⟨N, hN⟩ : ∃ N, N = T i j := ⟨_, rfl⟩
        obtain ⟨L, hL⟩ : ∃ N, N = allS k Z i j := ⟨_, rfl⟩
        rw [← HS.out] at e2
        rw [← hN] at q2 hbd
        rw [← hL] at e1 e2 hbd ⊢
        clear hN hL hij hjJ
        by_cases hn : N < 0
        ·have c1 : decide (N < 0) = true := by simpa using hn
         refine r0T ?_
         refine wp_seq ?_
         refine wp_cond_true (rfl) ?_
         refine wp_skip ?_
         refine then_norm ?_
         refine wp_seq ?_
         refine wp_block ?_
         refine r0T ?_
         refine wp_seq ?_
         refine r0T ?_
         refine wp_cond_true (rfl) ?_
         refine r0T ?_
         refine rt Tryz.results20 ?_
         exact ⟨rfl, hG⟩
        ·have c1 : decide (N < 0) = false := by simpa using hn
         have c2 : decide (2147483647 - L < N) = true := by simp; omega
         clear hn hbd
         refine r0T ?_
         refine wp_seq ?_
         refine wp_cond_true (rfl) ?_
         refine wp_skip ?_
         refine then_norm ?_
         refine wp_seq ?_
         refine wp_block ?_
         refine r0T ?_
         refine wp_seq ?_
         refine r0T ?_
         refine wp_cond_true (rfl) ?_
         refine r0T ?_
         refine rt Tryz.results20 ?_
         exact ⟨rfl, hG⟩
      ·obtain rfl : k = j := by omega
       have hiI : i + 1 ≤ I := by
        rcases Nat.lt_or_ge i I with h | h
        ·exact h
        ·have := hjJ (by omega); omega
       have hdj : decide (k < k) = false := by simp
       clear hjJ
       refine r0T ?_
       refine wp_seq ?_
       refine wp_cond_false (rfl) ?_
       refine wp_exit ?_
       refine then_exit ?_
       refine then_exit ?_
       refine blk_exit ?_
       refine blk_norm ?_
       refine then_norm ?_
       refine r0E ?_
       refine then_norm ?_
       go_roundw
       case rel => exact ⟨i + 1, hiI, by go_num, by rw [← allS_next], by rw [← rowL_next hlt, ← colL_next]; exact hB, hG⟩
       case measure => simp [intOf]; omega
end Go.Proofs.YtimjnkfcnpfoeaaGreatDoor
namespace Go.Proofs.YtimjnkfcnpfoeaaGreatDoor
open Go.RowKit
theorem newObj_RRate (d : Option Tmp) (ty : TypeId) (pos : String) (af : Array Edge) (gd : Option (Nat × Bool)) : newObj Tryz.prog ⟨d, .alloc 115, ty, pos, af, gd⟩ = .cells #[.bool false, .slice none 0 0, .slice none 0 0, .bool false, .slice none 0 0, .slice none 0 0, .bool false, .slice none 0 0, .slice none 0 0] 115 := by kernel_rfl
theorem allocs4 : ∀ t ∈ [41, 115], AllocT Tryz.prog t := by
 intro t ht
 simp only [List.mem_cons, List.not_mem_nil, or_false] at ht
 rcases ht with rfl | rfl
 ·exact fun _ _ _ _ _ _ => by rw [newObj_RQ]; kernel_rfl
 ·exact fun _ _ _ _ _ _ => by rw [newObj_RRate]; kernel_rfl
set_option maxHeartbeats 1000000 in
set_option maxRecDepth 100000 in
/-- a row of another length than the number of rows -/
theorem ref6_Rates_shape (A : Option Addr) (rs : List Rw) (k c : Nat) (hk : rs.length = k) (R : Nat) (hR : R < k) (hr : ∀ i r, i < R → rs[i]? = some r → r.2.2.length = k) (r0 : Rw) (hr0 : rs[R]? = some r0) (hbad : r0.2.2.length ≠ k) (hm : k ≤ 1099511627776) (w : World) (h : Lrows w A rs) :
  Calls Tryz.prog 64 #[.slice A k c] w fun e w' => e = .returned (.tuple #[.slice none 0 0, .int .i64 5]) ∧ Grow w w' := by
 obtain ⟨b, off, rfl, hb, hc⟩ := h (fun h0 => by rw [h0] at hk; simp at hk; omega)
 have Hc := Lib.hid hc
 have Hr := Lib.hid hr
 have Hk := Lib.hid hk
 have Hr0 := Lib.hid hr0
 obtain ⟨n0, hn0⟩ : ∃ n, n = r0.2.2.length := ⟨_, rfl⟩
 rw [← hn0] at hbad
 have Hn0 := Lib.hid hn0
 clear h hc hr hk hr0 hn0
 go_enter Tryz.func64, Tryz.ntmps64
 go_wp2_with fail
 go_loopw [4] (fun z wr => ∃ i : Nat, i ≤ R ∧ z = .int .i64 i ∧ wr = w) (fun z _ => k - (intOf z).toNat)
 case atStart => exact ⟨0, Nat.zero_le _, rfl, rfl⟩
 case round =>
  obtain ⟨i, hi, rfl, rfl⟩ := hrel
  have hik : i < k := by omega
  have hdk : decide ((i : Int) < (k : Int)) = true := by simp; omega
  rcases Nat.lt_or_ge i R with hlt | hge
  ·have hil : i < rs.length := by rw [Hk.out]; omega
   obtain ⟨r, hri⟩ : ∃ r, rs[i]? = some r := ⟨_, List.getElem?_eq_getElem hil⟩
   have hcell := (Hc.out i r hri).1
   rw [Hr.out i r hlt hri] at hcell
   have hne : ((k : Int) != (k : Int)) = false := by simp
   clear hri hil
   go_wp2_with fail
   go_roundw
   case rel => exact ⟨i + 1, by omega, by go_num, by first | rfl | trivial⟩
   case measure => simp [intOf]; omega
  ·obtain rfl : i = R := by omega
   have hcell := (Hc.out i r0 Hr0.out).1
   rw [← Hn0.out] at hcell
   have hne : ((n0 : Int) != (k : Int)) = true := by simp; omega
   go_wp2_with fail
   go_ret2
   exact ⟨rfl, Grow.refl _⟩
set_option maxHeartbeats 1000000 in
theorem ref6_Rates_none (A : Option Addr) (c : Nat) (w : World) : Calls Tryz.prog 64 #[.slice A 0 c] w fun e w' => e = .returned (.tuple #[.slice none 0 0, .int .i64 5]) ∧ Grow w w' := by
 go_enter Tryz.func64, Tryz.ntmps64
 go_wp2_with fail
 go_loopw [4] (fun z wr => z = .int .i64 0 ∧ wr = w) (fun z _ => 0)
 case atStart => exact ⟨rfl, rfl⟩
 case round =>
  obtain ⟨rfl, rfl⟩ := hrel
  go_wp2_with fail
  go_ret2
  exact ⟨rfl, Grow.refl _⟩
set_option maxHeartbeats 4000000 in
set_option maxRecDepth 100000 in
theorem ref6_Rates_arg (bt ot k c : Nat) (rb ro rc : Nat → Nat) (T : Nat → Nat → Int) (I J : Nat) (hI : I < k) (hJ : J < k) (hk2 : k ≤ 1048576) (hT : ∀ a, a < k → ∀ t, t < k → 0 ≤ cutT T I J a t) (hsum : sumTo (fun a => sumTo (cutT T I J a) k) k ≤ 2147483647)
  (hbad : T I J < 0 ∨ 2147483647 - allS k (cutT T I J) I J < T I J) (w : World) (ht : Tb w bt ot k rb ro rc T) :
  Calls Tryz.prog 64 #[.slice (some ⟨bt, ot, none⟩) k c] w fun e w' => e = .returned (.tuple #[.slice none 0 0, .int .i64 1]) ∧ Grow w w' := by
 have Ht := Lib.hid ht
 have hZ : ∀ a t, a < I ∨ a = I ∧ t < J → T a t = cutT T I J a t := fun a t h => (cutT_at h).symm
 obtain ⟨Z, hZe⟩ : ∃ Z, Z = cutT T I J := ⟨_, rfl⟩
 rw [← hZe] at hT hsum hbad hZ
 have HZ := Lib.hid hZ
 have HT0 := Lib.hid hT
 have Hbad := Lib.hid hbad
 have hk0 : ((k : Int) == 0) = false := by simp; omega
 obtain ⟨S, hS⟩ : ∃ S, S = sumTo (fun a => sumTo (Z a) k) k := ⟨_, rfl⟩
 rw [← hS] at hsum
 have HS := Lib.hid hS
 clear ht hT hS hZ hZe hbad
 go_enter Tryz.func64, Tryz.ntmps64
 go_wp2_with fail
 go_loopw [4] (fun z wr => ∃ i : Nat, i ≤ k ∧ z = .int .i64 i ∧ wr = w) (fun z _ => k - (intOf z).toNat)
 case atStart => exact ⟨0, Nat.zero_le _, rfl, rfl⟩
 case round =>
  obtain ⟨i, hi, rfl, rfl⟩ := hrel
  rcases Nat.lt_or_ge i k with hlt | hge
  ·have q1 := (Ht.out.2 i hlt).1
   have hne : ((k : Int) != (k : Int)) = false := by simp
   have hdk : decide (i < k) = true := by simpa using hlt
   go_wp2_with fail
   go_roundw
   case rel => exact ⟨i + 1, by omega, by go_num, by first | rfl | trivial⟩
   case measure => simp [intOf]; omega
  ·obtain rfl : k = i := by omega
   have hdk : decide (k < k) = false := by simp
   go_wp2_with fail
   obtain ⟨wo, rfl⟩ : ∃ wo : World, wo = wr := ⟨_, rfl⟩
   go_loopw [5, 6] (fun z t wr => ∃ i : Nat, i ≤ I ∧ t = .int .i64 i ∧ z = .int .i64 (allS k Z i 0) ∧ wr = wo) (fun _ t _ => k - (intOf t).toNat)
   case atStart => exact ⟨0, Nat.zero_le _, rfl, rfl, rfl⟩
   case round =>
    obtain ⟨i, hi, rfl, rfl, rfl⟩ := hrel
    have hlt : i < k := by omega
    have hdi : decide (i < k) = true := by simpa using hlt
    clear hdk
    go_wp2_with fail
    obtain ⟨wo, rfl⟩ : ∃ wo : World, wo = wr := ⟨_, rfl⟩
    go_loopw [5, 7] (fun z t wr => ∃ j : Nat, j ≤ k ∧ (i = I → j ≤ J) ∧ t = .int .i64 j ∧ z = .int .i64 (allS k Z i j) ∧ wr = wo) (fun _ t _ => k - (intOf t).toNat)
    case atStart => exact ⟨0, Nat.zero_le _, fun _ => Nat.zero_le _, rfl, rfl, rfl⟩
    case round =>
     obtain ⟨j, hj, hjJ, rfl, rfl, rfl⟩ := hrel
     have q1 := (Ht.out.2 i hlt).1
     rcases Nat.lt_or_ge j k with hjk | hjk
     ·have q2 := (Ht.out.2 i hlt).2.2 j hjk
      have hdj : decide (j < k) = true := by simpa using hjk
      obtain ⟨e1, e2, e3⟩ := allS_le (k := k) (T := Z) HT0.out hlt hjk
      by_cases hij : i < I ∨ i = I ∧ j < J
      ·have hZe := HZ.out i j hij
       rw [hZe] at q2
       obtain ⟨N, hN⟩ : ∃ N, N = Z i j := ⟨_, rfl⟩
       obtain ⟨L, hL⟩ : ∃ N, N = allS k Z i j := ⟨_, rfl⟩
       rw [← HS.out] at e2
       rw [← hN] at q2 e2 e3
       rw [← hL] at e1 e2 ⊢
       have hL2 : allS k Z i (j + 1) = L + N := by rw [allS_succ, hL, hN]
       have HL2 := Lib.hid hL2
       have c1 : decide (N < 0) = false := by simp; omega
       have c2 : decide (2147483647 - L < N) = false := by simp; omega
       have f1 : IntKind.i64.wrap (2147483647 - L) = 2147483647 - L := IntWalk.i64_in _ (by omega)
       have f2 : IntKind.i64.wrap (L + N) = L + N := IntWalk.i64_in _ (by omega)
       have hjJ1 : i = I → j + 1 ≤ J := fun e => by omega
       have HjJ := Lib.hid hjJ1
       clear hN hL hL2 hZe hij hjJ hjJ1
       go_wp2_with fail
       go_roundw
       case rel => exact ⟨j + 1, by omega, HjJ.out, by go_num, by rw [HL2.out], by first | rfl | trivial⟩
       case measure => simp [intOf]; omega
      ·have hIJ : i = I ∧ j = J := by
        by_cases e : i = I
        ·exact ⟨e, by have := hjJ e; omega⟩
        ·omega
       obtain ⟨rfl, rfl⟩ := hIJ
       have hbd := Hbad.out
       obtain ⟨N, hN⟩ : ∃ N, N = T i j := ⟨_, rfl⟩
       obtain ⟨L, hL⟩ : ∃ N, N = allS k Z i j := ⟨_, rfl⟩
       rw [← HS.out] at e2
       rw [← hN] at q2 hbd
       rw [← hL] at e1 e2 hbd ⊢
       have f1 : IntKind.i64.wrap (2147483647 - L) = 2147483647 - L := IntWalk.i64_in _ (by omega)
       clear hN hL hij hjJ
       by_cases hn : N < 0
       ·have c1 : decide (N < 0) = true := by simpa using hn
        clear hbd hn
        go_wp2_with fail
        go_ret2
        exact ⟨rfl, Grow.refl _⟩
       ·have c1 : decide (N < 0) = false := by simpa using hn
        have c2 : decide (2147483647 - L < N) = true := by simp; omega
        clear hbd hn
        go_wp2_with fail
        go_ret2
        exact ⟨rfl, Grow.refl _⟩
     ·obtain rfl : k = j := by omega
      have hiI : i + 1 ≤ I := by
       rcases Nat.lt_or_ge i I with h | h
       ·exact h
       ·have := hjJ (by omega); omega
      have hdj : decide (k < k) = false := by simp
      clear hjJ
      go_wp2_with fail
      go_roundw
      case rel => exact ⟨i + 1, hiI, by go_num, by rw [← allS_next], by first | rfl | trivial⟩
      case measure => simp [intOf]; omega
end Go.Proofs.YtimjnkfcnpfoeaaGreatDoor
