/-
  Contracts and laws: Median LeastP Apart LeastA.
-/
import Derived.Test.YtimjnkfcnpfoeaaGreatDoorL45
import Derived.Test.YtimjnkfcnpfoeaaGreatDoorL47
set_option linter.unusedSimpArgs false
set_option linter.unusedVariables false
namespace Go.Proofs.YtimjnkfcnpfoeaaGreatDoor
open Go Go.RowKit
theorem slice_runQ (g cap n lo hi : Nat) (h1 : lo < hi) (h2 : hi ≤ cap) (W : World) : (Instr.slice 67 (.slice (some ⟨g, 0, none⟩) n cap) (some (.int .i64 (lo : Nat))) (some (.int .i64 (hi : Nat))) none).run Tryz.prog W = .ok (.slice (some ⟨g, lo * 5, none⟩) (hi - lo) (cap - lo)) W := by
 have h3 : (hi : Int) ≤ (cap : Int) := by omega
 have h4 : (lo : Int) ≤ (hi : Int) := by omega
 have h5 : ¬ (cap - lo = 0) := by omega
 go_simp
 intro h
 omega
theorem Lq.sub {W : World} {g off : Nat} {l : List Rat} (lo m : Nat) (h : Lq W (some ⟨g, off, none⟩) l) : Lq W (some ⟨g, off + lo * 5, none⟩) ((l.drop lo).take m) := fun hne => by
 obtain ⟨b, o, e, hb, hc⟩ := h (fun h0 => hne (by rw [h0]; simp))
 cases e
 refine ⟨g, _, rfl, hb, fun i q hi j v hj => ?_⟩
 rw [List.getElem?_take] at hi
 split at hi
 ·rw [List.getElem?_drop] at hi
  rw [show off + lo * 5 + i * 5 + j = off + (lo + i) * 5 + j by omega]
  exact hc _ _ hi j v hj
 ·cases hi
/-- the middle of a list -/
def midl (l : List Rat) : List Rat := ((rsort l).drop ((l.length - 1) / 2)).take (l.length / 2 + 1 - (l.length - 1) / 2)
def medQ (l : List Rat) : Rat := qMean (midl l) (midl l).length
theorem midl_len (l : List Rat) (h : 0 < l.length) : (midl l).length = l.length / 2 + 1 - (l.length - 1) / 2 := by
 unfold midl
 rw [List.length_take, List.length_drop, rsort_len]
 omega
theorem midl_mem {l : List Rat} {x : Rat} (h : x ∈ midl l) : x ∈ l := rsort_mem (List.mem_of_mem_drop (List.mem_of_mem_take h))
/-- the sorted list lies at x -/
def Srt (n : Nat) (l : List Rat) (x : Nat × Nat) (W : World) : Prop := n ≤ x.2 ∧ Lq W (some ⟨x.1, 0, none⟩) (rsort l)
theorem Srt.grow {n : Nat} {l : List Rat} {x : Nat × Nat} {u u' : World} (hg : Grow u u') (h : Srt n l x u) : Srt n l x u' := ⟨h.1, h.2.grow hg⟩
theorem frac_Median (A : Option Addr) (l : List Rat) (c n : Nat) (hn : n = l.length) (hn0 : 0 < n) (hm : n ≤ 1099511627776) (s : Nat) (hs : ∀ x ∈ l, qs x ≤ s) (hB : s + qs 0 + (s + qs 0) + 1 ≤ BIG) (hB2 : 2 * (s + 1) + s + 200 ≤ BIG) (w : World) (h : Lq w A l) (HT : Tab w) :
  Calls Tryz.prog 50 #[.slice A n c] w fun e w' => e = .returned (.tuple #[qV (medQ l), .bool true]) ∧ Grow w w' := by
 have hso : ∀ W, Grow w W → Calls Tryz.prog 112 #[.slice A n c] W (RetY (fun x : Nat × Nat => .slice (some ⟨x.1, 0, none⟩) n x.2) (fun x W => Srt n l x W) W) := fun W hg => frac_SortX A l c n hn hn0 hm s hs hB W (h.grow hg)
 have hml := midl_len l (by omega)
 obtain ⟨lo, hlo⟩ : ∃ lo, lo = (n - 1) / 2 := ⟨_, rfl⟩
 obtain ⟨hi, hhi⟩ : ∃ hi, hi = n / 2 + 1 := ⟨_, rfl⟩
 have h1 : lo < hi ∧ hi ≤ n := by omega
 have hme : ∀ g cap W, n ≤ cap → Lq W (some ⟨g, 0, none⟩) (rsort l) → Tab W → Calls Tryz.prog 49 #[.slice (some ⟨g, lo * 5, none⟩) (hi - lo) (cap - lo)] W fun e w' => e = .returned (.tuple #[qV (medQ l), .bool true]) ∧ Grow W w' := fun g cap W hc hL hT => by
  have e1 : (midl l).length = hi - lo := by rw [hml, hlo, hhi, hn]
  have := frac_Mean (some ⟨g, lo * 5, none⟩) (midl l) (cap - lo) (hi - lo) e1.symm (by omega) (by omega) s (fun x hx => hs x (midl_mem hx)) (by
   have : hi - lo ≤ 2 := by omega
   have := Nat.mul_le_mul_right (s + 1) this
   omega) W (by
    have := hL.sub lo (hi - lo)
    rw [Nat.zero_add] at this
    unfold midl
    rw [← hn, ← hlo, ← hhi]
    exact this) hT
  rw [← e1] at this
  rw [← e1]
  exact this
 have hsl := fun g cap (hc : n ≤ cap) W => slice_runQ g cap n lo hi h1.1 (by omega) W
 have f1 : ((n : Int) == 0) = false := by
  rw [beq_eq_false_iff_ne]
  omega
 obtain ⟨n1, hn1⟩ : ∃ n1, n1 = n - 1 := ⟨_, rfl⟩
 obtain ⟨m2, hm2⟩ : ∃ m2, m2 = n / 2 := ⟨_, rfl⟩
 have f2 : IntKind.i64.wrap ((n : Int) - 1) = (n1 : Int) := by rw [IntWalk.i64_in _ (by omega)]; omega
 have f3 : IntKind.i64.wrap ((n1 : Int) / 2) = (lo : Int) := by rw [IntWalk.i64_in _ (by omega)]; omega
 have f3' : IntKind.i64.wrap (Int.tdiv (n1 : Int) 2) = (lo : Int) := by rw [Int.tdiv_eq_ediv_of_nonneg (by omega), f3]
 have f4 : IntKind.i64.wrap ((n : Int) / 2) = (m2 : Int) := by rw [IntWalk.i64_in _ (by omega)]; omega
 have f4' : IntKind.i64.wrap (Int.tdiv (n : Int) 2) = (m2 : Int) := by rw [Int.tdiv_eq_ediv_of_nonneg (by omega), f4]
 have f5 : IntKind.i64.wrap ((m2 : Int) + 1) = (hi : Int) := by rw [IntWalk.i64_in _ (by omega)]; omega
 generalize medQ l = Y at hme ⊢
 have Hso := Lib.hid hso
 have Hme := Lib.hid hme
 have Hsl := Lib.hid hsl
 have F2 := Lib.hid f2
 have F3 := Lib.hid (And.intro f3 f3')
 have F4 := Lib.hid (And.intro f4 f4')
 have F5 := Lib.hid f5
 clear hso hme hsl hml hlo hhi h hs f2 f3 f4 f5 f3' f4' hn hn1 hm2
 go_enter Tryz.func50, Tryz.ntmps50
 refine en1 ?_
 intro u hG b2 hB hF
 refine wp_seq ?_
 refine r0T ?_
 refine wp_cond_false (rfl) ?_
 refine wp_skip ?_
 refine then_norm ?_
 refine wp_seq (rsE allocs [0, 1, 0] hB hG fun L hL => ?_)
 refine gs ?_
 refine gxd (X := (Nat × Nat)) (fun x : Nat × Nat => .slice (some ⟨x.1, 0, none⟩) n x.2) (fun x W => Srt n l x W) (fun x u u' hg h => Srt.grow hg h) (fun x11 => ?_) (C := by (rintro v ⟨hgu, hB, hG, -⟩; exact Hso.out _ hG))
 refine gs ?_
 refine geT hL ?_
 clear hB hG hL L
 rintro u ⟨⟨-, hB, hG, -⟩, hx11⟩
 refine wp_seq ?_
 have f4 := F4.out.1
 have f4' := F4.out.2
 refine r0N ?_
 refine wp_seq ?_
 have f2 := F2.out
 have f3 := F3.out.1
 have f3' := F3.out.2
 have f5 := F5.out
 refine rsC allocs [0, 0, 0, 0, 0, 0, 0, 0, 1, 0, 0] hB hG fun K L hN hL => ?_
 refine gs ?_
 refine gyb (by (rintro v - N hN; have q := Hsl.out x11.1 x11.2 hx11.1; go_simp; exact hN)) ?_
 refine gmd (C := fun v ⟨hgu, hB, hG, _⟩ => Hme.out x11.1 x11.2 _ hx11.1 (Lq.grow hx11.2 hgu) (HT.grow hG)) ?_
 refine gs ?_
 refine geC hL ?_
 clear hB hG hL L
 rintro u ⟨-, hB, hG, -⟩
 refine gtT ?_
 clear hN K
 refine st hB hF hG 0 0 [_, _, _, _, _] ?_
 clear hB hG
 intro u hB hG
 refine rt Tryz.results50 ?_
 exact ⟨rfl, hG⟩
end Go.Proofs.YtimjnkfcnpfoeaaGreatDoor
namespace Go.Proofs.YtimjnkfcnpfoeaaGreatDoor
open Go Go.RowKit
/-- a number n times -/
def repQ (n : Nat) (y : Rat) : List Rat := List.replicate n y
theorem gq_rep {n i : Nat} (y : Rat) (h : i < n) : gq (repQ n y) i = y := by
 unfold gq repQ
 rw [List.getElem?_replicate, if_pos h]
 rfl
theorem qsum_cong {f g : Nat → Rat} : ∀ n, (∀ i, i < n → f i = g i) → qsum f n = qsum g n
 | 0, _ => rfl
 | n + 1, h => by
  show qadd (qsum f n) (f n) = qadd (qsum g n) (g n)
  rw [qsum_cong n fun i hi => h i (by omega), h n (by omega)]
theorem qint_succ (n : Nat) : qint ((n + 1 : Nat) : Int) = qint (n : Int) + 1 := by
 unfold qint
 rw [Int.natCast_succ, Rat.intCast_add]
 rfl
theorem sum_sq (f : Nat → Rat) (o : Rat) : ∀ n, qsum (fun i => sqd (f i) o) n = qsum (fun i => qmul (f i) (f i)) n - 2 * o * qsum f n + qint (n : Int) * o * o
 | 0 => by
  show (0 : Rat) = 0 - 2 * o * 0 + ((0 : Int) : Rat) * o * o
  grind
 | n + 1 => by
  show qadd (qsum (fun i => sqd (f i) o) n) (sqd (f n) o) = qadd _ _ - 2 * o * qadd _ _ + _
  rw [sum_sq f o n, qint_succ]
  unfold qadd sqd qmul qsub
  grind
theorem qint_ne {n : Nat} (h : 0 < n) : qint (n : Int) ≠ 0 := fun h0 => by
 unfold qint at h0
 have : (n : Int) = 0 := Rat.intCast_inj.1 (h0.trans rfl)
 omega
theorem qint_pos {n : Nat} (h : 0 < n) : 0 < qint (n : Int) := by
 unfold qint
 have : ((0 : Int) : Rat) < ((n : Int) : Rat) := Rat.intCast_lt_intCast.2 (by omega)
 exact this
theorem squares_rep (P : List Rat) (n : Nat) (o : Rat) : qSquares P (repQ n o) n = qOff P o n := by
 unfold qSquares qOff
 rw [qsum_cong n fun i hi => by rw [gq_rep o hi]]
/-- the mean has the least squares -/
theorem squares_mean (P : List Rat) (n : Nat) (hn : 0 < n) (o : Rat) : qSquares P (repQ n o) n - qSquares P (repQ n (qMean P n)) n = (qMean P n - o) * (qMean P n - o) := by
 rw [squares_rep, squares_rep]
 have h0 := qint_ne hn
 have hm : qMean P n * qint (n : Int) = qsum (gq P) n := by
  unfold qMean qdiv
  rw [Rat.div_mul_cancel h0]
 generalize hM : qMean P n = m at hm
 unfold qOff qdiv
 rw [sum_sq (gq P) o n, sum_sq (gq P) m n, ← hm]
 generalize qint (n : Int) = N at h0
 generalize qsum _ n = S2
 have e : (S2 - 2 * o * (m * N) + N * o * o) / N - (S2 - 2 * m * (m * N) + N * m * m) / N = (N * ((m - o) * (m - o))) / N := by
  rw [Rat.div_def, Rat.div_def, Rat.div_def]
  generalize N⁻¹ = I
  grind
 rw [e, Rat.mul_comm N, Rat.mul_div_cancel h0]
theorem told_mean (P : List Rat) (n : Nat) (h : qOff P (qMean P n) n ≠ 0) : toldQ P (repQ n (qMean P n)) n = 0 := by
 unfold toldQ
 rw [squares_rep]
 unfold qdiv qsub qint
 rw [Rat.div_def, Rat.mul_inv_cancel _ h]
 show (1 : Rat) - 1 = 0
 grind
theorem tilt_half (d : Rat) : tiltD (1/2) d + tiltD (1/2) d = qabs d := by
 unfold tiltD qabs qmul qsub qint
 have h1 : (0 ≤ d.num.sign) ↔ 0 ≤ d := by rw [Int.sign_nonneg_iff, Rat.num_nonneg]
 by_cases h : 0 ≤ d
 ·rw [if_pos (h1.2 h), Rat.abs_of_nonneg h]
  grind
 ·rw [if_neg (fun hh => h (h1.1 hh)), Rat.abs_of_nonpos (by grind)]
  show (1/2 - (1 : Rat)) * d + (1/2 - 1) * d = -d
  grind
theorem qsum_two {f g : Nat → Rat} (h : ∀ i, f i + f i = g i) : ∀ n, qsum f n + qsum f n = qsum g n
 | 0 => by show (0 : Rat) + 0 = 0; grind
 | n + 1 => by
  show qadd _ _ + qadd _ _ = qadd _ _
  unfold qadd
  rw [← h n, ← qsum_two h n]
  grind
theorem tilt_sizes (P Q : List Rat) (n : Nat) : qTilt P Q (1/2) n + qTilt P Q (1/2) n = qSizes P Q n := by
 unfold qTilt qSizes qdiv
 rw [← qsum_two (f := fun i => tiltAt (1/2) (gq P i) (gq Q i)) (g := fun i => absd (gq P i) (gq Q i)) (fun i => tilt_half _) n]
 rw [Rat.div_def, Rat.div_def]
 grind
/-- a sum over a list -/
def lsum (f : Rat → Rat) : List Rat → Rat
 | [] => 0
 | x :: l => f x + lsum f l
theorem qsum_shift (f : Nat → Rat) : ∀ n, qsum f (n + 1) = f 0 + qsum (fun i => f (i + 1)) n
 | 0 => by show qadd 0 (f 0) = f 0 + 0; unfold qadd; grind
 | n + 1 => by
  show qadd (qsum f (n + 1)) (f (n + 1)) = f 0 + qadd (qsum (fun i => f (i + 1)) n) (f (n + 1))
  rw [qsum_shift f n]
  unfold qadd
  grind
theorem qsum_lsum (f : Rat → Rat) : ∀ l : List Rat, qsum (fun i => f (gq l i)) l.length = lsum f l
 | [] => rfl
 | x :: l => by
  rw [List.length_cons, qsum_shift]
  show f x + qsum (fun i => f (gq l i)) l.length = f x + lsum f l
  rw [qsum_lsum f l]
/-- from one number to a greater one: who lies at or below the first gives all that it grows by, who lies above takes at most that -/
theorem lsum_up {a o : Rat} (h : a ≤ o) : ∀ l : List Rat, (qint (l.countP fun x => decide (x ≤ a)) - (qint (l.length : Nat) - qint (l.countP fun x => decide (x ≤ a)))) * (o - a) ≤ lsum (absd · o) l - lsum (absd · a) l
 | [] => by
  show (((0 : Int) : Rat) - (((0 : Int) : Rat) - ((0 : Int) : Rat))) * (o - a) ≤ 0 - 0
  grind
 | x :: l => by
  have ih := lsum_up h l
  rw [List.countP_cons, List.length_cons, qint_succ]
  show _ ≤ (absd x o + lsum _ l) - (absd x a + lsum _ l)
  by_cases hx : x ≤ a
  ·rw [if_pos (decide_eq_true hx), qint_succ]
   have : absd x o - absd x a = o - a := by
    unfold absd qabs qsub
    rw [Rat.abs_of_nonpos (by grind), Rat.abs_of_nonpos (by grind)]
    grind
   grind
  ·rw [if_neg (by simpa using hx), Nat.add_zero]
   have : -(o - a) ≤ absd x o - absd x a := by
    unfold absd qabs qsub
    rw [Rat.abs_of_nonneg (x := x - a) (by grind)]
    by_cases hxo : x ≤ o
    ·rw [Rat.abs_of_nonpos (by grind)]
     grind
    ·rw [Rat.abs_of_nonneg (by grind)]
     grind
   grind
theorem lsum_down {a o : Rat} (h : o ≤ a) : ∀ l : List Rat, (qint (l.countP fun x => decide (a ≤ x)) - (qint (l.length : Nat) - qint (l.countP fun x => decide (a ≤ x)))) * (a - o) ≤ lsum (absd · o) l - lsum (absd · a) l
 | [] => by
  show (((0 : Int) : Rat) - (((0 : Int) : Rat) - ((0 : Int) : Rat))) * (a - o) ≤ 0 - 0
  grind
 | x :: l => by
  have ih := lsum_down h l
  rw [List.countP_cons, List.length_cons, qint_succ]
  show _ ≤ (absd x o + lsum _ l) - (absd x a + lsum _ l)
  by_cases hx : a ≤ x
  ·rw [if_pos (decide_eq_true hx), qint_succ]
   have : absd x o - absd x a = a - o := by
    unfold absd qabs qsub
    rw [Rat.abs_of_nonneg (by grind), Rat.abs_of_nonneg (by grind)]
    grind
   grind
  ·rw [if_neg (by simpa using hx), Nat.add_zero]
   have : -(a - o) ≤ absd x o - absd x a := by
    unfold absd qabs qsub
    rw [Rat.abs_of_nonpos (x := x - a) (by grind)]
    by_cases hxo : x ≤ o
    ·rw [Rat.abs_of_nonpos (by grind)]
     grind
    ·rw [Rat.abs_of_nonneg (by grind)]
     grind
   grind
theorem qint_le {a b : Nat} (h : a ≤ b) : qint (a : Int) ≤ qint (b : Int) := by
 unfold qint
 exact Rat.intCast_le_intCast.2 (by omega)
theorem qint_two (a : Nat) : qint ((2 * a : Nat) : Int) = qint (a : Int) + qint (a : Int) := by
 rw [show ((2 * a : Nat) : Int) = (a : Int) + (a : Int) by omega]
 unfold qint
 rw [Rat.intCast_add]
theorem lsum_least {a : Rat} {l : List Rat} (h1 : l.length ≤ 2 * l.countP fun x => decide (x ≤ a)) (h2 : l.length ≤ 2 * l.countP fun x => decide (a ≤ x)) (o : Rat) : lsum (absd · a) l ≤ lsum (absd · o) l := by
 by_cases h : a ≤ o
 ·have e := lsum_up h l
  have q := qint_le h1
  rw [qint_two] at q
  have : 0 ≤ (qint (l.countP fun x => decide (x ≤ a)) - (qint (l.length : Nat) - qint (l.countP fun x => decide (x ≤ a)))) * (o - a) := Rat.mul_nonneg (by grind) (by grind)
  grind
 ·have e := lsum_down (a := a) (o := o) (by grind) l
  have q := qint_le h2
  rw [qint_two] at q
  have : 0 ≤ (qint (l.countP fun x => decide (a ≤ x)) - (qint (l.length : Nat) - qint (l.countP fun x => decide (a ≤ x)))) * (a - o) := Rat.mul_nonneg (by grind) (by grind)
  grind
theorem gq_get {l : List Rat} {i : Nat} (h : i < l.length) : gq l i = l[i] := by
 unfold gq
 rw [List.getElem?_eq_getElem h]
 rfl
theorem sorted_le {l : List Rat} (h : l.Pairwise (· ≤ ·)) {i j : Nat} (hij : i ≤ j) (hj : j < l.length) : gq l i ≤ gq l j := by
 rcases Nat.eq_or_lt_of_le hij with rfl | hlt
 ·exact Rat.le_refl
 ·rw [gq_get (by omega), gq_get hj]
  exact List.pairwise_iff_getElem.1 h i j _ hj hlt
theorem count_low {l : List Rat} (h : l.Pairwise (· ≤ ·)) {k : Nat} (hk : k < l.length) {a : Rat} (ha : gq l k ≤ a) : k + 1 ≤ l.countP fun x => decide (x ≤ a) := by
 have e : l.countP (fun x => decide (x ≤ a)) = (l.take (k + 1)).countP (fun x => decide (x ≤ a)) + (l.drop (k + 1)).countP (fun x => decide (x ≤ a)) := by
  rw [← List.countP_append, List.take_append_drop]
 have e2 : (l.take (k + 1)).countP (fun x => decide (x ≤ a)) = (l.take (k + 1)).length := by
  rw [List.countP_eq_length]
  intro x hx
  obtain ⟨i, hi, rfl⟩ := List.mem_iff_getElem.1 hx
  rw [List.length_take] at hi
  rw [List.getElem_take]
  have := sorted_le h (i := i) (j := k) (by omega) hk
  rw [gq_get (by omega)] at this
  exact decide_eq_true (Rat.le_trans this ha)
 rw [e, e2, List.length_take]
 omega
theorem count_high {l : List Rat} (h : l.Pairwise (· ≤ ·)) {k : Nat} (hk : k < l.length) {a : Rat} (ha : a ≤ gq l k) : l.length - k ≤ l.countP fun x => decide (a ≤ x) := by
 have e : l.countP (fun x => decide (a ≤ x)) = (l.take k).countP (fun x => decide (a ≤ x)) + (l.drop k).countP (fun x => decide (a ≤ x)) := by
  rw [← List.countP_append, List.take_append_drop]
 have e2 : (l.drop k).countP (fun x => decide (a ≤ x)) = (l.drop k).length := by
  rw [List.countP_eq_length]
  intro x hx
  obtain ⟨i, hi, rfl⟩ := List.mem_iff_getElem.1 hx
  rw [List.length_drop] at hi
  rw [List.getElem_drop]
  have := sorted_le h (i := k) (j := k + i) (by omega) (by omega)
  rw [gq_get (i := k + i) (by omega)] at this
  exact decide_eq_true (Rat.le_trans ha this)
 rw [e, e2, List.length_drop]
 omega
theorem med_between (l : List Rat) (h : 0 < l.length) : gq (rsort l) ((l.length - 1) / 2) ≤ medQ l ∧ medQ l ≤ gq (rsort l) (l.length / 2) := by
 have hr := rsort_len l
 have hs := rsort_sorted l
 have hlo : (l.length - 1) / 2 < (rsort l).length := by omega
 have hd : (rsort l).drop ((l.length - 1) / 2) = (rsort l)[(l.length - 1) / 2] :: (rsort l).drop ((l.length - 1) / 2 + 1) := List.drop_eq_getElem_cons hlo
 unfold medQ midl
 rw [hd]
 by_cases hp : l.length % 2 = 1
 ·rw [show l.length / 2 + 1 - (l.length - 1) / 2 = 1 by omega, show l.length / 2 = (l.length - 1) / 2 by omega, gq_get hlo]
  simp only [List.take_succ_cons, List.take_zero, List.length_cons, List.length_nil]
  have : qMean [(rsort l)[(l.length - 1) / 2]] (0 + 1) = (rsort l)[(l.length - 1) / 2] := by
   generalize (rsort l)[(l.length - 1) / 2] = x
   show (0 + x) / ((1 : Int) : Rat) = x
   rw [show ((1 : Int) : Rat) = 1 from rfl]
   grind
  rw [this]
  exact ⟨Rat.le_refl, Rat.le_refl⟩
 ·have hhi : (l.length - 1) / 2 + 1 < (rsort l).length := by omega
  have hd2 : (rsort l).drop ((l.length - 1) / 2 + 1) = (rsort l)[(l.length - 1) / 2 + 1] :: (rsort l).drop ((l.length - 1) / 2 + 1 + 1) := List.drop_eq_getElem_cons hhi
  rw [hd2, show l.length / 2 + 1 - (l.length - 1) / 2 = 2 by omega, show l.length / 2 = (l.length - 1) / 2 + 1 by omega]
  have hle := sorted_le hs (Nat.le_succ ((l.length - 1) / 2)) hhi
  rw [gq_get hlo, gq_get hhi] at hle ⊢
  simp only [List.take_succ_cons, List.take_zero, List.length_cons, List.length_nil]
  have : qMean [(rsort l)[(l.length - 1) / 2], (rsort l)[(l.length - 1) / 2 + 1]] (0 + 1 + 1) = ((rsort l)[(l.length - 1) / 2] + (rsort l)[(l.length - 1) / 2 + 1]) / 2 := by
   generalize (rsort l)[(l.length - 1) / 2] = x
   generalize (rsort l)[(l.length - 1) / 2 + 1] = y
   show (0 + x + y) / ((2 : Int) : Rat) = _
   rw [show ((2 : Int) : Rat) = 2 from rfl]
   grind
  rw [this]
  constructor <;> grind
theorem sizes_rep (P : List Rat) (o : Rat) : qSizes P (repQ P.length o) P.length = qdiv (lsum (absd · o) P) (qint P.length) := by
 unfold qSizes
 rw [qsum_cong P.length fun i hi => by rw [gq_rep o hi], qsum_lsum (absd · o) P]
/-- one in the middle has the least sizes -/
theorem sizes_med (P : List Rat) (h : 0 < P.length) (o : Rat) : qSizes P (repQ P.length (medQ P)) P.length ≤ qSizes P (repQ P.length o) P.length := by
 have hp := rsort_perm P
 have hs := rsort_sorted P
 have hr := rsort_len P
 obtain ⟨b1, b2⟩ := med_between P h
 have c1 := count_low hs (k := (P.length - 1) / 2) (by omega) b1
 have c2 := count_high hs (k := P.length / 2) (by omega) b2
 rw [hp.countP_eq] at c1 c2
 have := lsum_least (a := medQ P) (l := P) (by omega) (by omega) o
 rw [sizes_rep, sizes_rep]
 unfold qdiv
 rw [Rat.div_def, Rat.div_def]
 exact Rat.mul_le_mul_of_nonneg_right this (Rat.le_of_lt (Rat.inv_pos.2 (qint_pos h)))
end Go.Proofs.YtimjnkfcnpfoeaaGreatDoor
namespace Go.Proofs.YtimjnkfcnpfoeaaGreatDoor
open Go Go.RowKit
/-- two rows lie in two blocks -/
def Apart (v v2 : Value) : Prop := ∀ g, v.ownBlock = some g → v2.ownBlock = some g → False
theorem Apart.symm {v v2 : Value} (h : Apart v v2) : Apart v2 v := fun g h1 h2 => h g h2 h1
theorem own_kept {u u' : World} {B : Nat} {e2 : TypeId} {s2 : Nat} {v v2 v' : Value} {n2 : Nat} {xs2 : List Value} (h2 : u.ownsRow B e2 s2 v2 n2 xs2) (ha : Apart v v2) (hg : u.grownBy u' v.ownBlock)
  (h5 : v'.ownBlock = v.ownBlock ∨ v'.ownBlock = some u.heap.size) : u'.ownsRow B e2 s2 v2 n2 xs2 ∧ Apart v' v2 := by
 refine ⟨h2.kept hg ?_, fun g h1 h3 => ?_⟩
 ·cases hb : v2.ownBlock with
  | none => exact .inl rfl
  | some g => exact .inr fun e => ha g e.symm hb
 ·rcases h5 with h5 | h5
  ·exact ha g (h5 ▸ h1) h3
  ·rw [h5] at h1
   injection h1 with h1
   have := (h2.lt g h3).2
   omega
theorem app_two {w u w' : World} {o : Obj} {e2 : TypeId} {s2 n2 : Nat} {v v' v2 : Value} {xs2 : List Value} (h2 : u.ownsRow w.heap.size e2 s2 v2 n2 xs2) (ha : Apart v v2)
  (hg : (u.alloc o).grownBy w' v.ownBlock) (h3 : v'.ownBlock = v.ownBlock ∨ v'.ownBlock = some (u.heap.size + 1)) : w'.ownsRow w.heap.size e2 s2 v2 n2 xs2 ∧ Apart v' v2 :=
 own_kept (h2.alloc o) ha hg (by rw [alloc_size]; exact h3)
end Go.Proofs.YtimjnkfcnpfoeaaGreatDoor
namespace Go.Proofs.YtimjnkfcnpfoeaaGreatDoor
open Go Go.RowKit
theorem flat_rep (n : Nat) (y : Rat) : (repQ n y).flatMap qL ++ qL y = (repQ (n + 1) y).flatMap qL := by
 unfold repQ
 rw [List.replicate_succ', List.flatMap_append]
 simp
end Go.Proofs.YtimjnkfcnpfoeaaGreatDoor
