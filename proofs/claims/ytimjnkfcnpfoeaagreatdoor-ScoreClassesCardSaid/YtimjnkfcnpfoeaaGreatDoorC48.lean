/-
  Contracts and laws: ClassE.
-/
import Derived.Test.YtimjnkfcnpfoeaaGreatDoorC47
set_option linter.unusedSimpArgs false
set_option linter.unusedVariables false
namespace Go.Proofs.YtimjnkfcnpfoeaaGreatDoor
open Go.RowKit
abbrev Zr3 := (Az × Az × Az) × R3
def zr3L (r : Zr3) : List Value := zL r.1.1 r.2.1 ++ zL r.1.2.1 r.2.2.1 ++ zL r.1.2.2 r.2.2.2
def AllZ3 (u : World) (ps : List Zr3) : Prop := ∀ r ∈ ps, Rz u r.1.1 r.2.1 ∧ Rz u r.1.2.1 r.2.2.1 ∧ Rz u r.1.2.2 r.2.2.2
theorem AllZ3.nil (u : World) : AllZ3 u [] := fun _ h => by cases h
theorem AllZ3.grow {u u' : World} {ps : List Zr3} (h : AllZ3 u ps) (hg : Grow u u') : AllZ3 u' ps := fun r hr => ⟨(h r hr).1.grow hg, (h r hr).2.1.grow hg, (h r hr).2.2.grow hg⟩
theorem AllZ3.own {u w' : World} {B : Nat} {e : TypeId} {size n : Nat} {v : Value} {xs : List Value} {o : Obj} {ps : List Zr3} (hl : AllZ3 u ps) (h : u.ownsRow B e size v n xs) (ht : e ≠ 157) (hg : (u.alloc o).grownBy w' v.ownBlock) : AllZ3 w' ps := fun r hr => ⟨(hl r hr).1.own h ht hg, (hl r hr).2.1.own h ht hg, (hl r hr).2.2.own h ht hg⟩
theorem AllZ3.snoc {u : World} {ps : List Zr3} (h : AllZ3 u ps) {p1 p2 p3 : Az} {q1 q2 q3 : Rat} (h1 : Rz u p1 q1) (h2 : Rz u p2 q2) (h3 : Rz u p3 q3) : AllZ3 u (ps ++ [((p1, p2, p3), (q1, q2, q3))]) := fun r hr => by
 rcases List.mem_append.1 hr with hr | hr
 ·exact h r hr
 ·have : r = ((p1, p2, p3), (q1, q2, q3)) := by simpa using hr
  subst this
  exact ⟨h1, h2, h3⟩
theorem zr3L_len (r : Zr3) : (zr3L r).length = 9 := rfl
theorem flat3_len (l : List Zr3) : (l.flatMap zr3L).length = 9 * l.length := by
 induction l with
 | nil => rfl
 | cons x l ih => rw [List.flatMap_cons, List.length_append, ih, zr3L_len, List.length_cons]; omega
theorem flat3_get (l : List Zr3) {i : Nat} {r : Zr3} (hi : l[i]? = some r) {j : Nat} (hj : j < 9) : (l.flatMap zr3L)[i * 9 + j]? = (zr3L r)[j]? := by
 induction l generalizing i with
 | nil => simp at hi
 | cons x l ih =>
  rw [List.flatMap_cons]
  cases i with
  | zero =>
   simp at hi
   subst hi
   rw [List.getElem?_append_left (by rw [zr3L_len]; omega), Nat.zero_mul, Nat.zero_add]
  | succ i =>
   rw [List.getElem?_append_right (by rw [zr3L_len]; omega), zr3L_len, show (i + 1) * 9 + j - 9 = i * 9 + j by omega]
   exact ih (by simpa using hi)
/-- rates of the document's that lie from the address on -/
def Lz3 (u : World) (A : Option Addr) (l : List R3) : Prop :=
 l ≠ [] → ∃ b off, A = some ⟨b, off, none⟩ ∧ b < u.heap.size ∧ ∀ i r, l[i]? = some r → ∃ p1 p2 p3 : Az, (Rz u p1 r.1 ∧ Rz u p2 r.2.1 ∧ Rz u p3 r.2.2) ∧ Cz u b (off + i * 9) p1 r.1 ∧ Cz u b (off + i * 9 + 3) p2 r.2.1 ∧ Cz u b (off + i * 9 + 6) p3 r.2.2
theorem Lz3.nil (u : World) (A : Option Addr) : Lz3 u A [] := fun h => absurd rfl h
theorem Lz3.grow {u u' : World} {A : Option Addr} {l : List R3} (h : Lz3 u A l) (hg : Grow u u') : Lz3 u' A l := fun hn => by
 obtain ⟨b, off, e, hb, hc⟩ := h hn
 refine ⟨b, off, e, Nat.lt_of_lt_of_le hb hg.size, fun i r hi => ?_⟩
 obtain ⟨p1, p2, p3, ⟨a1, a2, a3⟩, c1, c2, c3⟩ := hc i r hi
 exact ⟨p1, p2, p3, ⟨a1.grow hg, a2.grow hg, a3.grow hg⟩, c1.grow hb hg, c2.grow hb hg, c3.grow hb hg⟩
theorem own_lz3 {u : World} {B n : Nat} {v : Value} {ps : List Zr3} (h : u.ownsRow B 115 9 v n (ps.flatMap zr3L)) (ha : AllZ3 u ps) : ∃ A c, v = .slice A n c ∧ Lz3 u A (ps.map (·.2)) ∧ n = ps.length := by
 have hn : n = ps.length := by have := h.1; rw [flat3_len] at this; omega
 obtain ⟨_, h | ⟨g, cap, cur, rfl, hb, hh, hn', hc, hs, ht⟩⟩ := h
 ·obtain ⟨rfl, h0⟩ := h
  exact ⟨none, 0, by rw [h0], fun hne => absurd (by rw [List.eq_nil_of_length_eq_zero (l := ps) (by omega)]; rfl) hne, hn⟩
 ·refine ⟨_, cap, rfl, fun _ => ⟨g, 0, rfl, heap_lt hh, fun i q hi => ?_⟩, hn⟩
  rw [List.getElem?_map, Option.map_eq_some_iff] at hi
  obtain ⟨r, hr, rfl⟩ := hi
  have hil : i < ps.length := (List.getElem?_eq_some_iff.1 hr).1
  have key : ∀ j v, j < 9 → (zr3L r)[j]? = some v → u.cell? ⟨g, 0 + i * 9 + j, none⟩ = some v := fun j v hj hv => by
   rw [cell_of_row u g _ cur 115 (0, 0) hh, Nat.zero_add]
   have h1 : (cur.toList.take (n * 9))[i * 9 + j]? = some v := by rw [ht, flat3_get ps hr hj, hv]
   rw [List.getElem?_take, if_pos (by omega)] at h1
   simpa using h1
  exact ⟨r.1.1, r.1.2.1, r.1.2.2, ha r (List.mem_of_getElem? hr), ⟨key 0 _ (by omega) rfl, key 1 _ (by omega) rfl, key 2 _ (by omega) rfl⟩, ⟨key 3 _ (by omega) rfl, key 4 _ (by omega) rfl, key 5 _ (by omega) rfl⟩, ⟨key 6 _ (by omega) rfl, key 7 _ (by omega) rfl, key 8 _ (by omega) rfl⟩⟩
theorem ei_RR : EI 111 115 9 168 := ei_of (by kernel_rfl) (by kernel_rfl) (by omega)
abbrev rrV (x y z : Az) (p q r : Rat) : Value := .agg #[.bool (intNeg p.num), .slice x.1.1 (ln p.num.natAbs) x.1.2, .slice x.2.1 (ln p.den) x.2.2, .bool (intNeg q.num), .slice y.1.1 (ln q.num.natAbs) y.1.2, .slice y.2.1 (ln q.den) y.2.2, .bool (intNeg r.num), .slice z.1.1 (ln r.num.natAbs) z.1.2, .slice z.2.1 (ln r.den) z.2.2]
theorem bs_RR (x y z : Az) (p q r : Rat) (w : World) : (Instr.buildSlice 111 1 #[(0, rrV x y z p q r)]).run Tryz.prog w = .ok (.slice (some ⟨w.heap.size, 0, none⟩) 1 1) (w.alloc (.cells (zr3L ((x, y, z), (p, q, r))).toArray 115)) := by
 simp only [zr3L, zL, List.cons_append, List.nil_append]
 go_simp
/-- all rates up to a class -/
def ratesL (k : Nat) (T : Nat → Nat → Int) (n : Nat) : List R3 := (List.range n).map (rateAt k T)
theorem ratesL_succ (k : Nat) (T : Nat → Nat → Int) (n : Nat) : ratesL k T (n + 1) = ratesL k T n ++ [rateAt k T n] := by unfold ratesL; rw [List.range_succ, List.map_append]; rfl
theorem ratesL_len (k : Nat) (T : Nat → Nat → Int) (n : Nat) : (ratesL k T n).length = n := by unfold ratesL; simp
theorem ratesL_all (k : Nat) (T : Nat → Nat → Int) : rateTo k T k = ratesL k T k := by
 unfold rateTo ratesL
 refine List.map_congr_left fun i hi => ?_
 rw [if_pos (List.mem_range.1 hi)]
theorem qover_nonneg {n d : Int} (hn : 0 ≤ n) (hd : 0 ≤ d) : 0 ≤ qover n d := by
 unfold qover
 exact Rat.divInt_nonneg hn hd
theorem both_eq {P R S : Rat} (hS : S = qadd P R) : qdiv (qadd (qmul P R) (qmul P R)) S = qdiv (qmul (qint 2) (qmul P R)) S := by
 unfold qdiv qadd qmul qint
 congr 1
 rw [show ((2 : Int) : Rat) = 1 + 1 by rw [show (2 : Int) = 1 + 1 from rfl, Rat.intCast_add]; rfl, Rat.add_mul, Rat.one_mul]
theorem sum_pos {P R : Rat} (hP : 0 ≤ P) (hR : 0 ≤ R) (h : ¬ 0 < (qadd P R).num.sign) : qadd P R = 0 := by
 have h1 : 0 ≤ qadd P R := by unfold qadd; exact Rat.add_nonneg hP hR
 have h2 := Rat.num_nonneg.2 h1
 have h3 : (qadd P R).num = 0 := by
  rcases Int.lt_or_eq_of_le h2 with h4 | h4
  ·exact absurd (by rw [Int.sign_eq_one_of_pos h4]; omega) h
  ·exact h4.symm
 exact Rat.num_eq_zero.1 h3
set_option maxHeartbeats 8000000 in
set_option maxRecDepth 100000 in
theorem ref6_Rates_ok (bt ot k c : Nat) (rb ro rc : Nat → Nat) (T : Nat → Nat → Int) (s : Nat) (hk : 0 < k) (hk2 : k ≤ 1048576) (hT : ∀ a, a < k → ∀ t, t < k → 0 ≤ T a t) (hsum : sumTo (fun a => sumTo (T a) k) k ≤ 2147483647) (hss : sumTo (fun a => sumTo (T a) k) k < 2 ^ s) (hs1 : 1 ≤ s) (hsB : 6 * s + 200 ≤ BIG)
  (w : World) (ht : Tb w bt ot k rb ro rc T) :
  Calls Tryz.prog 64 #[.slice (some ⟨bt, ot, none⟩) k c] w (RetY (fun x : Ax => .tuple #[.slice x.1 k x.2, .int .i64 0]) (fun x W => Lz3 W x.1 (ratesL k T k)) w) := by
 have Ht := Lib.hid ht
 have HT0 := Lib.hid hT
 have hk0 : ((k : Int) == 0) = false := by simp; omega
 obtain ⟨S, hS⟩ : ∃ S, S = sumTo (fun a => sumTo (T a) k) k := ⟨_, rfl⟩
 rw [← hS] at hsum hss
 have HS := Lib.hid hS
 clear ht hT hS
 go_enter Tryz.func64, Tryz.ntmps64
 refine en0 ?_
 intro u hG hB hF
 refine wp_seq ?_
 refine r0T ?_
 refine wp_block ?_
 go_loopw [4] (fun z wr => ∃ i : Nat, i ≤ k ∧ z = .int .i64 i ∧ Grow w wr) (fun z _ => k - (intOf z).toNat)
 case atStart => exact ⟨0, Nat.zero_le _, rfl, hG⟩
 case round =>
  clear hB hG
  obtain ⟨i, hi, rfl, hG⟩ := hrel
  obtain ⟨u, rfl⟩ : ∃ x, x = wr := ⟨_, rfl⟩
  have hB := Bx.nil u
  rcases Nat.lt_or_ge i k with hlt | hge
  ·have q1 := ((Ht.out.grow hG).2 i hlt).1
   have hne : ((k : Int) != (k : Int)) = false := by simp
   have hdk : decide (i < k) = true := by simpa using hlt
   refine wp_seq ?_
   refine r0T ?_
   refine wp_cond_true (rfl) ?_
   refine wp_skip ?_
   refine then_norm ?_
   refine wp_seq ?_
   refine wp_block ?_
   refine r0T ?_
   refine wp_cond_false (rfl) ?_
   refine wp_skip ?_
   refine blk_norm ?_
   refine then_norm ?_
   refine r0E ?_
   refine then_norm ?_
   go_roundw
   case rel => exact ⟨i + 1, by omega, by go_num, hG⟩
   case measure => simp [intOf]; omega
  ·obtain rfl : k = i := by omega
   have hdk : decide (k < k) = false := by simp
   refine wp_seq ?_
   refine r0T ?_
   refine wp_cond_false (rfl) ?_
   refine wp_exit ?_
   refine then_exit ?_
   refine then_exit ?_
   refine blk_exit ?_
   refine then_norm ?_
   refine wp_seq ?_
   refine r0T ?_
   refine wp_cond_false (rfl) ?_
   refine wp_skip ?_
   refine then_norm ?_
   refine r0T ?_
   refine wp_seq ?_
   refine r0T ?_
   refine wp_block ?_
   go_loopw [5, 6] (fun z t wr => ∃ i : Nat, i ≤ k ∧ t = .int .i64 i ∧ z = .int .i64 (allS k T i 0) ∧ Grow w wr) (fun _ t _ => k - (intOf t).toNat)
   case atStart => exact ⟨0, Nat.zero_le _, rfl, rfl, hG⟩
   case round =>
    clear hB hG
    obtain ⟨i, hi, rfl, rfl, hG⟩ := hrel
    obtain ⟨u, rfl⟩ : ∃ x, x = wr := ⟨_, rfl⟩
    have hB := Bx.nil u
    rcases Nat.lt_or_ge i k with hlt | hge
    ·have hdi : decide (i < k) = true := by simpa using hlt
     refine wp_seq ?_
     refine r0T ?_
     refine wp_cond_true (rfl) ?_
     refine wp_skip ?_
     refine then_norm ?_
     refine wp_seq ?_
     refine wp_block ?_
     refine r0T ?_
     refine wp_block ?_
     go_loopw [5, 7] (fun z t wr => ∃ j : Nat, j ≤ k ∧ t = .int .i64 j ∧ z = .int .i64 (allS k T i j) ∧ Grow w wr) (fun _ t _ => k - (intOf t).toNat)
     case atStart => exact ⟨0, Nat.zero_le _, rfl, rfl, hG⟩
     case round =>
      clear hB hG
      obtain ⟨j, hj, rfl, rfl, hG⟩ := hrel
      obtain ⟨u, rfl⟩ : ∃ x, x = wr := ⟨_, rfl⟩
      have hB := Bx.nil u
      rcases Nat.lt_or_ge j k with hjk | hjk
      ·have q1 := ((Ht.out.grow hG).2 i hlt).1
       have q2 := ((Ht.out.grow hG).2 i hlt).2.2 j hjk
       have hdj : decide (j < k) = true := by simpa using hjk
       obtain ⟨e1, e2, e3⟩ := allS_le (k := k) (T := T) HT0.out hlt hjk
       obtain ⟨N, hN⟩ : ∃ N, N = T i j := ⟨_, rfl⟩
       obtain ⟨L, hL⟩ : ∃ N, N = allS k T i j := ⟨_, rfl⟩
       rw [← HS.out] at e2
       rw [← hN] at q2 e2 e3
       rw [← hL] at e1 e2 ⊢
       have hL2 : allS k T i (j + 1) = L + N := by rw [allS_succ, hL, hN]
       have HL2 := Lib.hid hL2
       have c1 : decide (N < 0) = false := by simp; omega
       have c2 : decide (2147483647 - L < N) = false := by simp; omega
       have f1 : IntKind.i64.wrap (2147483647 - L) = 2147483647 - L := IntWalk.i64_in _ (by omega)
       have f2 : IntKind.i64.wrap (L + N) = L + N := IntWalk.i64_in _ (by omega)
       clear hN hL hL2
       refine wp_seq ?_
       refine r0T ?_
       refine wp_cond_true (rfl) ?_
       refine wp_skip ?_
       refine then_norm ?_
       refine wp_seq ?_
       refine wp_block ?_
       refine wp_seq ?_
       refine r0T ?_
       refine wp_cond_false (rfl) ?_
       refine wp_skip ?_
       refine then_norm ?_
       refine r0E ?_
       refine blk_norm ?_
       refine then_norm ?_
       refine r0E ?_
       refine then_norm ?_
       go_roundw
       case rel => exact ⟨j + 1, by omega, by go_num, by rw [HL2.out], hG⟩
       case measure => simp [intOf]; omega
      ·obtain rfl : k = j := by omega
       have hdj : decide (k < k) = false := by simp
       refine wp_seq ?_
       refine r0T ?_
       refine wp_cond_false (rfl) ?_
       refine wp_exit ?_
       refine then_exit ?_
       refine then_exit ?_
       refine blk_exit ?_
       refine blk_norm ?_
       refine then_norm ?_
       refine r0E ?_
       refine then_norm ?_
       go_roundw
       case rel => exact ⟨i + 1, by omega, by go_num, by rw [← allS_next], hG⟩
       case measure => simp [intOf]; omega
    ·obtain rfl : k = i := by omega
     have hdi : decide (k < k) = false := by simp
     refine wp_seq ?_
     refine r0T ?_
     refine wp_cond_false (rfl) ?_
     refine wp_exit ?_
     refine then_exit ?_
     refine then_exit ?_
     refine blk_exit ?_
     refine then_norm ?_
     refine r0T ?_
     refine wp_seq ?_
     refine r0T ?_
     refine wp_block ?_
     clear hB hF
     go_loopw [8, 9] (fun s0 s1 wr => ∃ (i : Nat) (ps : List Zr3), i ≤ k ∧ s1 = .int .i64 i ∧ ps.map (·.2) = ratesL k T i ∧ AllZ3 wr ps ∧ wr.ownsRow w.heap.size 115 9 s0 i (ps.flatMap zr3L) ∧ Grow w wr) (fun _ s1 _ => k - (intOf s1).toNat)
     case atStart => exact ⟨0, [], Nat.zero_le _, rfl, rfl, AllZ3.nil _, World.ownsRow_nil _ _ _ _, hG⟩
     case round =>
      clear hG hdi
      obtain ⟨i, ps, hi, rfl, hps, hA, ho, hG⟩ := hrel
      have Ho := Lib.hid ho
      have Hps := Lib.hid hps
      have HG0 := Lib.hid hG
      clear ho hps hG
      obtain ⟨w0, rfl⟩ : ∃ x, x = w := ⟨_, rfl⟩
      obtain ⟨w, rfl⟩ : ∃ x, x = wr := ⟨_, rfl⟩
      have HA := Lib.hid hA
      clear hA
      rcases Nat.lt_or_ge i k with hlt | hge
      ·have hdi : decide (i < k) = true := by simpa using hlt
       have hTb := Lib.hid (Ht.out.grow HG0.out)
       obtain ⟨r1, r2⟩ := row_le (k := k) (T := T) HT0.out hlt k (Nat.le_refl _)
       obtain ⟨r3, r4⟩ := col_le (k := k) (T := T) HT0.out hlt k (Nat.le_refl _)
       have e8 := HT0.out i hlt i hlt
       have e9 := le_sumTo hlt (fun j hj => HT0.out i hlt j hj)
       have hsu := ratesL_succ k T i
       have hra : rateAt k T i = (qover (T i i) (sumTo (fun a => T a i) k), qover (T i i) (sumTo (T i) k), qdiv (qadd (qmul (qover (T i i) (sumTo (fun a => T a i) k)) (qover (T i i) (sumTo (T i) k))) (qmul (qover (T i i) (sumTo (fun a => T a i) k)) (qover (T i i) (sumTo (T i) k)))) (qadd (qover (T i i) (sumTo (fun a => T a i) k)) (qover (T i i) (sumTo (T i) k)))) := rfl
       have hte : ∀ W, Grow w W → W.cell? ⟨bt, ot + i, none⟩ = some (.slice (some ⟨rb i, ro i, none⟩) k (rc i)) ∧ W.cell? ⟨rb i, ro i + i, none⟩ = some (.int .i64 (T i i)) := fun W hg => ⟨((hTb.out.grow hg).2 i hlt).1, ((hTb.out.grow hg).2 i hlt).2.2 i hlt⟩
       rw [← HS.out] at r2 r4
       obtain ⟨N, hN⟩ : ∃ N, N = T i i := ⟨_, rfl⟩
       obtain ⟨X, hX⟩ : ∃ N, N = sumTo (fun a => T a i) k := ⟨_, rfl⟩
       obtain ⟨Y, hY⟩ : ∃ N, N = sumTo (T i) k := ⟨_, rfl⟩
       rw [← hN] at e8 e9 hra
       simp only [← hN] at hte
       rw [← hX] at r3 r4 hra
       rw [← hY] at r1 r2 e9 hra
       have hpw : ((2 ^ s : Nat) : Int) = 2 ^ s := by simp
       have z1 : qs (qover N X) ≤ s := over_sub 0 0 N X s (by omega) (by omega) hs1
       have z2 : qs (qover N Y) ≤ s := over_sub 0 0 N Y s (by omega) (by omega) hs1
       have n1 := qover_nonneg (n := N) (d := X) (by omega) (by omega)
       have n2 := qover_nonneg (n := N) (d := Y) (by omega) (by omega)
       have hb1 := fun W => ref6_by N X (by omega) (by omega) (by omega) (by omega) W
       have hb2 := fun W => ref6_by N Y (by omega) (by omega) (by omega) (by omega) W
       obtain ⟨P, hP⟩ : ∃ P, P = qover N X := ⟨_, rfl⟩
       obtain ⟨R, hR⟩ : ∃ P, P = qover N Y := ⟨_, rfl⟩
       rw [← hP] at z1 n1 hra
       rw [← hR] at z2 n2 hra
       simp only [← hP] at hb1
       simp only [← hR] at hb2
       have z3 : qs (qmul P R) ≤ 2 * s := by have := qs_mul P R; unfold qmul; omega
       have z4 : qs (qadd P R) ≤ 2 * s + 1 := by have := qs_add P R; unfold qadd; omega
       have z5 : qs (qint 2) ≤ 41 := qint_sz 2 (by omega)
       have z6 : qs (qmul (qint 2) (qmul P R)) ≤ 2 * s + 41 := by have := qs_mul (qint 2) (qmul P R); unfold qmul at *; omega
       have hsp := sum_pos n1 n2
       have hbe := both_eq (P := P) (R := R) rfl
       have hsn := fun (W : World) (x : Az) => ref1_Sign x.1 x.2 (qadd P R) W
       rw [hra] at hsu
       have Hte := Lib.hid hte
       have Hb1 := Lib.hid hb1
       have Hb2 := Lib.hid hb2
       have HX := Lib.hid hX
       have HY := Lib.hid hY
       have HN := Lib.hid hN
       clear hte hb1 hb2 hX hY hN hP hR hra hpw n1 n2
       obtain ⟨u, hwu⟩ : ∃ x, x = w := ⟨_, rfl⟩
       have hB := Bx.nil u
       have hG : Grow w u := hwu ▸ Grow.refl u
       have hF := Fr.nil w
       rw [← hwu]
       clear hwu
       by_cases hsg : 0 < (qadd P R).num.sign
       ·have hne : qadd P R ≠ 0 := fun e => by rw [e] at hsg; exact absurd hsg (by decide)
        rw [hbe] at hsu
        obtain ⟨g, hg⟩ : ∃ g, g = (qadd P R).num.sign := ⟨_, rfl⟩
        simp only [← hg] at hsn
        rw [← hg] at hsg
        obtain ⟨Sm, hSm⟩ : ∃ x, x = qadd P R := ⟨_, rfl⟩
        obtain ⟨M, hM⟩ : ∃ x, x = qmul P R := ⟨_, rfl⟩
        have hadd : ∀ (W : World) (x y : Az), Rz W x P → Rz W y R → Calls Tryz.prog 92 #[rzV x P, rzV y R] W (Ret (ratR Sm) W) := fun W x y h1 h2 => by rw [hSm]; exact ref1_Add x.1 x.2 y.1 y.2 P R W h1.1 h1.2 h2.1 h2.2 (by omega)
        have hmul : ∀ (W : World) (x y : Az), Rz W x P → Rz W y R → Calls Tryz.prog 115 #[rzV x P, rzV y R] W (Ret (ratR M) W) := fun W x y h1 h2 => by rw [hM]; exact ref1_Mul x.1 x.2 y.1 y.2 P R W h1.1 h1.2 h2.1 h2.2 (by omega)
        rw [← hSm] at hne hsu z4
        simp only [← hSm] at hsn
        rw [← hM] at hsu z3 z6
        have Hsn := Lib.hid hsn
        have Hsu := Lib.hid hsu
        have Hadd := Lib.hid hadd
        have Hmul := Lib.hid hmul
        have cg : decide (0 < g) = true := by simpa using hsg
        clear hsp hbe hsn hsu hadd hmul hSm hM hg hsg
        refine wp_seq ?_
        refine r0T ?_
        refine wp_cond_true (rfl) ?_
        refine wp_skip ?_
        refine then_norm ?_
        refine wp_seq ?_
        refine wp_block ?_
        refine r0T ?_
        refine r0T ?_
        refine wp_seq ?_
        refine r0T ?_
        refine wp_block ?_
        go_loopw [10, 11, 12] (fun s0 s1 s2 wr => ∃ j : Nat, j ≤ k ∧ s2 = .int .i64 j ∧ s0 = .int .i64 (sumTo (T i) j) ∧ s1 = .int .i64 (sumTo (fun a => T a i) j) ∧ Grow w wr) (fun _ _ s2 _ => k - (intOf s2).toNat)
        case atStart => exact ⟨0, Nat.zero_le _, rfl, rfl, rfl, hG⟩
        case round =>
         clear hB hG
         obtain ⟨j, hj, rfl, rfl, rfl, hG⟩ := hrel
         obtain ⟨u, rfl⟩ : ∃ x, x = wr := ⟨_, rfl⟩
         have hB := Bx.nil u
         rcases Nat.lt_or_ge j k with hjk | hjk
         ·have q1 := ((hTb.out.grow hG).2 i hlt).1
          have q2 := ((hTb.out.grow hG).2 i hlt).2.2 j hjk
          have q3 := ((hTb.out.grow hG).2 j hjk).1
          have q4 := ((hTb.out.grow hG).2 j hjk).2.2 i hlt
          have hdj : decide (j < k) = true := by simpa using hjk
          obtain ⟨a1, a2⟩ := row_le (k := k) (T := T) HT0.out hlt (j + 1) (by omega)
          obtain ⟨a3, a4⟩ := col_le (k := k) (T := T) HT0.out hlt (j + 1) (by omega)
          have s1 : sumTo (T i) (j + 1) = sumTo (T i) j + T i j := rfl
          have s2 : sumTo (fun a => T a i) (j + 1) = sumTo (fun a => T a i) j + T j i := rfl
          rw [← HS.out] at a2 a4
          rw [s1] at a1 a2
          rw [s2] at a3 a4
          obtain ⟨U, hU⟩ : ∃ x, x = sumTo (T i) j := ⟨_, rfl⟩
          obtain ⟨V, hV⟩ : ∃ x, x = sumTo (fun a => T a i) j := ⟨_, rfl⟩
          obtain ⟨N1, hN1⟩ : ∃ x, x = T i j := ⟨_, rfl⟩
          obtain ⟨N2, hN2⟩ : ∃ x, x = T j i := ⟨_, rfl⟩
          rw [← hU, ← hN1] at a1 a2 s1
          rw [← hV, ← hN2] at a3 a4 s2
          rw [← hN1] at q2
          rw [← hN2] at q4
          rw [← hU, ← hV]
          have f1 : IntKind.i64.wrap (U + N1) = U + N1 := IntWalk.i64_in _ (by omega)
          have f2 : IntKind.i64.wrap (V + N2) = V + N2 := IntWalk.i64_in _ (by omega)
          have S1 := Lib.hid s1
          have S2 := Lib.hid s2
          clear s1 s2 hU hV hN1 hN2 a1 a2 a3 a4
          refine wp_seq ?_
          refine r0T ?_
          refine wp_cond_true (rfl) ?_
          refine wp_skip ?_
          refine then_norm ?_
          refine wp_seq ?_
          refine wp_block ?_
          refine r0T ?_
          refine r0E ?_
          refine blk_norm ?_
          refine then_norm ?_
          refine r0E ?_
          refine then_norm ?_
          go_roundw
          case rel => exact ⟨j + 1, by omega, by go_num, by rw [S1.out], by rw [S2.out], hG⟩
          case measure => simp [intOf]; omega
         ·obtain rfl : k = j := by omega
          have hdj : decide (k < k) = false := by simp
          rw [show sumTo (T i) k = Y from HY.out.symm, show sumTo (fun a => T a i) k = X from HX.out.symm]
          refine wp_seq ?_
          refine r0T ?_
          refine wp_cond_false (rfl) ?_
          refine wp_exit ?_
          refine then_exit ?_
          refine then_exit ?_
          refine blk_exit ?_
          refine then_norm ?_
          refine wp_seq (rdC allocs4 [] [(0, 0), (0, 1), (0, 2), (0, 3), (0, 4), (0, 5), (0, 6), (0, 7), (0, 9), (0, 10), (0, 11), (0, 12), (0, 13), (0, 14), (0, 15), (0, 16), (1, 8), (1, 17), (1, 18), (0, 19), (2, 20)] hB hG fun K L hN hL => ?_)
          repeat first | refine gya ?_ | refine gyr ?_ | refine gna ?_ | refine gyb (by (rintro v ⟨hgu, hB, hG, -⟩ N hN; have r := hB.r; simp only [BxR] at r; obtain ⟨p1, p2⟩ := Hte.out v hG; go_simp; exact hN)) ?_
          refine grd (ratR P) (fun (x111 : Ax × Ax) => ?_) (C := fun v _ => Hb1.out _)
          refine grd (ratR R) (fun (x120 : Ax × Ax) => ?_) (C := by (rintro v ⟨⟨hgu, hB, hG, -⟩, hx111⟩; obtain ⟨hx111a, hx111b⟩ : Rn v x111.1 _ ∧ Rn v x111.2 _ := hx111; exact Hb2.out _))
          refine grd (ratR (qint 0)) (fun (x121 : Ax × Ax) => ?_) (C := by (rintro v ⟨⟨⟨hgu, hB, hG, -⟩, hx111⟩, hx120⟩; obtain ⟨hx111a, hx111b⟩ : Rn v x111.1 _ ∧ Rn v x111.2 _ := hx111; obtain ⟨hx120a, hx120b⟩ : Rn v x120.1 _ ∧ Rn v x120.2 _ := hx120; exact ref1_Of 0 (by omega) (by omega) _))
          refine gs ?_
          refine gaa (newObj_RRate _ _ _ _ _) fun b13 hb13 hn13 => ?_
          replace hF := hF.n1 [] hB hG hb13 hn13
          refine geC hL ?_
          clear hB hG hL L
          rintro u ⟨⟨⟨⟨⟨-, hB, hG, -⟩, hx111⟩, hx120⟩, hx121⟩, h13⟩
          replace hB := hB.cons' h13
          clear h13
          obtain ⟨hx111a, hx111b⟩ : Rn u x111.1 _ ∧ Rn u x111.2 _ := hx111
          obtain ⟨hx120a, hx120b⟩ : Rn u x120.1 _ ∧ Rn u x120.2 _ := hx120
          obtain ⟨hx121a, hx121b⟩ : Rn u x121.1 _ ∧ Rn u x121.2 _ := hx121
          clear hb13 hn13
          refine gtT ?_
          clear hN K
          refine sv hB hF hG 0 0 [_, _, _, _, _, _, _, _, _] ?_
          intro u hu hBG
          replace hx111a := hx111a.put hB 0 rfl (by first | decide | simp) _ _ hu
          replace hx111b := hx111b.put hB 0 rfl (by first | decide | simp) _ _ hu
          replace hx120a := hx120a.put hB 0 rfl (by first | decide | simp) _ _ hu
          replace hx120b := hx120b.put hB 0 rfl (by first | decide | simp) _ _ hu
          replace hx121a := hx121a.put hB 0 rfl (by first | decide | simp) _ _ hu
          replace hx121b := hx121b.put hB 0 rfl (by first | decide | simp) _ _ hu
          clear hB hG hu
          obtain ⟨hB, hG⟩ := hBG
          refine wp_seq ?_
          refine wp_seq (rsC allocs4 [0, 0, 0, 0, 1, 2] hB hG fun K L hN hL => ?_)
          repeat first | refine gya ?_ | refine gyr ?_ | refine gna ?_ | refine gyb (by (rintro v ⟨hgu, hB, hG, -⟩ N hN; have r := hB.r; simp only [BxR] at r; obtain ⟨p1, p2⟩ := Hte.out v hG; go_simp; exact hN)) ?_
          refine grd (ratR Sm) (fun (x127 : Ax × Ax) => ?_) (C := by (rintro v ⟨hgu, hB, hG, -⟩; exact Hadd.out _ x111 x120 (rz_mk (hx111a.grow hgu) (hx111b.grow hgu)) (rz_mk (hx120a.grow hgu) (hx120b.grow hgu))))
          refine gaa (newObj_RQ _ _ _ _ _) fun b14 hb14 hn14 => ?_
          replace hF := hF.n1 [] hB hG hb14 hn14
          refine geC hL ?_
          clear hB hG hL L
          rintro u ⟨⟨⟨hgu, hB, hG, -⟩, hx127⟩, h14⟩
          replace hB := hB.cons' h14
          clear h14
          replace hx111a := hx111a.grow hgu
          replace hx111b := hx111b.grow hgu
          replace hx120a := hx120a.grow hgu
          replace hx120b := hx120b.grow hgu
          replace hx121a := hx121a.grow hgu
          replace hx121b := hx121b.grow hgu
          obtain ⟨hx127a, hx127b⟩ : Rn u x127.1 _ ∧ Rn u x127.2 _ := hx127
          clear hb14 hn14
          clear hgu
          refine gtT ?_
          clear hN K
          refine sv hB hF hG 0 0 [_, _, _] ?_
          intro u hu hBG
          replace hx111a := hx111a.put hB 0 rfl (by first | decide | simp) _ _ hu
          replace hx111b := hx111b.put hB 0 rfl (by first | decide | simp) _ _ hu
          replace hx120a := hx120a.put hB 0 rfl (by first | decide | simp) _ _ hu
          replace hx120b := hx120b.put hB 0 rfl (by first | decide | simp) _ _ hu
          replace hx121a := hx121a.put hB 0 rfl (by first | decide | simp) _ _ hu
          replace hx121b := hx121b.put hB 0 rfl (by first | decide | simp) _ _ hu
          replace hx127a := hx127a.put hB 0 rfl (by first | decide | simp) _ _ hu
          replace hx127b := hx127b.put hB 0 rfl (by first | decide | simp) _ _ hu
          clear hB hG hu
          obtain ⟨hB, hG⟩ := hBG
          refine wp_seq (rsE allocs4 [0, 1, 0] hB hG fun L hL => ?_)
          repeat first | refine gya ?_ | refine gyr ?_ | refine gna ?_ | refine gyb (by (rintro v ⟨hgu, hB, hG, -⟩ N hN; have r := hB.r; simp only [BxR] at r; obtain ⟨p1, p2⟩ := Hte.out v hG; go_simp; exact hN)) ?_
          refine gmw (C := fun v => Hsn.out _ x127) ?_
          refine gs ?_
          refine geT hL ?_
          clear hB hG hL L
          rintro u ⟨hgu, hB, hG, -⟩
          replace hx111a := hx111a.grow hgu
          replace hx111b := hx111b.grow hgu
          replace hx120a := hx120a.grow hgu
          replace hx120b := hx120b.grow hgu
          replace hx121a := hx121a.grow hgu
          replace hx121b := hx121b.grow hgu
          replace hx127a := hx127a.grow hgu
          replace hx127b := hx127b.grow hgu
          clear hgu
          refine wp_cond_true (rfl) ?_
          refine rdC allocs4 [] [(0, 1), (0, 2), (0, 3), (0, 4), (0, 7), (1, 0), (1, 5), (1, 6), (1, 8), (0, 9)] hB hG fun K L hN hL => ?_
          repeat first | refine gya ?_ | refine gyr ?_ | refine gna ?_ | refine gyb (by (rintro v ⟨hgu, hB, hG, -⟩ N hN; have r := hB.r; simp only [BxR] at r; obtain ⟨p1, p2⟩ := Hte.out v hG; go_simp; exact hN)) ?_
          refine grd (ratR (qint 2)) (fun (x131 : Ax × Ax) => ?_) (C := fun v _ => ref1_Of 2 (by omega) (by omega) _)
          refine grd (ratR M) (fun (x136 : Ax × Ax) => ?_) (C := by (rintro v ⟨⟨hgu, hB, hG, -⟩, hx131⟩; obtain ⟨hx131a, hx131b⟩ : Rn v x131.1 _ ∧ Rn v x131.2 _ := hx131; exact Hmul.out _ x111 x120 (rz_mk (hx111a.grow hgu) (hx111b.grow hgu)) (rz_mk (hx120a.grow hgu) (hx120b.grow hgu))))
          refine grd (ratR (qmul (qint 2) M)) (fun (x137 : Ax × Ax) => ?_) (C := by (rintro v ⟨⟨⟨hgu, hB, hG, -⟩, hx131⟩, hx136⟩; obtain ⟨hx131a, hx131b⟩ : Rn v x131.1 _ ∧ Rn v x131.2 _ := hx131; obtain ⟨hx136a, hx136b⟩ : Rn v x136.1 _ ∧ Rn v x136.2 _ := hx136; exact ref1_Mul x131.1 x131.2 x136.1 x136.2 (qint 2) M _ hx131a hx131b hx136a hx136b (by omega)))
          refine grd (ratR (qdiv (qmul (qint 2) M) Sm)) (fun (x139 : Ax × Ax) => ?_) (C := by (rintro v ⟨⟨⟨⟨hgu, hB, hG, -⟩, hx131⟩, hx136⟩, hx137⟩; obtain ⟨hx131a, hx131b⟩ : Rn v x131.1 _ ∧ Rn v x131.2 _ := hx131; obtain ⟨hx136a, hx136b⟩ : Rn v x136.1 _ ∧ Rn v x136.2 _ := hx136; obtain ⟨hx137a, hx137b⟩ : Rn v x137.1 _ ∧ Rn v x137.2 _ := hx137; exact ref1_Div x137.1 x137.2 x127.1 x127.2 (qmul (qint 2) M) Sm _ hx137a hx137b (hx127a.grow hgu) (hx127b.grow hgu) (by omega) hne))
          refine gs ?_
          refine geC hL ?_
          clear hB hG hL L
          rintro u ⟨⟨⟨⟨⟨hgu, hB, hG, -⟩, hx131⟩, hx136⟩, hx137⟩, hx139⟩
          replace hx111a := hx111a.grow hgu
          replace hx111b := hx111b.grow hgu
          replace hx120a := hx120a.grow hgu
          replace hx120b := hx120b.grow hgu
          replace hx121a := hx121a.grow hgu
          replace hx121b := hx121b.grow hgu
          replace hx127a := hx127a.grow hgu
          replace hx127b := hx127b.grow hgu
          obtain ⟨hx131a, hx131b⟩ : Rn u x131.1 _ ∧ Rn u x131.2 _ := hx131
          obtain ⟨hx136a, hx136b⟩ : Rn u x136.1 _ ∧ Rn u x136.2 _ := hx136
          obtain ⟨hx137a, hx137b⟩ : Rn u x137.1 _ ∧ Rn u x137.2 _ := hx137
          obtain ⟨hx139a, hx139b⟩ : Rn u x139.1 _ ∧ Rn u x139.2 _ := hx139
          clear hgu
          refine gtT ?_
          clear hN K
          refine sv hB hF hG 1 6 [_, _, _] ?_
          intro u hu hBG
          replace hx111a := hx111a.put hB 1 rfl (by first | decide | simp) _ _ hu
          replace hx111b := hx111b.put hB 1 rfl (by first | decide | simp) _ _ hu
          replace hx120a := hx120a.put hB 1 rfl (by first | decide | simp) _ _ hu
          replace hx120b := hx120b.put hB 1 rfl (by first | decide | simp) _ _ hu
          replace hx121a := hx121a.put hB 1 rfl (by first | decide | simp) _ _ hu
          replace hx121b := hx121b.put hB 1 rfl (by first | decide | simp) _ _ hu
          replace hx127a := hx127a.put hB 1 rfl (by first | decide | simp) _ _ hu
          replace hx127b := hx127b.put hB 1 rfl (by first | decide | simp) _ _ hu
          replace hx131a := hx131a.put hB 1 rfl (by first | decide | simp) _ _ hu
          replace hx131b := hx131b.put hB 1 rfl (by first | decide | simp) _ _ hu
          replace hx136a := hx136a.put hB 1 rfl (by first | decide | simp) _ _ hu
          replace hx136b := hx136b.put hB 1 rfl (by first | decide | simp) _ _ hu
          replace hx137a := hx137a.put hB 1 rfl (by first | decide | simp) _ _ hu
          replace hx137b := hx137b.put hB 1 rfl (by first | decide | simp) _ _ hu
          replace hx139a := hx139a.put hB 1 rfl (by first | decide | simp) _ _ hu
          replace hx139b := hx139b.put hB 1 rfl (by first | decide | simp) _ _ hu
          clear hB hG hu
          obtain ⟨hB, hG⟩ := hBG
          refine wp_rs (w := w) allocs4 2 [0, 0] (by kernel_rfl) (by simp only [List.drop_succ_cons, List.drop_zero]; exact rfl) (fun _ => True) noG hB hG trivial ?_
          intro K L hN hL
          simp only [List.zip_cons_cons, List.zip_nil_left]
          repeat first | refine gya ?_ | refine gyr ?_ | refine gna ?_ | refine gyb (by (rintro v ⟨hgu, hB, hG, -⟩ N hN; have r := hB.r; simp only [BxR] at r; obtain ⟨p1, p2⟩ := Hte.out v hG; go_simp; exact hN)) ?_
          refine gend ?_
          rintro v ⟨hgu, hB1, hG1, -⟩
          replace hx111a := hx111a.grow hgu
          replace hx111b := hx111b.grow hgu
          replace hx120a := hx120a.grow hgu
          replace hx120b := hx120b.grow hgu
          replace hx121a := hx121a.grow hgu
          replace hx121b := hx121b.grow hgu
          replace hx127a := hx127a.grow hgu
          replace hx127b := hx127b.grow hgu
          replace hx131a := hx131a.grow hgu
          replace hx131b := hx131b.grow hgu
          replace hx136a := hx136a.grow hgu
          replace hx136b := hx136b.grow hgu
          replace hx137a := hx137a.grow hgu
          replace hx137b := hx137b.grow hgu
          replace hx139a := hx139a.grow hgu
          replace hx139b := hx139b.grow hgu
          clear hB hG
          have hB := hB1
          have hG := hG1
          clear hB1 hG1
          refine hL _ _ ?_
          clear hL L hgu
          obtain ⟨u, rfl⟩ : ∃ x, x = v := ⟨_, rfl⟩
          have r := hB.r
          simp only [BxR] at r
          refine app_tailG ei_RR w0.heap.size _ _ _ _ (zr3L ((x111, x120, x139), (P, R, qdiv (qmul (qint 2) M) Sm))) rfl rfl (bs_RR x111 x120 x139 P R (qdiv (qmul (qint 2) M) Sm) u) rfl (fun _ => rfl) (fun _ => rfl) (fun _ _ => rfl) (own_grow' Ho.out hG) (by omega) (by omega) (HG0.out.trans hG).sz fun p v' w' g1 g2 g3 => ?_
          have hGn := own_growth (own_grow' Ho.out hG) (HG0.out.trans hG) g2
          have hAn := ((HA.out.grow hG).snoc (rz_mk hx111a hx111b) (rz_mk hx120a hx120b) (rz_mk hx139a hx139b)).own (own_grow' Ho.out hG) (by decide) g2
          clear hG hB g2 g3
          have Hon := Lib.hid g1
          have HAn := Lib.hid hAn
          have hB := Bx.nil w'
          clear g1 hAn
          obtain ⟨u, rfl⟩ : ∃ x, x = w' := ⟨_, rfl⟩
          simp only [Act.put, List.setIfInBounds_toArray, List.set_cons_succ, List.set_cons_zero]
          clear r
          refine NoK.norm (hN _ _ ?_)
          clear hN K
          refine blk_norm ?_
          refine then_norm ?_
          refine r0E ?_
          refine then_norm ?_
          go_roundw
          case rel => exact ⟨i + 1, ps ++ [((x111, x120, x139), (P, R, qdiv (qmul (qint 2) M) Sm))], by omega, by go_num, by rw [List.map_append, Hps.out, Hsu.out]; rfl, HAn.out, by have := Hon.out; rw [List.flatMap_append, List.flatMap_cons, List.flatMap_nil, List.append_nil]; exact this, hGn⟩
          case measure => simp [intOf]; omega
       ·have hz0 := hsp hsg
        have hq0 : qdiv (qadd (qmul P R) (qmul P R)) (qadd P R) = qint 0 := by rw [hz0]; unfold qdiv; rw [Rat.div_def, Rat.inv_zero, Rat.mul_zero]; rfl
        rw [hq0] at hsu
        obtain ⟨g, hg⟩ : ∃ g, g = (qadd P R).num.sign := ⟨_, rfl⟩
        simp only [← hg] at hsn
        rw [← hg] at hsg
        obtain ⟨Sm, hSm⟩ : ∃ x, x = qadd P R := ⟨_, rfl⟩
        have hadd : ∀ (W : World) (x y : Az), Rz W x P → Rz W y R → Calls Tryz.prog 92 #[rzV x P, rzV y R] W (Ret (ratR Sm) W) := fun W x y h1 h2 => by rw [hSm]; exact ref1_Add x.1 x.2 y.1 y.2 P R W h1.1 h1.2 h2.1 h2.2 (by omega)
        simp only [← hSm] at hsn
        have Hsn := Lib.hid hsn
        have Hsu := Lib.hid hsu
        have Hadd := Lib.hid hadd
        have cg : decide (0 < g) = false := by simpa using hsg
        clear hsp hbe hsn hsu hadd hSm hg hsg hz0 hq0
        refine wp_seq ?_
        refine r0T ?_
        refine wp_cond_true (rfl) ?_
        refine wp_skip ?_
        refine then_norm ?_
        refine wp_seq ?_
        refine wp_block ?_
        refine r0T ?_
        refine r0T ?_
        refine wp_seq ?_
        refine r0T ?_
        refine wp_block ?_
        go_loopw [10, 11, 12] (fun s0 s1 s2 wr => ∃ j : Nat, j ≤ k ∧ s2 = .int .i64 j ∧ s0 = .int .i64 (sumTo (T i) j) ∧ s1 = .int .i64 (sumTo (fun a => T a i) j) ∧ Grow w wr) (fun _ _ s2 _ => k - (intOf s2).toNat)
        case atStart => exact ⟨0, Nat.zero_le _, rfl, rfl, rfl, hG⟩
        case round =>
         clear hB hG
         obtain ⟨j, hj, rfl, rfl, rfl, hG⟩ := hrel
         obtain ⟨u, rfl⟩ : ∃ x, x = wr := ⟨_, rfl⟩
         have hB := Bx.nil u
         rcases Nat.lt_or_ge j k with hjk | hjk
         ·have q1 := ((hTb.out.grow hG).2 i hlt).1
          have q2 := ((hTb.out.grow hG).2 i hlt).2.2 j hjk
          have q3 := ((hTb.out.grow hG).2 j hjk).1
          have q4 := ((hTb.out.grow hG).2 j hjk).2.2 i hlt
          have hdj : decide (j < k) = true := by simpa using hjk
          obtain ⟨a1, a2⟩ := row_le (k := k) (T := T) HT0.out hlt (j + 1) (by omega)
          obtain ⟨a3, a4⟩ := col_le (k := k) (T := T) HT0.out hlt (j + 1) (by omega)
          have s1 : sumTo (T i) (j + 1) = sumTo (T i) j + T i j := rfl
          have s2 : sumTo (fun a => T a i) (j + 1) = sumTo (fun a => T a i) j + T j i := rfl
          rw [← HS.out] at a2 a4
          rw [s1] at a1 a2
          rw [s2] at a3 a4
          obtain ⟨U, hU⟩ : ∃ x, x = sumTo (T i) j := ⟨_, rfl⟩
          obtain ⟨V, hV⟩ : ∃ x, x = sumTo (fun a => T a i) j := ⟨_, rfl⟩
          obtain ⟨N1, hN1⟩ : ∃ x, x = T i j := ⟨_, rfl⟩
          obtain ⟨N2, hN2⟩ : ∃ x, x = T j i := ⟨_, rfl⟩
          rw [← hU, ← hN1] at a1 a2 s1
          rw [← hV, ← hN2] at a3 a4 s2
          rw [← hN1] at q2
          rw [← hN2] at q4
          rw [← hU, ← hV]
          have f1 : IntKind.i64.wrap (U + N1) = U + N1 := IntWalk.i64_in _ (by omega)
          have f2 : IntKind.i64.wrap (V + N2) = V + N2 := IntWalk.i64_in _ (by omega)
          have S1 := Lib.hid s1
          have S2 := Lib.hid s2
          clear s1 s2 hU hV hN1 hN2 a1 a2 a3 a4
          refine wp_seq ?_
          refine r0T ?_
          refine wp_cond_true (rfl) ?_
          refine wp_skip ?_
          refine then_norm ?_
          refine wp_seq ?_
          refine wp_block ?_
          refine r0T ?_
          refine r0E ?_
          refine blk_norm ?_
          refine then_norm ?_
          refine r0E ?_
          refine then_norm ?_
          go_roundw
          case rel => exact ⟨j + 1, by omega, by go_num, by rw [S1.out], by rw [S2.out], hG⟩
          case measure => simp [intOf]; omega
         ·obtain rfl : k = j := by omega
          have hdj : decide (k < k) = false := by simp
          rw [show sumTo (T i) k = Y from HY.out.symm, show sumTo (fun a => T a i) k = X from HX.out.symm]
          refine wp_seq ?_
          refine r0T ?_
          refine wp_cond_false (rfl) ?_
          refine wp_exit ?_
          refine then_exit ?_
          refine then_exit ?_
          refine blk_exit ?_
          refine then_norm ?_
          refine wp_seq (rdC allocs4 [] [(0, 0), (0, 1), (0, 2), (0, 3), (0, 4), (0, 5), (0, 6), (0, 7), (0, 9), (0, 10), (0, 11), (0, 12), (0, 13), (0, 14), (0, 15), (0, 16), (1, 8), (1, 17), (1, 18), (0, 19), (2, 20)] hB hG fun K L hN hL => ?_)
          repeat first | refine gya ?_ | refine gyr ?_ | refine gna ?_ | refine gyb (by (rintro v ⟨hgu, hB, hG, -⟩ N hN; have r := hB.r; simp only [BxR] at r; obtain ⟨p1, p2⟩ := Hte.out v hG; go_simp; exact hN)) ?_
          refine grd (ratR P) (fun (x111 : Ax × Ax) => ?_) (C := fun v _ => Hb1.out _)
          refine grd (ratR R) (fun (x120 : Ax × Ax) => ?_) (C := by (rintro v ⟨⟨hgu, hB, hG, -⟩, hx111⟩; obtain ⟨hx111a, hx111b⟩ : Rn v x111.1 _ ∧ Rn v x111.2 _ := hx111; exact Hb2.out _))
          refine grd (ratR (qint 0)) (fun (x121 : Ax × Ax) => ?_) (C := by (rintro v ⟨⟨⟨hgu, hB, hG, -⟩, hx111⟩, hx120⟩; obtain ⟨hx111a, hx111b⟩ : Rn v x111.1 _ ∧ Rn v x111.2 _ := hx111; obtain ⟨hx120a, hx120b⟩ : Rn v x120.1 _ ∧ Rn v x120.2 _ := hx120; exact ref1_Of 0 (by omega) (by omega) _))
          refine gs ?_
          refine gaa (newObj_RRate _ _ _ _ _) fun b13 hb13 hn13 => ?_
          replace hF := hF.n1 [] hB hG hb13 hn13
          refine geC hL ?_
          clear hB hG hL L
          rintro u ⟨⟨⟨⟨⟨-, hB, hG, -⟩, hx111⟩, hx120⟩, hx121⟩, h13⟩
          replace hB := hB.cons' h13
          clear h13
          obtain ⟨hx111a, hx111b⟩ : Rn u x111.1 _ ∧ Rn u x111.2 _ := hx111
          obtain ⟨hx120a, hx120b⟩ : Rn u x120.1 _ ∧ Rn u x120.2 _ := hx120
          obtain ⟨hx121a, hx121b⟩ : Rn u x121.1 _ ∧ Rn u x121.2 _ := hx121
          clear hb13 hn13
          refine gtT ?_
          clear hN K
          refine sv hB hF hG 0 0 [_, _, _, _, _, _, _, _, _] ?_
          intro u hu hBG
          replace hx111a := hx111a.put hB 0 rfl (by first | decide | simp) _ _ hu
          replace hx111b := hx111b.put hB 0 rfl (by first | decide | simp) _ _ hu
          replace hx120a := hx120a.put hB 0 rfl (by first | decide | simp) _ _ hu
          replace hx120b := hx120b.put hB 0 rfl (by first | decide | simp) _ _ hu
          replace hx121a := hx121a.put hB 0 rfl (by first | decide | simp) _ _ hu
          replace hx121b := hx121b.put hB 0 rfl (by first | decide | simp) _ _ hu
          clear hB hG hu
          obtain ⟨hB, hG⟩ := hBG
          refine wp_seq ?_
          refine wp_seq (rsC allocs4 [0, 0, 0, 0, 1, 2] hB hG fun K L hN hL => ?_)
          repeat first | refine gya ?_ | refine gyr ?_ | refine gna ?_ | refine gyb (by (rintro v ⟨hgu, hB, hG, -⟩ N hN; have r := hB.r; simp only [BxR] at r; obtain ⟨p1, p2⟩ := Hte.out v hG; go_simp; exact hN)) ?_
          refine grd (ratR Sm) (fun (x127 : Ax × Ax) => ?_) (C := by (rintro v ⟨hgu, hB, hG, -⟩; exact Hadd.out _ x111 x120 (rz_mk (hx111a.grow hgu) (hx111b.grow hgu)) (rz_mk (hx120a.grow hgu) (hx120b.grow hgu))))
          refine gaa (newObj_RQ _ _ _ _ _) fun b14 hb14 hn14 => ?_
          replace hF := hF.n1 [] hB hG hb14 hn14
          refine geC hL ?_
          clear hB hG hL L
          rintro u ⟨⟨⟨hgu, hB, hG, -⟩, hx127⟩, h14⟩
          replace hB := hB.cons' h14
          clear h14
          replace hx111a := hx111a.grow hgu
          replace hx111b := hx111b.grow hgu
          replace hx120a := hx120a.grow hgu
          replace hx120b := hx120b.grow hgu
          replace hx121a := hx121a.grow hgu
          replace hx121b := hx121b.grow hgu
          obtain ⟨hx127a, hx127b⟩ : Rn u x127.1 _ ∧ Rn u x127.2 _ := hx127
          clear hb14 hn14
          clear hgu
          refine gtT ?_
          clear hN K
          refine sv hB hF hG 0 0 [_, _, _] ?_
          intro u hu hBG
          replace hx111a := hx111a.put hB 0 rfl (by first | decide | simp) _ _ hu
          replace hx111b := hx111b.put hB 0 rfl (by first | decide | simp) _ _ hu
          replace hx120a := hx120a.put hB 0 rfl (by first | decide | simp) _ _ hu
          replace hx120b := hx120b.put hB 0 rfl (by first | decide | simp) _ _ hu
          replace hx121a := hx121a.put hB 0 rfl (by first | decide | simp) _ _ hu
          replace hx121b := hx121b.put hB 0 rfl (by first | decide | simp) _ _ hu
          replace hx127a := hx127a.put hB 0 rfl (by first | decide | simp) _ _ hu
          replace hx127b := hx127b.put hB 0 rfl (by first | decide | simp) _ _ hu
          clear hB hG hu
          obtain ⟨hB, hG⟩ := hBG
          refine wp_seq (rsE allocs4 [0, 1, 0] hB hG fun L hL => ?_)
          repeat first | refine gya ?_ | refine gyr ?_ | refine gna ?_ | refine gyb (by (rintro v ⟨hgu, hB, hG, -⟩ N hN; have r := hB.r; simp only [BxR] at r; obtain ⟨p1, p2⟩ := Hte.out v hG; go_simp; exact hN)) ?_
          refine gmw (C := fun v => Hsn.out _ x127) ?_
          refine gs ?_
          refine geT hL ?_
          clear hB hG hL L
          rintro u ⟨hgu, hB, hG, -⟩
          replace hx111a := hx111a.grow hgu
          replace hx111b := hx111b.grow hgu
          replace hx120a := hx120a.grow hgu
          replace hx120b := hx120b.grow hgu
          replace hx121a := hx121a.grow hgu
          replace hx121b := hx121b.grow hgu
          replace hx127a := hx127a.grow hgu
          replace hx127b := hx127b.grow hgu
          clear hgu
          refine wp_cond_false (rfl) ?_
          refine wp_skip ?_
          refine then_norm ?_
          refine wp_rs (w := w) allocs4 2 [0, 0] (by kernel_rfl) (by simp only [List.drop_succ_cons, List.drop_zero]; exact rfl) (fun _ => True) noG hB hG trivial ?_
          intro K L hN hL
          simp only [List.zip_cons_cons, List.zip_nil_left]
          repeat first | refine gya ?_ | refine gyr ?_ | refine gna ?_ | refine gyb (by (rintro v ⟨hgu, hB, hG, -⟩ N hN; have r := hB.r; simp only [BxR] at r; obtain ⟨p1, p2⟩ := Hte.out v hG; go_simp; exact hN)) ?_
          refine gend ?_
          rintro v ⟨hgu, hB1, hG1, -⟩
          replace hx111a := hx111a.grow hgu
          replace hx111b := hx111b.grow hgu
          replace hx120a := hx120a.grow hgu
          replace hx120b := hx120b.grow hgu
          replace hx121a := hx121a.grow hgu
          replace hx121b := hx121b.grow hgu
          replace hx127a := hx127a.grow hgu
          replace hx127b := hx127b.grow hgu
          clear hB hG
          have hB := hB1
          have hG := hG1
          clear hB1 hG1
          refine hL _ _ ?_
          clear hL L hgu
          obtain ⟨u, rfl⟩ : ∃ x, x = v := ⟨_, rfl⟩
          have r := hB.r
          simp only [BxR] at r
          refine app_tailG ei_RR w0.heap.size _ _ _ _ (zr3L ((x111, x120, x121), (P, R, qint 0))) rfl rfl (bs_RR x111 x120 x121 P R (qint 0) u) rfl (fun _ => rfl) (fun _ => rfl) (fun _ _ => rfl) (own_grow' Ho.out hG) (by omega) (by omega) (HG0.out.trans hG).sz fun p v' w' g1 g2 g3 => ?_
          have hGn := own_growth (own_grow' Ho.out hG) (HG0.out.trans hG) g2
          have hAn := ((HA.out.grow hG).snoc (rz_mk hx111a hx111b) (rz_mk hx120a hx120b) (rz_mk hx121a hx121b)).own (own_grow' Ho.out hG) (by decide) g2
          clear hG hB g2 g3
          have Hon := Lib.hid g1
          have HAn := Lib.hid hAn
          have hB := Bx.nil w'
          clear g1 hAn
          obtain ⟨u, rfl⟩ : ∃ x, x = w' := ⟨_, rfl⟩
          simp only [Act.put, List.setIfInBounds_toArray, List.set_cons_succ, List.set_cons_zero]
          clear r
          refine NoK.norm (hN _ _ ?_)
          clear hN K
          refine blk_norm ?_
          refine then_norm ?_
          refine r0E ?_
          refine then_norm ?_
          go_roundw
          case rel => exact ⟨i + 1, ps ++ [((x111, x120, x121), (P, R, qint 0))], by omega, by go_num, by rw [List.map_append, Hps.out, Hsu.out]; rfl, HAn.out, by have := Hon.out; rw [List.flatMap_append, List.flatMap_cons, List.flatMap_nil, List.append_nil]; exact this, hGn⟩
          case measure => simp [intOf]; omega
      ·obtain rfl : k = i := by omega
       have hdi : decide (k < k) = false := by simp
       obtain ⟨A', cc, rfl, hL, -⟩ := own_lz3 Ho.out HA.out
       rw [Hps.out] at hL
       have HL := Lib.hid hL
       clear hL
       obtain ⟨u, hwu⟩ : ∃ x, x = w := ⟨_, rfl⟩
       have hB := Bx.nil u
       have hG : Grow w u := hwu ▸ Grow.refl u
       have hF := Fr.nil w
       rw [← hwu]
       clear hwu
       refine wp_seq ?_
       refine r0T ?_
       refine wp_cond_false (rfl) ?_
       refine wp_exit ?_
       refine then_exit ?_
       refine then_exit ?_
       refine blk_exit ?_
       refine then_norm ?_
       refine r0T ?_
       refine rt Tryz.results64 ?_
       exact ⟨(A', cc), rfl, HL.out.grow hG, HG0.out.trans hG⟩
end Go.Proofs.YtimjnkfcnpfoeaaGreatDoor
