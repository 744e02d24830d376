/-
  Contracts and laws: NearRB NearPB NearPlain NearBw.
-/
import Derived.Test.YtjmopgepnndckaaGreatDoorS45
import Derived.Test.YtjmopgepnndckaaGreatDoorS46
set_option linter.unusedSimpArgs false
set_option linter.unusedVariables false
namespace Go.Proofs.YtjmopgepnndckaaGreatDoor
open Go Go.RowKit
theorem ref22_grow (b99 n L : Nat) (RA : Option Addr) (RC : Nat) (rs : List Rq) (w0 : World) (hbw : w0.heap.size ≤ b99) (hn : rs.length = n) (hn0 : 0 < n) (hn2 : n ≤ 100000) (hL1 : 1 ≤ L) (hL2 : L ≤ 100000) (hrl : ∀ r ∈ rs, r.2.2.length = L) (s : Nat) (hs : ∀ r ∈ rs, ∀ x ∈ r.2.2, qs x ≤ s) (hBz : 2 * s + 1 ≤ BIG) (hX : Lrz w0 RA rs) (m : Nat) : RGrowOK b99 n L RA RC (rs.map (·.2.2)) w0 m := by
 induction m using Nat.strongRecOn with
 | ind m ih => exact ref22_grow_step b99 n L RA RC rs w0 hbw hn hn0 hn2 hL1 hL2 hrl s hs hBz hX m ih
theorem range_succ_ints (i : Nat) : ints (List.range (i + 1)) = ints (List.range i) ++ [(i : Int)] := by
 unfold ints
 rw [List.range_succ, List.map_append]
 rfl
set_option maxHeartbeats 4000000 in
set_option maxRecDepth 100000 in
theorem ref22_Build (A : Option Addr) (rs : List Rq) (n Lw c : Nat) (hn : rs.length = n) (hn1 : 1 ≤ n) (hn2 : n ≤ 300) (hL1 : 1 ≤ Lw) (hL2 : Lw ≤ 20) (hrl : ∀ r ∈ rs, r.2.2.length = Lw) (s : Nat) (hs : ∀ r ∈ rs, ∀ x ∈ r.2.2, qs x ≤ s) (hBz : 2 * s + 1 ≤ BIG) (w : World) (h : Lrz w A rs) :
  Calls Tryz.prog 28 #[.slice A n c] w (RetY (fun x : Ax => treeV (A, c) n x n) (fun x W => W.ownsRow w.heap.size 118 4 (.slice x.1 n x.2) n ((flatT (growT (rs.map (·.2.2)) Lw (List.range n) 0) 0).flatMap ndL)) w) := by
 have hgr := fun (b99 : Nat) (h1 : w.heap.size ≤ b99) => ref22_grow b99 n Lw A c rs w h1 hn hn1 (by omega) hL1 (by omega) hrl s hs hBz h n
 obtain ⟨X, hXe⟩ : ∃ X, X = rs.map (·.2.2) := ⟨_, rfl⟩
 rw [← hXe]
 simp only [← hXe] at hgr
 have Hgr := Lib.hid hgr
 clear hgr h hs hrl hBz hn hXe
 go_enter Tryz.func28, Tryz.ntmps28
 refine en1 ?_
 intro u hG b2 hB hF
 refine wp_seq (rsC allocsT [0, 0, 2] hB hG fun K L hN hL => ?_)
 refine gs ?_
 refine gaa (newObj_RTree _ _ _ _ _) fun b3 hb3 hn3 => ?_
 replace hF := hF.n1 [] hB hG hb3 hn3
 have hl2 := hB.head.lt
 refine geC hL ?_
 clear hB hG hL L
 rintro u ⟨⟨hgu, hB, hG, -⟩, h3⟩
 replace hB := hB.cons' h3
 clear h3
 have hb23 : b2 < b3 := by omega
 clear hl2
 clear hb3 hn3
 clear hgu
 refine gtT ?_
 clear hN K
 refine st hB hF hG 0 0 [_, _] ?_
 clear hB hG
 intro u hB hG
 refine r0T ?_
 refine wp_seq ?_
 refine r0T ?_
 refine wp_block ?_
 have Hb23 := Lib.hid hb23
 clear hb23
 go_loopw [5, 4] (fun s0 s1 wr => ∃ i : Nat, i ≤ n ∧ s0 = .int .i64 i ∧ wr.ownsRow w.heap.size 3 1 s1 i (intL (ints (List.range i))) ∧ Bx wr [(b3, 72, #[.slice A n c, .slice none 0 0]), (b2, 72, #[.slice none 0 0, .slice none 0 0])] ∧ Grow w wr) (fun s0 _ _ => n - (intOf s0).toNat)
 case atStart => exact ⟨0, Nat.zero_le _, rfl, World.ownsRow_nil _ _ _ _, hB, hG⟩
 case round =>
  clear hB hG
  obtain ⟨i, hi, rfl, ho, hB, hG⟩ := hrel
  obtain ⟨u, rfl⟩ : ∃ x, x = wr := ⟨_, rfl⟩
  obtain ⟨A', cc, rfl⟩ := own_shape ho
  rcases Nat.lt_or_ge i n with hlt | hge
  ·have hdec : decide ((i : Int) < (n : Int)) = true := by simp; omega
   have Ho := Lib.hid ho
   clear ho
   refine wp_seq ?_
   refine r0T ?_
   refine wp_cond_true (rfl) ?_
   refine wp_skip ?_
   refine then_norm ?_
   refine wp_seq ?_
   refine wp_block ?_
   refine wp_rs (w := w) allocsT 2 [0, 0] (by kernel_rfl) (by simp only [List.drop_succ_cons, List.drop_zero]; exact rfl) (fun _ => True) noG hB hG trivial ?_
   intro K L hN hL
   simp only [List.zip_cons_cons, List.zip_nil_left]
   refine gs ?_
   refine gend ?_
   rintro v ⟨hgu, hB1, hG1, -⟩
   have ROWn := Lib.hid (own_grow' Ho.out hgu)
   clear Ho
   have Ho := ROWn
   clear ROWn
   clear hB hG
   have hB := hB1
   have hG := hG1
   clear hB1 hG1
   refine hL _ _ ?_
   clear hL L hgu
   obtain ⟨u, rfl⟩ : ∃ x, x = v := ⟨_, rfl⟩
   refine app_tailG ei_int w.heap.size _ _ _ _ [Value.int .i64 (i : Nat)] rfl rfl (bs_int (i : Nat) u) rfl (fun _ => rfl) (fun _ => rfl) (fun _ _ => rfl) Ho.out (by omega) (by omega) hG.sz fun p v' w' g1 g2 g3 => ?_
   have hBn := own_boxes Ho.out hB (by simp) g2
   have hGn := own_growth Ho.out hG g2
   clear Ho hB hG
   have Ho := Lib.hid g1
   have hB := hBn
   have hG := hGn
   clear g1 g2 g3 hBn hGn
   obtain ⟨u, rfl⟩ : ∃ x, x = w' := ⟨_, rfl⟩
   simp only [Act.put, List.setIfInBounds_toArray, List.set_cons_succ, List.set_cons_zero]
   refine NoK.norm (hN _ _ ?_)
   clear hN K
   refine blk_norm ?_
   refine then_norm ?_
   refine r0E ?_
   refine then_norm ?_
   go_roundw
   case rel => exact ⟨i + 1, by omega, by go_num, by have := Ho.out; rw [range_succ_ints]; simpa [intL] using this, hB, hG⟩
   case measure => simp [intOf]; omega
  ·obtain rfl : n = i := by omega
   obtain ⟨A2, c2, e9, -, hLi⟩ := own_li ho (by simp [ints])
   cases e9
   have HLi := Lib.hid hLi
   clear ho hLi hge hi
   have hdec : decide ((n : Int) < (n : Int)) = false := by simp
   refine wp_seq ?_
   refine r0T ?_
   refine wp_cond_false (rfl) ?_
   refine wp_exit ?_
   refine then_exit ?_
   refine then_exit ?_
   refine blk_exit ?_
   refine then_norm ?_
   refine wp_seq ?_
   have l3 := hB.head.lt
   have hw3 := hF.1 b3 (by simp)
   refine wp_r0 ?_
   intro K hN
   go_wp2_with (go_at_call 60; refine (Hgr.out b3 hw3 (List.range n) 0 A' cc [] none 0 0 u List.length_range hn1 (fun x hx => List.mem_range.1 hx) hL1 rfl (by omega) hG HLi.out hB.head (World.ownsRow_nil _ _ _ _) (by simp [nbk])).mono ?_; rintro e w5 ⟨rfl, NA', NC', q1, q2, q3, q4, q5⟩)
   refine NoK.norm (hN _ _ ?_)
   clear hN K
   rw [Nat.zero_add] at q1 q2
   rw [List.nil_append] at q2
   have hb23 := Hb23.out
   have hB2 : Bx w5 [(b3, 72, #[.slice A n c, .slice NA' n NC']), (b2, 72, #[.slice none 0 0, .slice none 0 0])] := Bx.cons q1 (Bx.cons (q3.blk hB.tail.head (fun e => e.elim (fun e => by omega) (fun e => by cases e))) (Bx.nil _))
   have l2 := hB.tail.head.lt
   have Hnb := Lib.hid (show (Value.slice NA' n NC').ownBlock ≠ some b2 from fun e => by
    rw [nbk_own] at e
    rcases q4 _ e with h | h
    ·cases h
    ·omega)
   have Ho := Lib.hid q2
   clear l2 hB hG q1 q2 q3 q4 hb23 l3 hw3 HLi
   have hB := hB2
   have hG := q5
   clear hB2 q5
   obtain ⟨u, rfl⟩ : ∃ x, x = w5 := ⟨_, rfl⟩
   refine then_norm ?_
   refine r0T ?_
   refine sv hB hF hG 1 0 [_, _] ?_
   intro u hu hBG
   have Ho2 := Lib.hid (own_over Ho.out Hnb.out hu)
   clear Ho hB hG hu
   have Ho := Ho2
   clear Ho2
   obtain ⟨hB, hG⟩ := hBG
   refine rt Tryz.results28 ?_
   exact ⟨(NA', NC'), rfl, Ho.out, hG⟩
end Go.Proofs.YtjmopgepnndckaaGreatDoor
namespace Go.Proofs.YtjmopgepnndckaaGreatDoor
open Go Go.RowKit
def KT.sh : KT → Sh
 | .none => .no
 | .node _ _ a b => .nd a.sh b.sh
theorem sh_size : ∀ t : KT, t.sh.size = t.size
 | .none => rfl
 | .node _ _ a b => by show a.sh.size + b.sh.size + 1 = a.size + b.size + 1; rw [sh_size a, sh_size b]
theorem sh_deep : ∀ t : KT, t.sh.deep = t.deep
 | .none => rfl
 | .node _ _ a b => by
  have ha := sh_deep a
  have hb := sh_deep b
  cases a <;> cases b <;> simp_all [KT.sh, Sh.deep, KT.deep]
/-- a tree's nodes lie in a list from number i on -/
def Placed (ns : List NdT) (t : KT) (i : Nat) : Prop := ∀ j, j < t.size → ns[i + j]? = (flatT t i)[j]?
theorem placed_node {ns : List NdT} {r c : Nat} {a b : KT} {i : Nat} (h : Placed ns (.node r c a b) i) : ns[i]? = some ⟨r, c, if a.size = 0 then 0 else (i + 1 : Nat), if b.size = 0 then 0 else (i + 1 + a.size : Nat)⟩ ∧ Placed ns a (i + 1) ∧ Placed ns b (i + 1 + a.size) := by
 refine ⟨?_, fun j hj => ?_, fun j hj => ?_⟩
 ·have := h 0 (Nat.succ_pos _)
  rw [Nat.add_zero] at this
  rw [this]
  rfl
 ·have := h (j + 1) (by show j + 1 < a.size + b.size + 1; omega)
  rw [show i + 1 + j = i + (j + 1) by omega, this]
  show (flatT a (i + 1) ++ flatT b (i + 1 + a.size))[j]? = _
  rw [List.getElem?_append_left (by rw [flatT_len]; exact hj)]
 ·have := h (a.size + j + 1) (by show a.size + j + 1 < a.size + b.size + 1; omega)
  rw [show i + 1 + a.size + j = i + (a.size + j + 1) by omega, this]
  show (flatT a (i + 1) ++ flatT b (i + 1 + a.size))[a.size + j]? = _
  rw [List.getElem?_append_right (by rw [flatT_len]; omega), flatT_len, Nat.add_sub_cancel_left]
theorem placed_lay {ns : List NdT} : ∀ (t : KT) (i : Nat), Placed ns t i → Lay ns t.sh i
 | .none, _, _ => trivial
 | .node r c a b, i, h => by
  obtain ⟨h1, h2, h3⟩ := placed_node h
  refine ⟨_, h1, ?_, ?_, placed_lay a _ h2, ?_⟩
  ·rw [sh_size]
  ·rw [sh_size, sh_size]
  ·rw [sh_size]; exact placed_lay b _ h3
/-- the rows of a part -/
theorem placed_rows {ns : List NdT} : ∀ (t : KT) (i : Nat), Placed ns t i → ∀ j, j < t.size → ∃ x, ns[i + j]? = some x ∧ ∃ r ∈ t.rows, x.r = (r : Nat)
 | .none, _, _, j, hj => absurd hj (Nat.not_lt_zero _)
 | .node r c a b, i, h, j, hj => by
  obtain ⟨h1, h2, h3⟩ := placed_node h
  have hs : (KT.node r c a b).size = a.size + b.size + 1 := rfl
  rw [hs] at hj
  cases j with
  | zero => exact ⟨_, h1, r, List.mem_cons_self, rfl⟩
  | succ j =>
   rcases Nat.lt_or_ge j a.size with hja | hja
   ·obtain ⟨x, hx, q, hq, e⟩ := placed_rows a (i + 1) h2 j hja
    exact ⟨x, by rw [show i + (j + 1) = i + 1 + j by omega]; exact hx, q, List.mem_cons_of_mem _ (List.mem_append_left _ hq), e⟩
   ·obtain ⟨x, hx, q, hq, e⟩ := placed_rows b (i + 1 + a.size) h3 (j - a.size) (by omega)
    exact ⟨x, by rw [show i + (j + 1) = i + 1 + a.size + (j - a.size) by omega]; exact hx, q, List.mem_cons_of_mem _ (List.mem_append_right _ hq), e⟩
theorem cmpQ_le {x y : Rat} (h : x ≤ y) : decide (0 < cmpQ x y) = false := decide_eq_false fun h1 => by
 unfold cmpQ at h1
 split at h1
 ·omega
 ·split at h1
  ·rename_i h2 h3
   exact absurd h (Rat.not_le.2 h3)
  ·omega
theorem cmpQ_ge {x y : Rat} (h : y ≤ x) : decide (cmpQ x y < 0) = false := decide_eq_false fun h1 => absurd h (Rat.not_le.2 (cmpQ_neg.1 h1))
/-- no node of a part stands on a wrong side -/
theorem wrong_flat {X : List (List Rat)} {ns : List NdT} : ∀ (t : KT) (i : Nat), Placed ns t i → t.ok X → ∀ k, i ≤ k → k < i + t.size → wrongI X ns k = false
 | .none, i, _, _, k, h1, h2 => by simp [KT.size] at h2; omega
 | .node r c a b, i, h, ⟨ha, hb, hla, hlb⟩, k, h1, h2 => by
  obtain ⟨g1, g2, g3⟩ := placed_node h
  have hs : (KT.node r c a b).size = a.size + b.size + 1 := rfl
  rw [hs] at h2
  rcases Nat.eq_or_lt_of_le h1 with rfl | h1
  ·have hlay := placed_lay _ _ h
   have hz : (KT.node r c a b).sh.size = a.size + b.size + 1 := sh_size _
   have hln := lay_len _ _ hlay (by omega)
   have hp : partN ns i = some (i + (a.size + b.size + 1), (KT.node r c a b).sh.deep) := by
    have := lay_endF ns _ i (ns.length + 1) (by omega) hlay (by omega)
    rw [hz] at this
    exact this
   refine wrong_no fun j hj1 hj2 => ?_
   rw [hp] at hj2
   have hj2 : j < i + (a.size + b.size + 1) := hj2
   have hr := rightN_at g1
   rw [hp] at hr
   have hr : rightN ns i = if (if b.size = 0 then (0 : Int) else (i + 1 + a.size : Nat)) = 0 then ((i + (a.size + b.size + 1) : Nat) : Int) else (if b.size = 0 then 0 else (i + 1 + a.size : Nat)) := hr
   rcases Nat.lt_or_ge j (i + 1 + a.size) with hja | hja
   ·obtain ⟨x, hx, q, hq, e⟩ := placed_rows a (i + 1) g2 (j - (i + 1)) (by omega)
    rw [show i + 1 + (j - (i + 1)) = j by omega] at hx
    rw [wrongN_at g1 hx]
    have hle := hla q hq
    have h3 : rightN ns i = ((i + 1 + a.size : Nat) : Int) := by
     rw [hr]
     by_cases hb0 : b.size = 0
     ·simp [hb0]; omega
     ·rw [if_neg hb0, if_neg (by omega)]
    have d1 : decide (rightN ns i ≤ (j : Int)) = false := decide_eq_false (by omega)
    rw [d1, e]
    simp only [Int.toNat_natCast]
    rw [cmpQ_le hle]
    simp
   ·have hb0 : b.size ≠ 0 := by omega
    obtain ⟨x, hx, q, hq, e⟩ := placed_rows b (i + 1 + a.size) g3 (j - (i + 1 + a.size)) (by omega)
    rw [show i + 1 + a.size + (j - (i + 1 + a.size)) = j by omega] at hx
    rw [wrongN_at g1 hx]
    have hle := hlb q hq
    have h3 : rightN ns i = ((i + 1 + a.size : Nat) : Int) := by
     rw [hr, if_neg hb0, if_neg (by omega)]
    have d1 : decide ((j : Int) < rightN ns i) = false := decide_eq_false (by omega)
    rw [d1, e]
    simp only [Int.toNat_natCast]
    rw [cmpQ_ge hle]
    simp
  ·rcases Nat.lt_or_ge k (i + 1 + a.size) with h4 | h4
   ·exact wrong_flat a (i + 1) g2 ha k (by omega) (by omega)
   ·exact wrong_flat b (i + 1 + a.size) g3 hb k (by omega) (by omega)
theorem flat_rows : ∀ (t : KT) (i : Nat), (flatT t i).map (·.r) = t.rows.map fun (r : Nat) => (r : Int)
 | .none, _ => rfl
 | .node r c a b, i => by
  show (_ :: (flatT a (i + 1) ++ flatT b (i + 1 + a.size))).map _ = (r :: (a.rows ++ b.rows)).map _
  simp [flat_rows a, flat_rows b]
theorem flat_cols {w : Nat} : ∀ (t : KT) (i : Nat), t.cols w → ∀ x ∈ flatT t i, 0 ≤ x.c ∧ x.c < (w : Int)
 | .none, _, _, x, hx => by cases hx
 | .node r c a b, i, ⟨hc, ha, hb⟩, x, hx => by
  have hx : x ∈ _ :: (flatT a (i + 1) ++ flatT b (i + 1 + a.size)) := hx
  rcases List.mem_cons.1 hx with rfl | hx
  ·exact ⟨Int.natCast_nonneg _, by show (c : Int) < w; omega⟩
  ·rcases List.mem_append.1 hx with hx | hx
   ·exact flat_cols a _ ha x hx
   ·exact flat_cols b _ hb x hx
/-- a tree with all rows, each once, each on its side, may be -/
theorem check_flat {X : List (List Rat)} {w : Nat} {t : KT} (hok : t.ok X) (hc : t.cols w) (hr : t.rows.Perm (List.range X.length)) (h0 : 0 < X.length) : checkN X w (flatT t 0) = 0 ∧ partN (flatT t 0) 0 = some (X.length, t.deep) := by
 have hpl : Placed (flatT t 0) t 0 := fun j _ => by rw [Nat.zero_add]
 have hrl : t.rows.length = t.size := by
  have h := congrArg List.length (flat_rows t 0)
  simp only [List.length_map, flatT_len] at h
  exact h.symm
 have hsz : t.size = X.length := by rw [← hrl, hr.length_eq, List.length_range]
 have hlen : (flatT t 0).length = X.length := by rw [flatT_len, hsz]
 have hlay := placed_lay _ _ hpl
 have hz := sh_size t
 have hp : partN (flatT t 0) 0 = some (X.length, t.deep) := by
  have := lay_endF (flatT t 0) t.sh 0 ((flatT t 0).length + 1) (by omega) hlay (by omega)
  rw [Nat.zero_add, hz, hsz, sh_deep] at this
  exact this
 have hnd : t.rows.Nodup := hr.nodup_iff.2 List.nodup_range
 refine ⟨checkN_ok hlen (fun h => ?_) (fun k hk => ?_) (fun i hi => ?_), hp⟩
 ·rw [hp] at h
  rcases h with h | h
  ·cases h
  ·exact h hlen.symm
 ·have hx := List.getElem?_eq_getElem hk
  rw [badN_at hx]
  have h1 := flat_cols t 0 hc _ (List.getElem_mem hk)
  have h2 : (flatT t 0)[k].r ∈ (flatT t 0).map (·.r) := List.mem_map_of_mem (f := fun x : NdT => x.r) (List.getElem_mem hk)
  rw [flat_rows] at h2
  obtain ⟨q, hq, e⟩ := List.mem_map.1 h2
  have hqn : q < X.length := List.mem_range.1 (hr.mem_iff.1 hq)
  have h3 : seenN (flatT t 0) k (flatT t 0)[k].r = false := by
   unfold seenN
   rw [List.any_eq_false]
   intro y hy he
   have he := of_decide_eq_true he
   have hnd2 : ((flatT t 0).map (·.r)).Nodup := by
    rw [flat_rows]
    refine List.Pairwise.map _ (fun a b hab h => hab (Int.ofNat.inj h)) hnd
   obtain ⟨j, hj, rfl⟩ := List.getElem_of_mem hy
   rw [List.length_take] at hj
   rw [List.getElem_take] at he
   have h4 := List.pairwise_iff_getElem.1 hnd2 j k (by simp; omega) (by simpa using hk) (by omega)
   simp only [List.getElem_map] at h4
   exact h4 he
  rw [h3, ← e]
  simp
  omega
 ·exact wrong_flat t 0 hpl hok i (Nat.zero_le _) (by rw [Nat.zero_add, ← flatT_len t 0]; exact hi)
/-- what holds of a tree that was built -/
theorem built_ok (X : List (List Rat)) (w : Nat) (hw : 0 < w) (h0 : 0 < X.length) : checkN X w (flatT (growT X w (List.range X.length) 0) 0) = 0 ∧ partN (flatT (growT X w (List.range X.length) 0) 0) 0 = some (X.length, (growT X w (List.range X.length) 0).deep) ∧ 2 ^ (growT X w (List.range X.length) 0).deep ≤ X.length := by
 obtain ⟨h1, h2⟩ := growT_ok X w hw X.length (List.range X.length) 0 List.length_range hw
 obtain ⟨h3, h4⟩ := check_flat h1 h2 (growT_rows X w X.length (List.range X.length) 0 List.length_range) h0
 exact ⟨h3, h4, growT_deep X w X.length (List.range X.length) 0 List.length_range h0⟩
end Go.Proofs.YtjmopgepnndckaaGreatDoor
namespace Go.Proofs.YtjmopgepnndckaaGreatDoor
open Go Go.RowKit
theorem rowsOk_of {N L : Nat} {rs rs' : List Rq} (h : RowsOk N L rs) (he : rs'.map (·.2.2) = rs.map (·.2.2)) : RowsOk N L rs' := by
 refine ⟨by have := congrArg List.length he; rw [List.length_map, List.length_map] at this; rw [this]; exact h.1, fun r hr => ?_⟩
 have h1 : r.2.2 ∈ rs.map (·.2.2) := by rw [← he]; exact List.mem_map_of_mem (f := fun r : Rq => r.2.2) hr
 obtain ⟨z, hz, e⟩ := List.mem_map.1 h1
 rw [← e]
 exact h.2 z hz
end Go.Proofs.YtjmopgepnndckaaGreatDoor
namespace Go.Proofs.YtjmopgepnndckaaGreatDoor
open Go Go.RowKit
theorem TreeO.parts {B n : Nat} {R N : Ax} {rs : List Rq} {ns : List NdT} {W : World} (h : TreeO B n R N rs ns W) : Lrq W R.1 rs ∧ Le ndL 4 W N.1 ns := by
 obtain ⟨A, c, e, -, hL, -⟩ := own_lrq h.row h.rows
 obtain ⟨A2, c2, e2, -, hN, -⟩ := own_le (enc := ndL) (k := 4) (fun _ => rfl) (by omega) h.nodes
 cases e
 cases e2
 exact ⟨hL, hN⟩
/-- a block of another type is not a row's -/
theorem own_blk_ne {u : World} {B n b k : Nat} {e t : TypeId} {v : Value} {xs : List Value} {cs : Array Value} (h : u.ownsRow B e k v n xs) (hb : Blk u b t cs) (ht : e ≠ t) : v.ownBlock ≠ some b := fun e1 => by
 obtain ⟨_, h | ⟨g, cap, cur, rfl, _, hh, _⟩⟩ := h
 ·rw [h.1] at e1; cases e1
 ·have e2 : g = b := Option.some.inj e1
  subst e2
  have hb' : u.heap[g]? = _ := hb
  rw [hh] at hb'
  cases hb'
  exact ht rfl
theorem own_put_ne {u u' : World} {B n b k i : Nat} {e t : TypeId} {v : Value} {xs vs : List Value} {cs : Array Value} (h : u.ownsRow B e k v n xs) (hb : Blk u b t cs) (ht : e ≠ t) (hu : putAll u b i vs = u') : u'.ownsRow B e k v n xs := own_over h (own_blk_ne h hb ht) hu
theorem TreeO.put {B n b i : Nat} {R N : Ax} {rs : List Rq} {ns : List NdT} {W W' : World} {t : TypeId} {cs : Array Value} {vs : List Value} (h : TreeO B n R N rs ns W) (hb : Blk W b t cs) (h1 : 35 ≠ t) (h2 : 49 ≠ t) (h3 : 88 ≠ t) (hu : putAll W b i vs = W') : TreeO B n R N rs ns W' :=
 ⟨fun r hr => own_put_ne (h.rows r hr) hb h2 hu, own_put_ne h.row hb h1 hu, own_put_ne h.nodes hb h3 hu⟩
theorem own_rle {u : World} {B n : Nat} {N : Ax} {ns : List NdT} (h : u.ownsRow B 118 4 (.slice N.1 n N.2) n (ns.flatMap ndL)) : Le ndL 4 u N.1 ns := by
 obtain ⟨A2, c2, e2, -, hN, -⟩ := own_le (enc := ndL) (k := 4) (fun _ => rfl) (by omega) h
 cases e2
 exact hN
end Go.Proofs.YtjmopgepnndckaaGreatDoor
