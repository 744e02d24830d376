/-
  Contracts and laws: NearS NearRG Float2 NearRW NearRB NearPB NearPt NearPw NearDc NearPlain NearBw.
-/
import Derived.Test.YtjmopgepnndckaaGreatDoorO46
set_option linter.unusedSimpArgs false
set_option linter.unusedVariables false
namespace Go.Proofs.YtjmopgepnndckaaGreatDoor
open Go Go.RowKit
end Go.Proofs.YtjmopgepnndckaaGreatDoor
namespace Go.Proofs.YtjmopgepnndckaaGreatDoor
open Go Go.RowKit
theorem cmpQ_neg {x y : Rat} : (cmpQ x y < 0) ↔ x < y := by
 unfold cmpQ
 by_cases h1 : x < y
 ·simp [h1]
 ·by_cases h2 : y < x <;> simp [h1, h2]
/-- what is known in the midst of the document's grow -/
structure GrR (w1 : World) (S : Nat → Prop) (b99 gl B : Nat) (ls : List Int) (NA : Option Addr) (NC kk : Nat) (ns : List NdT) (u : World) : Prop where
 K : KepS S w1 u
 l : Li u (some ⟨gl, 0, none⟩) ls
 gu : gl < u.heap.size
 own : u.ownsRow B 118 4 (.slice NA kk NC) kk (ns.flatMap ndL)
 len : ns.length = kk
 n9 : nbk NA ≠ some b99
 gn : nbk NA ≠ some gl
theorem GrR.grow {w1 : World} {S : Nat → Prop} {b99 gl B : Nat} {ls : List Int} {NA : Option Addr} {NC kk : Nat} {ns : List NdT} {u u' : World} (h : GrR w1 S b99 gl B ls NA NC kk ns u) (hg : Grow u u') : GrR w1 S b99 gl B ls NA NC kk ns u' :=
 ⟨h.K.grow hg, h.l.grow hg, Nat.lt_of_lt_of_le h.gu hg.size, own_grow' h.own hg, h.len, h.n9, h.gn⟩
end Go.Proofs.YtjmopgepnndckaaGreatDoor
namespace Go.Proofs.YtjmopgepnndckaaGreatDoor
open Go.RowKit
section
variable {P : Program} {ops : Array Oper} {Q : Exit → Act → World → Prop} {L : Act → World → Prop}
end
section
variable {P : Program} {Q : Exit → Act → World → Prop}
end
end Go.Proofs.YtjmopgepnndckaaGreatDoor
namespace Go.Proofs.YtjmopgepnndckaaGreatDoor
open Go Go.RowKit
end Go.Proofs.YtjmopgepnndckaaGreatDoor
namespace Go.Proofs.YtjmopgepnndckaaGreatDoor
open Go Go.RowKit
end Go.Proofs.YtjmopgepnndckaaGreatDoor
namespace Go.Proofs.YtjmopgepnndckaaGreatDoor
open Go Go.RowKit
def KT.sh : KT → Sh
 | .none => .no
 | .node _ _ a b => .nd a.sh b.sh
theorem sh_size : ∀ t : KT, t.sh.size = t.size
 | .none => rfl
 | .node _ _ a b => by show a.sh.size + b.sh.size + 1 = a.size + b.size + 1; rw [sh_size a, sh_size b]
theorem sh_deep : ∀ t : KT, t.sh.deep = t.deep
 | .none => rfl
 | .node _ _ a b => by
  have ha := sh_deep a
  have hb := sh_deep b
  cases a <;> cases b <;> simp_all [KT.sh, Sh.deep, KT.deep]
/-- a tree's nodes lie in a list from number i on -/
def Placed (ns : List NdT) (t : KT) (i : Nat) : Prop := ∀ j, j < t.size → ns[i + j]? = (flatT t i)[j]?
theorem placed_node {ns : List NdT} {r c : Nat} {a b : KT} {i : Nat} (h : Placed ns (.node r c a b) i) : ns[i]? = some ⟨r, c, if a.size = 0 then 0 else (i + 1 : Nat), if b.size = 0 then 0 else (i + 1 + a.size : Nat)⟩ ∧ Placed ns a (i + 1) ∧ Placed ns b (i + 1 + a.size) := by
 refine ⟨?_, fun j hj => ?_, fun j hj => ?_⟩
 ·have := h 0 (Nat.succ_pos _)
  rw [Nat.add_zero] at this
  rw [this]
  rfl
 ·have := h (j + 1) (by show j + 1 < a.size + b.size + 1; omega)
  rw [show i + 1 + j = i + (j + 1) by omega, this]
  show (flatT a (i + 1) ++ flatT b (i + 1 + a.size))[j]? = _
  rw [List.getElem?_append_left (by rw [flatT_len]; exact hj)]
 ·have := h (a.size + j + 1) (by show a.size + j + 1 < a.size + b.size + 1; omega)
  rw [show i + 1 + a.size + j = i + (a.size + j + 1) by omega, this]
  show (flatT a (i + 1) ++ flatT b (i + 1 + a.size))[a.size + j]? = _
  rw [List.getElem?_append_right (by rw [flatT_len]; omega), flatT_len, Nat.add_sub_cancel_left]
theorem placed_lay {ns : List NdT} : ∀ (t : KT) (i : Nat), Placed ns t i → Lay ns t.sh i
 | .none, _, _ => trivial
 | .node r c a b, i, h => by
  obtain ⟨h1, h2, h3⟩ := placed_node h
  refine ⟨_, h1, ?_, ?_, placed_lay a _ h2, ?_⟩
  ·rw [sh_size]
  ·rw [sh_size, sh_size]
  ·rw [sh_size]; exact placed_lay b _ h3
/-- the rows of a part -/
theorem placed_rows {ns : List NdT} : ∀ (t : KT) (i : Nat), Placed ns t i → ∀ j, j < t.size → ∃ x, ns[i + j]? = some x ∧ ∃ r ∈ t.rows, x.r = (r : Nat)
 | .none, _, _, j, hj => absurd hj (Nat.not_lt_zero _)
 | .node r c a b, i, h, j, hj => by
  obtain ⟨h1, h2, h3⟩ := placed_node h
  have hs : (KT.node r c a b).size = a.size + b.size + 1 := rfl
  rw [hs] at hj
  cases j with
  | zero => exact ⟨_, h1, r, List.mem_cons_self, rfl⟩
  | succ j =>
   rcases Nat.lt_or_ge j a.size with hja | hja
   ·obtain ⟨x, hx, q, hq, e⟩ := placed_rows a (i + 1) h2 j hja
    exact ⟨x, by rw [show i + (j + 1) = i + 1 + j by omega]; exact hx, q, List.mem_cons_of_mem _ (List.mem_append_left _ hq), e⟩
   ·obtain ⟨x, hx, q, hq, e⟩ := placed_rows b (i + 1 + a.size) h3 (j - a.size) (by omega)
    exact ⟨x, by rw [show i + (j + 1) = i + 1 + a.size + (j - a.size) by omega]; exact hx, q, List.mem_cons_of_mem _ (List.mem_append_right _ hq), e⟩
theorem cmpQ_le {x y : Rat} (h : x ≤ y) : decide (0 < cmpQ x y) = false := decide_eq_false fun h1 => by
 unfold cmpQ at h1
 split at h1
 ·omega
 ·split at h1
  ·rename_i h2 h3
   exact absurd h (Rat.not_le.2 h3)
  ·omega
theorem cmpQ_ge {x y : Rat} (h : y ≤ x) : decide (cmpQ x y < 0) = false := decide_eq_false fun h1 => absurd h (Rat.not_le.2 (cmpQ_neg.1 h1))
/-- no node of a part stands on a wrong side -/
theorem wrong_flat {X : List (List Rat)} {ns : List NdT} : ∀ (t : KT) (i : Nat), Placed ns t i → t.ok X → ∀ k, i ≤ k → k < i + t.size → wrongI X ns k = false
 | .none, i, _, _, k, h1, h2 => by simp [KT.size] at h2; omega
 | .node r c a b, i, h, ⟨ha, hb, hla, hlb⟩, k, h1, h2 => by
  obtain ⟨g1, g2, g3⟩ := placed_node h
  have hs : (KT.node r c a b).size = a.size + b.size + 1 := rfl
  rw [hs] at h2
  rcases Nat.eq_or_lt_of_le h1 with rfl | h1
  ·have hlay := placed_lay _ _ h
   have hz : (KT.node r c a b).sh.size = a.size + b.size + 1 := sh_size _
   have hln := lay_len _ _ hlay (by omega)
   have hp : partN ns i = some (i + (a.size + b.size + 1), (KT.node r c a b).sh.deep) := by
    have := lay_endF ns _ i (ns.length + 1) (by omega) hlay (by omega)
    rw [hz] at this
    exact this
   refine wrong_no fun j hj1 hj2 => ?_
   rw [hp] at hj2
   have hj2 : j < i + (a.size + b.size + 1) := hj2
   have hr := rightN_at g1
   rw [hp] at hr
   have hr : rightN ns i = if (if b.size = 0 then (0 : Int) else (i + 1 + a.size : Nat)) = 0 then ((i + (a.size + b.size + 1) : Nat) : Int) else (if b.size = 0 then 0 else (i + 1 + a.size : Nat)) := hr
   rcases Nat.lt_or_ge j (i + 1 + a.size) with hja | hja
   ·obtain ⟨x, hx, q, hq, e⟩ := placed_rows a (i + 1) g2 (j - (i + 1)) (by omega)
    rw [show i + 1 + (j - (i + 1)) = j by omega] at hx
    rw [wrongN_at g1 hx]
    have hle := hla q hq
    have h3 : rightN ns i = ((i + 1 + a.size : Nat) : Int) := by
     rw [hr]
     by_cases hb0 : b.size = 0
     ·simp [hb0]; omega
     ·rw [if_neg hb0, if_neg (by omega)]
    have d1 : decide (rightN ns i ≤ (j : Int)) = false := decide_eq_false (by omega)
    rw [d1, e]
    simp only [Int.toNat_natCast]
    rw [cmpQ_le hle]
    simp
   ·have hb0 : b.size ≠ 0 := by omega
    obtain ⟨x, hx, q, hq, e⟩ := placed_rows b (i + 1 + a.size) g3 (j - (i + 1 + a.size)) (by omega)
    rw [show i + 1 + a.size + (j - (i + 1 + a.size)) = j by omega] at hx
    rw [wrongN_at g1 hx]
    have hle := hlb q hq
    have h3 : rightN ns i = ((i + 1 + a.size : Nat) : Int) := by
     rw [hr, if_neg hb0, if_neg (by omega)]
    have d1 : decide ((j : Int) < rightN ns i) = false := decide_eq_false (by omega)
    rw [d1, e]
    simp only [Int.toNat_natCast]
    rw [cmpQ_ge hle]
    simp
  ·rcases Nat.lt_or_ge k (i + 1 + a.size) with h4 | h4
   ·exact wrong_flat a (i + 1) g2 ha k (by omega) (by omega)
   ·exact wrong_flat b (i + 1 + a.size) g3 hb k (by omega) (by omega)
theorem flat_rows : ∀ (t : KT) (i : Nat), (flatT t i).map (·.r) = t.rows.map fun (r : Nat) => (r : Int)
 | .none, _ => rfl
 | .node r c a b, i => by
  show (_ :: (flatT a (i + 1) ++ flatT b (i + 1 + a.size))).map _ = (r :: (a.rows ++ b.rows)).map _
  simp [flat_rows a, flat_rows b]
theorem flat_cols {w : Nat} : ∀ (t : KT) (i : Nat), t.cols w → ∀ x ∈ flatT t i, 0 ≤ x.c ∧ x.c < (w : Int)
 | .none, _, _, x, hx => by cases hx
 | .node r c a b, i, ⟨hc, ha, hb⟩, x, hx => by
  have hx : x ∈ _ :: (flatT a (i + 1) ++ flatT b (i + 1 + a.size)) := hx
  rcases List.mem_cons.1 hx with rfl | hx
  ·exact ⟨Int.natCast_nonneg _, by show (c : Int) < w; omega⟩
  ·rcases List.mem_append.1 hx with hx | hx
   ·exact flat_cols a _ ha x hx
   ·exact flat_cols b _ hb x hx
/-- a tree with all rows, each once, each on its side, may be -/
theorem check_flat {X : List (List Rat)} {w : Nat} {t : KT} (hok : t.ok X) (hc : t.cols w) (hr : t.rows.Perm (List.range X.length)) (h0 : 0 < X.length) : checkN X w (flatT t 0) = 0 ∧ partN (flatT t 0) 0 = some (X.length, t.deep) := by
 have hpl : Placed (flatT t 0) t 0 := fun j _ => by rw [Nat.zero_add]
 have hrl : t.rows.length = t.size := by
  have h := congrArg List.length (flat_rows t 0)
  simp only [List.length_map, flatT_len] at h
  exact h.symm
 have hsz : t.size = X.length := by rw [← hrl, hr.length_eq, List.length_range]
 have hlen : (flatT t 0).length = X.length := by rw [flatT_len, hsz]
 have hlay := placed_lay _ _ hpl
 have hz := sh_size t
 have hp : partN (flatT t 0) 0 = some (X.length, t.deep) := by
  have := lay_endF (flatT t 0) t.sh 0 ((flatT t 0).length + 1) (by omega) hlay (by omega)
  rw [Nat.zero_add, hz, hsz, sh_deep] at this
  exact this
 have hnd : t.rows.Nodup := hr.nodup_iff.2 List.nodup_range
 refine ⟨checkN_ok hlen (fun h => ?_) (fun k hk => ?_) (fun i hi => ?_), hp⟩
 ·rw [hp] at h
  rcases h with h | h
  ·cases h
  ·exact h hlen.symm
 ·have hx := List.getElem?_eq_getElem hk
  rw [badN_at hx]
  have h1 := flat_cols t 0 hc _ (List.getElem_mem hk)
  have h2 : (flatT t 0)[k].r ∈ (flatT t 0).map (·.r) := List.mem_map_of_mem (f := fun x : NdT => x.r) (List.getElem_mem hk)
  rw [flat_rows] at h2
  obtain ⟨q, hq, e⟩ := List.mem_map.1 h2
  have hqn : q < X.length := List.mem_range.1 (hr.mem_iff.1 hq)
  have h3 : seenN (flatT t 0) k (flatT t 0)[k].r = false := by
   unfold seenN
   rw [List.any_eq_false]
   intro y hy he
   have he := of_decide_eq_true he
   have hnd2 : ((flatT t 0).map (·.r)).Nodup := by
    rw [flat_rows]
    refine List.Pairwise.map _ (fun a b hab h => hab (Int.ofNat.inj h)) hnd
   obtain ⟨j, hj, rfl⟩ := List.getElem_of_mem hy
   rw [List.length_take] at hj
   rw [List.getElem_take] at he
   have h4 := List.pairwise_iff_getElem.1 hnd2 j k (by simp; omega) (by simpa using hk) (by omega)
   simp only [List.getElem_map] at h4
   exact h4 he
  rw [h3, ← e]
  simp
  omega
 ·exact wrong_flat t 0 hpl hok i (Nat.zero_le _) (by rw [Nat.zero_add, ← flatT_len t 0]; exact hi)
/-- what holds of a tree that was built -/
theorem built_ok (X : List (List Rat)) (w : Nat) (hw : 0 < w) (h0 : 0 < X.length) : checkN X w (flatT (growT X w (List.range X.length) 0) 0) = 0 ∧ partN (flatT (growT X w (List.range X.length) 0) 0) 0 = some (X.length, (growT X w (List.range X.length) 0).deep) ∧ 2 ^ (growT X w (List.range X.length) 0).deep ≤ X.length := by
 obtain ⟨h1, h2⟩ := growT_ok X w hw X.length (List.range X.length) 0 List.length_range hw
 obtain ⟨h3, h4⟩ := check_flat h1 h2 (growT_rows X w X.length (List.range X.length) 0 List.length_range) h0
 exact ⟨h3, h4, growT_deep X w X.length (List.range X.length) 0 List.length_range h0⟩
end Go.Proofs.YtjmopgepnndckaaGreatDoor
namespace Go.Proofs.YtjmopgepnndckaaGreatDoor
open Go Go.RowKit
structure PartW (bw ge EC n m : Nat) (R N : Ax) (B : Nat) (far : Nat) (es : List Int) (W : World) : Prop where
 blk : Blk W bw 122 #[.slice R.1 n R.2, .slice N.1 m N.2, .slice (some ⟨ge, 0, none⟩) m EC, .int .i64 (far : Nat)]
 own : W.ownsRow B 3 1 (.slice (some ⟨ge, 0, none⟩) m EC) m (iv es)
theorem PartW.kep {bw ge EC n m : Nat} {R N : Ax} {B : Nat} {far : Nat} {es : List Int} {S : Nat → Prop} {W W' : World} (h : PartW bw ge EC n m R N B far es W) (hk : KepS S W W') (h1 : ¬ S bw) (h2 : ¬ S ge) : PartW bw ge EC n m R N B far es W' :=
 ⟨hk.blk h.blk h1, kep_own hk h.own (fun b hb => by have := Option.some.inj hb; subst this; exact h2)⟩
theorem PartW.grow {bw ge EC n m : Nat} {R N : Ax} {B : Nat} {far : Nat} {es : List Int} {W W' : World} (h : PartW bw ge EC n m R N B far es W) (hg : Grow W W') : PartW bw ge EC n m R N B far es W' := ⟨h.blk.grow hg, own_grow' h.own hg⟩
end Go.Proofs.YtjmopgepnndckaaGreatDoor
namespace Go.Proofs.YtjmopgepnndckaaGreatDoor
open Go Go.RowKit
theorem KepS.over {S : Nat → Prop} {w1 u u' : World} {b i : Nat} {vs : List Value} (h : KepS S w1 u) (hb : w1.heap.size ≤ b ∨ S b) (hu : putAll u b i vs = u') : KepS S w1 u' := by
 subst hu
 have h1 : KepS (fun k => k = b) u (putAll u b i vs) := putAll_kep (S := fun k => k = b) rfl vs i u
 exact ⟨h1.os.trans h.os, h1.tape.trans h.tape, h1.output.trans h.output, Nat.le_trans h.size h1.size, fun k hk hs => (h1.block k (Nat.lt_of_lt_of_le hk h.size) (fun e => hb.elim (fun h => by omega) (fun h => hs (e ▸ h)))).trans (h.block k hk hs)⟩
end Go.Proofs.YtjmopgepnndckaaGreatDoor
namespace Go.Proofs.YtjmopgepnndckaaGreatDoor
open Go Go.RowKit
end Go.Proofs.YtjmopgepnndckaaGreatDoor
namespace Go.Proofs.YtjmopgepnndckaaGreatDoor
open Go Go.RowKit
theorem best_mem {k : Nat} {l : List Ht} {x : Ht} (h : x ∈ best k l) : x ∈ l := (srt_perm l).mem_iff.1 (List.mem_of_mem_take h)
theorem rowsOk_of {N L : Nat} {rs rs' : List Rq} (h : RowsOk N L rs) (he : rs'.map (·.2.2) = rs.map (·.2.2)) : RowsOk N L rs' := by
 refine ⟨by have := congrArg List.length he; rw [List.length_map, List.length_map] at this; rw [this]; exact h.1, fun r hr => ?_⟩
 have h1 : r.2.2 ∈ rs.map (·.2.2) := by rw [← he]; exact List.mem_map_of_mem (f := fun r : Rq => r.2.2) hr
 obtain ⟨z, hz, e⟩ := List.mem_map.1 h1
 rw [← e]
 exact h.2 z hz
end Go.Proofs.YtjmopgepnndckaaGreatDoor
namespace Go.Proofs.YtjmopgepnndckaaGreatDoor
open Go Go.RowKit
theorem TreeO.parts {B n : Nat} {R N : Ax} {rs : List Rq} {ns : List NdT} {W : World} (h : TreeO B n R N rs ns W) : Lrq W R.1 rs ∧ Le ndL 4 W N.1 ns := by
 obtain ⟨A, c, e, -, hL, -⟩ := own_lrq h.row h.rows
 obtain ⟨A2, c2, e2, -, hN, -⟩ := own_le (enc := ndL) (k := 4) (fun _ => rfl) (by omega) h.nodes
 cases e
 cases e2
 exact ⟨hL, hN⟩
/-- a block of another type is not a row's -/
theorem own_blk_ne {u : World} {B n b k : Nat} {e t : TypeId} {v : Value} {xs : List Value} {cs : Array Value} (h : u.ownsRow B e k v n xs) (hb : Blk u b t cs) (ht : e ≠ t) : v.ownBlock ≠ some b := fun e1 => by
 obtain ⟨_, h | ⟨g, cap, cur, rfl, _, hh, _⟩⟩ := h
 ·rw [h.1] at e1; cases e1
 ·have e2 : g = b := Option.some.inj e1
  subst e2
  have hb' : u.heap[g]? = _ := hb
  rw [hh] at hb'
  cases hb'
  exact ht rfl
theorem own_put_ne {u u' : World} {B n b k i : Nat} {e t : TypeId} {v : Value} {xs vs : List Value} {cs : Array Value} (h : u.ownsRow B e k v n xs) (hb : Blk u b t cs) (ht : e ≠ t) (hu : putAll u b i vs = u') : u'.ownsRow B e k v n xs := own_over h (own_blk_ne h hb ht) hu
theorem TreeO.put {B n b i : Nat} {R N : Ax} {rs : List Rq} {ns : List NdT} {W W' : World} {t : TypeId} {cs : Array Value} {vs : List Value} (h : TreeO B n R N rs ns W) (hb : Blk W b t cs) (h1 : 35 ≠ t) (h2 : 49 ≠ t) (h3 : 88 ≠ t) (hu : putAll W b i vs = W') : TreeO B n R N rs ns W' :=
 ⟨fun r hr => own_put_ne (h.rows r hr) hb h2 hu, own_put_ne h.row hb h1 hu, own_put_ne h.nodes hb h3 hu⟩
end Go.Proofs.YtjmopgepnndckaaGreatDoor
