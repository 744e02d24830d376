/-
  Contracts and laws: Float2.
-/
import Derived.Test.YtjmopgepnndckaaGreatDoorS12
set_option linter.unusedSimpArgs false
set_option linter.unusedVariables false
namespace Go.Proofs.YtjmopgepnndckaaGreatDoor
open Go.RowKit
section
variable {P : Program} {ops : Array Oper} {Q : Exit → Act → World → Prop} {L : Act → World → Prop}
theorem set_true {listed : Array Bool} {pr : List Nat} (h : ∀ i ∈ pr, listed.getD i true = true) (i : Nat) : ∀ j ∈ pr, (listed.setIfInBounds i true).getD j true = true := fun j hj => by
 by_cases e : i = j
 ·subst e
  rcases Nat.lt_or_ge i listed.size with h' | h'
  ·simp [h']
  ·simp [h']
 ·rw [getD_set_ne true e]
  exact h j hj
theorem grow_soundP {B n g : Nat} {s0 fl pr : List Nat} (hfl : floatB ops n fl = true) (hsel : Region.noSelect ops = true) (hn : n ≤ ops.size) (hback : backB ops n s0 = true)
  (hT : ∀ listed, HeadInv .any ops n listed → ∀ i, i < n → i ∉ fl → i ∉ pr → listed.getD i true = false → ∀ t, n ≤ t → t ∉ Region.ready .any ops listed)
  (hL : ∀ listed a w, HeadInv .any ops n listed → (∀ i, i < n → listed.getD i true = true) → L a w → wpAny P .any ops (NoP Q) g listed a w) :
  ∀ (m : Nat) (s : List (Nat × Nat)) (listed : Array Bool) (tk : List Nat) (a : Act) (F : World → Prop) (w : World), s.length = m → (∀ i, i ∈ s.map (·.2) ↔ (i < n ∧ listed.getD i true = false)) → (s.map (·.2)).Nodup →
   HeadInv .any ops n listed → (∀ i ∈ pr, listed.getD i true = true) → pairB ops s = true → (∀ e ∈ s, 2 ≤ e.1 → ∀ o, ops[e.2]? = some o → AllocOp P ops o) → (∀ e ∈ s, e.2 ∈ fl → ¬ 0 < e.1) → (∀ w w', Grow w w' → F w → F w') → F w → (∀ w, F w → B ≤ w.heap.size ∧ ∀ b ∈ tk, b < w.heap.size) → OKs P ops L B (pickOps ops s) tk a F → wpAny P .any ops (NoP Q) (m + g) listed a w := by
 intro m
 induction m with
 | zero =>
  intro s listed tk a F w hlen hset _ inv _ _ _ _ _ hw _ h
  have hs : s = [] := List.eq_nil_of_length_eq_zero hlen
  subst hs
  rw [Nat.zero_add]
  refine hL listed a w inv (fun i hi => ?_) (h w hw)
  cases hl : listed.getD i true with
  | true => rfl
  | false => have := (hset i).2 ⟨hi, hl⟩; simp at this
 | succ m ih =>
  intro s listed tk a F w hlen hset hnd inv hpl hp hA hK hmono hw hFB h
  obtain ⟨i0, hi0n, hi0⟩ : ∃ i, i < n ∧ i ∈ Region.ready .any ops listed := by
   refine Classical.byContradiction fun hno => ?_
   have key : ∀ p i, i < n → listed.getD i true = false → s0.idxOf i = p → False := by
    intro p
    induction p using Nat.strongRecOn with
    | ind p ihp =>
     intro i hi hun hpos
     have hb := List.all_eq_true.1 hback i (List.mem_range.2 hi)
     have hio : ops[i]? = some ops[i] := by simp
     rw [hio] at hb
     simp only [Array.all_eq_true_iff_forall_mem, Bool.or_eq_true, Bool.not_eq_true', Bool.and_eq_true, decide_eq_true_eq] at hb
     refine hno ⟨i, hi, mem_ready.2 ⟨hun, ops[i], hio, fun e he hbi => ?_⟩⟩
     rcases hb e he with h1 | h1
     ·rw [h1] at hbi; cases hbi
     ·cases hl : listed.getD e.on false with
      | true => rfl
      | false =>
       have hlt : e.on < listed.size := by rw [inv.size]; omega
       exact (ihp (s0.idxOf e.on) (by omega) e.on h1.1 (getD_in hlt hl) rfl).elim
   cases s with
   | nil => simp at hlen
   | cons e s =>
    have he := (hset e.2).1 (by simp)
    exact key _ e.2 he.1 he.2 rfl
  have hne : Region.ready .any ops listed ≠ [] := fun h0 => by rw [h0] at hi0; cases hi0
  have bring : ∀ i, i < n → i ∈ Region.ready .any ops listed → ∃ k oi pre post, s = pre ++ (k, i) :: post ∧ ops[i]? = some oi ∧ (∀ e ∈ oi.after, Region.binds .any e = true → listed.getD e.on false = true) ∧ OKs P ops L B ((k, oi) :: pickOps ops (pre ++ post)) tk a F := by
   intro i hin hi
   have hun := (mem_ready.1 hi).1
   obtain ⟨_, oi, hoi, hall⟩ := mem_ready.1 hi
   have hmem := (hset i).2 ⟨hin, hun⟩
   obtain ⟨⟨k, i'⟩, hki, hii⟩ := List.mem_map.1 hmem
   simp only at hii
   subst hii
   obtain ⟨pre, post, rfl⟩ := List.append_of_mem hki
   have hsw : ∀ x ∈ pickOps ops pre, (∀ cs b, x.2.op ≠ .select cs b) ∧ swapB ops x (k, oi) = true := by
    rintro ⟨kx, ox⟩ hx
    obtain ⟨j, hj, hoj⟩ := mem_pickOps hx
    refine ⟨fun cs b => Region.noSelect_spec hsel j ox cs b hoj, ?_⟩
    rcases pairB_at hp (kx, j) hj with h1 | ⟨ox', oi', h1, h2, h3⟩
    ·exfalso
     have hl := waitB_listed inv _ i' j h1 (fun o ho e he hb => by
      have : o = oi := Option.some.inj (ho.symm.trans hoi)
      subst this
      exact hall e he hb)
     have hju := ((hset j).1 (by simp only [List.map_append, List.mem_append]; exact .inl (List.mem_map.2 ⟨(kx, j), hj, rfl⟩))).2
     rw [getD_both hju] at hl
     cases hl
    ·have e1 : ox' = ox := Option.some.inj (h1.symm.trans hoj)
     have e2 : oi' = oi := Option.some.inj (h2.symm.trans hoi)
     subst e1; subst e2
     exact h3
   refine ⟨k, oi, pre, post, rfl, hoi, hall, ?_⟩
   rw [pickOps_append] at h ⊢
   have hpk : pickOps ops ((k, i') :: post) = (k, oi) :: pickOps ops post := by simp [pickOps, hoi]
   rw [hpk] at h
   exact OKs.front (fun cs b => Region.noSelect_spec hsel i' oi cs b hoi) (pickOps ops pre) tk a F hsw h
  have goon : ∀ (i : Nat) (k : Nat) (pre post : List (Nat × Nat)), i < n → i ∈ Region.ready .any ops listed → s = pre ++ (k, i) :: post → ∀ (tk' : List Nat) (a' : Act) (F' : World → Prop) (w' : World), (∀ w w', Grow w w' → F' w → F' w') → F' w' → (∀ w, F' w → B ≤ w.heap.size ∧ ∀ b ∈ tk', b < w.heap.size) → OKs P ops L B (pickOps ops (pre ++ post)) tk' a' F' → wpAny P .any ops (NoP Q) (m + g) (listed.setIfInBounds i true) a' w' := by
   intro i' k pre post hin hi hs tk' a' F' w' hmono' hw' hFB' h'
   subst hs
   have hnd' : (pre.map (·.2)).Nodup ∧ (i' ∉ post.map (·.2) ∧ (post.map (·.2)).Nodup) ∧ ∀ x ∈ pre.map (·.2), x ≠ i' ∧ x ∉ post.map (·.2) := by
    simp only [List.map_append, List.map_cons, List.nodup_append, List.nodup_cons] at hnd
    refine ⟨hnd.1, hnd.2.1, fun x hx => ⟨fun e => hnd.2.2 x hx i' (by simp) e, fun hx' => hnd.2.2 x hx x (by simp only [List.mem_cons]; exact .inr hx') rfl⟩⟩
   refine ih (pre ++ post) (listed.setIfInBounds i' true) tk' a' F' w' (by simp at hlen ⊢; omega) (fun j => ?_) ?_ (inv.set hi hin) (set_true hpl i') (pairB_sub ?_ hp) (fun e he => hA e ?_) (fun e he => hK e ?_) hmono' hw' hFB' h'
   ·by_cases hji : i' = j
    ·subst hji
     constructor
     ·intro hj
      simp only [List.map_append, List.mem_append] at hj
      rcases hj with hj | hj
      ·exact absurd rfl (hnd'.2.2 _ hj).1
      ·exact absurd hj hnd'.2.1.1
     ·rintro ⟨_, hj⟩
      have hlt : i' < listed.size := by rw [inv.size]; omega
      simp [hlt] at hj
    ·rw [getD_set_ne true hji, ← hset j]
     simp only [List.map_append, List.map_cons, List.mem_append, List.mem_cons]
     constructor
     ·rintro (h1 | h1)
      ·exact .inl h1
      ·exact .inr (.inr h1)
     ·rintro (h1 | h1 | h1)
      ·exact .inl h1
      ·exact absurd h1.symm hji
      ·exact .inr h1
   ·rw [List.map_append, List.nodup_append]
    exact ⟨hnd'.1, hnd'.2.1.2, fun x hx y hy hxy => (hnd'.2.2 x hx).2 (hxy ▸ hy)⟩
   ·exact (List.Sublist.refl pre).append (List.sublist_cons_self _ _)
   ·simp only [List.mem_append, List.mem_cons] at he ⊢
    rcases he with he | he
    ·exact .inl he
    ·exact .inr (.inr he)
   ·simp only [List.mem_append, List.mem_cons] at he ⊢
    rcases he with he | he
    ·exact .inl he
    ·exact .inr (.inr he)
  rw [show m + 1 + g = (m + g) + 1 by omega]
  by_cases hex : ∃ i, i ∈ fl ∧ i ∈ Region.ready .any ops listed
  ·obtain ⟨i, hifl, hi⟩ := hex
   obtain ⟨hin, oi0, hoi0, hpure, hfree⟩ := floatB_spec hfl i hifl
   obtain ⟨k, oi, pre, post, hs, hoi, hall, hfr⟩ := bring i hin hi
   have : oi0 = oi := Option.some.inj (hoi0.symm.trans hoi)
   subst this
   have hk : k = 0 := by
    rcases Nat.eq_zero_or_pos k with h0 | h0
    ·exact h0
    ·exfalso
     exact hK (k, i) (by rw [hs]; simp) hifl (by simpa using h0)
   subst hk
   obtain ⟨v, hy, h'⟩ := hfr
   refine wpAny_first (v := v) hoi (Region.noSelect_spec hsel) (fun c a w h => h) (m + g) listed a w (fun j oj hj hne' hun' hno => ?_) hi (pure_yields hpure hy hw) ?_
   ·rcases hfree j oj hj hne' with h1 | h1 | h1
    ·obtain ⟨e, he, hb, hon⟩ := h1
     exact absurd hon (hno e he hb)
    ·exact h1
    ·exfalso
     have hl := waitB_listed inv _ i j h1 (fun o ho e he hb => by
      have : o = oi0 := Option.some.inj (ho.symm.trans hoi)
      subst this
      exact hall e he hb)
     rw [getD_both hun'] at hl
     cases hl
   ·exact goon i 0 pre post hin hi hs tk _ F w hmono hw hFB h'
  ·have hnf : i0 ∉ fl := fun hc => hex ⟨i0, hc, hi0⟩
   refine ⟨fun h0 => absurd h0 hne, fun i hi => ?_⟩
   have hin : i < n := by
    rcases Nat.lt_or_ge i n with h' | h'
    ·exact h'
    ·exact (hT listed inv i0 hi0n hnf (fun hc => by have h9 := hpl i0 hc; rw [(mem_ready.1 hi0).1] at h9; cases h9) (mem_ready.1 hi0).1 i h' hi).elim
   obtain ⟨k, oi, pre, post, hs, hoi, hall, hfr⟩ := bring i hin hi
   refine wpOp_mono (fun a' w' h3 => ?_) (OKs.step (Q := Q) hoi (fun hk => hA (k, i) (by rw [hs]; simp) hk oi hoi) hmono hw hFB hfr)
   obtain ⟨F', tk', hmono', hw', hFB', h'⟩ := h3
   exact goon i k pre post hin hi hs tk' a' F' w' hmono' hw' hFB' h'
/-- the operations of a prefix: what each waits for stands ahead of it in the prefix; all others wait for it or lie apart -/
def preB (ops : Array Oper) (n : Nat) : List Nat → List Nat → Bool
 | _, [] => true
 | done, i :: r => decide (i < n) && !done.contains i && (match ops[i]? with
   | some oi => (oi.after.all fun e => !Region.binds .any e || done.contains e.on) && (List.range ops.size).all fun j => decide (j = i) || done.contains j || (match ops[j]? with
    | some oj => oj.after.any (fun e => Region.binds .any e && decide (e.on = i)) || oi.apart ops oj
    | none => true)
   | none => false) && preB ops n (done ++ [i]) r
/-- what the prefix yields, in whatever world -/
def PreOK (P : Program) (ops : Array Oper) : List Nat → Act → (Act → Prop) → Prop
 | [], a, k => k a
 | i :: r, a, k => ∃ v o, ops[i]? = some o ∧ Yields P ops o v a ∧ PreOK P ops r (a.put o.dst v) k
theorem pre_sound {n fuel : Nat} (hsel : Region.noSelect ops = true) (hn : n ≤ ops.size) : ∀ (r done : List Nat) (listed : Array Bool) (a : Act) (w : World) (k : Act → Prop), preB ops n done r = true → HeadInv .any ops n listed → (∀ i ∈ done, i < ops.size) →
  (∀ i ∈ done, listed.getD i true = true) → (∀ i, i < ops.size → i ∉ done → listed.getD i true = false) → PreOK P ops r a k →
  (∀ a' listed', HeadInv .any ops n listed' → (∀ i ∈ done ++ r, listed'.getD i true = true) → (∀ i, i < ops.size → i ∉ done ++ r → listed'.getD i true = false) → k a' → wpAny P .any ops (NoP Q) fuel listed' a' w) → wpAny P .any ops (NoP Q) (r.length + fuel) listed a w
 | [], done, listed, a, w, k, _, inv, _, h1, h2, hk, hf => by
  rw [List.length_nil, Nat.zero_add]
  rw [List.append_nil] at hf
  exact hf a listed inv h1 h2 hk
 | i :: r, done, listed, a, w, k, hB, inv, hlt, h1, h2, ⟨v, oi, hoi, hy, hk⟩, hf => by
  unfold preB at hB
  simp only [Bool.and_eq_true, decide_eq_true_eq, Bool.not_eq_true', List.contains_eq_mem, decide_eq_false_iff_not] at hB
  obtain ⟨⟨⟨hin, hnd⟩, hm⟩, hr⟩ := hB
  rw [hoi] at hm
  simp only [Bool.and_eq_true, Array.all_eq_true_iff_forall_mem, List.all_eq_true, List.mem_range, Bool.or_eq_true, Bool.not_eq_true', decide_eq_true_eq] at hm
  obtain ⟨hdep, hap⟩ := hm
  have hready : i ∈ Region.ready .any ops listed := by
   refine mem_ready.2 ⟨h2 i (by omega) hnd, oi, hoi, fun e he hb => ?_⟩
   rcases hdep e he with h3 | h3
   ·rw [h3] at hb; cases hb
   ·have h4 := h1 e.on h3
    cases hl : listed.getD e.on false with
    | true => rfl
    | false =>
     rcases Nat.lt_or_ge e.on listed.size with h5 | h5
     ·rw [getD_in h5 hl] at h4; cases h4
     ·exfalso
      have h6 := hlt e.on h3
      have := inv.size
      omega
  rw [List.length_cons, show r.length + 1 + fuel = (r.length + fuel) + 1 by omega]
  refine wpAny_first (v := v) hoi (Region.noSelect_spec hsel) (fun c a w h => h) (r.length + fuel) listed a w (fun j oj hj hne hun hno => ?_) hready hy ?_
  ·have hjl : j < ops.size := (Array.getElem?_eq_some_iff.1 hj).1
   have h3 := hap j hjl
   rw [hj] at h3
   simp only [Bool.or_eq_true] at h3
   rcases h3 with (h3 | h3) | h3
   ·exact absurd h3 hne
   ·rw [h1 j h3] at hun; cases hun
   ·rcases h3 with h3 | h3
    ·obtain ⟨e, he, hb⟩ := Array.any_eq_true'.1 h3
     simp only [Bool.and_eq_true, decide_eq_true_eq] at hb
     exact absurd hb.2 (hno e he hb.1)
    ·exact h3
  ·refine pre_sound hsel hn r (done ++ [i]) _ _ w k hr (inv.set hready hin) (fun j hj => ?_) (fun j hj => ?_) (fun j hj hjn => ?_) hk (fun a' listed' g1 g2 g3 g4 => hf a' listed' g1 (by simpa using g2) (by simpa using g3) g4)
   ·rcases List.mem_append.1 hj with hj | hj
    ·exact hlt j hj
    ·have : j = i := by simpa using hj
     omega
   ·rcases List.mem_append.1 hj with hj | hj
    ·exact set_true h1 i j hj
    ·have : j = i := by simpa using hj
     subst this
     have : j < listed.size := by rw [inv.size]; omega
     simp [this]
   ·have hji : i ≠ j := fun e => hjn (by simp [e])
    rw [getD_set_ne true hji]
    exact h2 j hj (fun hc => hjn (by simp [hc]))
def growPB (ts : List TypeId) (l : List Oper) (n : Nat) (pr fl : List Nat) (s : List (Nat × Nat)) : Bool :=
 Region.noSelect l.toArray && decide (n < l.toArray.size) && sinkF l.toArray n (fl ++ pr) && Region.chainB .any l.toArray n && setB (pr ++ s.map (·.2)) n && pairB l.toArray s && backB l.toArray n (pr ++ s.map (·.2)) &&
  Region.seqB .any l.toArray (l.toArray.size - n) n (headEnd n l.toArray.size) && allocB ts l.toArray s && floatB l.toArray n fl && (s.all fun e => !fl.contains e.2 || decide (e.1 = 0)) && preB l.toArray n [] pr
theorem wp_region_growP {id : Nat} {a : Act} {w : World} {l : List Oper} {ts : List TypeId} (hts : ∀ t ∈ ts, AllocT P t) (n : Nat) (pr fl : List Nat) (s : List (Nat × Nat)) (F : World → Prop) (hm : P.follows .mixedOrders = true) (hB : growPB ts l n pr fl s = true)
  (hmono : ∀ w w', Grow w w' → F w → F w') (hF : F w) (h : PreOK P l.toArray pr a fun a' => OKs P l.toArray (fun a' w' => wpList P l.toArray (NoP Q) (l.drop n) a' w') w.heap.size (pickOps l.toArray s) [] a' (fun u => Grow w u ∧ F u)) : (Code.region id l.toArray true).wp P Q a w := by
 simp only [growPB, setB, Bool.and_eq_true, decide_eq_true_eq, List.all_eq_true, List.mem_range, List.contains_iff_mem] at hB
 obtain ⟨⟨⟨⟨⟨⟨⟨⟨⟨⟨⟨hsel, hn⟩, hs⟩, hc⟩, ⟨⟨hset1, hset2⟩, hnd⟩⟩, hpair⟩, hback⟩, hseq⟩, hall⟩, hfl⟩, hk⟩, hpre⟩ := hB
 have hdl : (l.drop n).length = l.toArray.size - n := by simp
 have inv0 : HeadInv .any l.toArray n (Array.replicate l.toArray.size false) :=
  ⟨by simp, fun j oj _ hl => (by rw [getD_replicate_false] at hl; cases hl), fun t _ ht => getD_in (by simpa using ht) (getD_replicate_false _ _)⟩
 have hlen : (pr ++ s.map (·.2)).length = n := by
  have h1 : (pr ++ s.map (·.2)).Perm (List.range n) := (List.perm_ext_iff_of_nodup hnd List.nodup_range).2 fun i => ⟨fun hi => List.mem_range.2 (hset2 i hi), fun hi => hset1 i (List.mem_range.1 hi)⟩
  simpa using h1.length_eq
 rw [List.length_append, List.length_map] at hlen
 obtain ⟨hnd1, hnd2, hnd3⟩ := List.nodup_append.1 hnd
 refine Code.wp_mono NoP.up (wp_region_any hm ?_)
 have H := pre_sound (P := P) (Q := Q) (n := n) (fuel := s.length + (l.toArray.size - n)) hsel (Nat.le_of_lt hn) pr [] (Array.replicate l.toArray.size false) a w.drew _ hpre inv0 (fun i hi => by cases hi) (fun i hi => by cases hi) (fun i hi _ => getD_in (by simpa using hi) (getD_replicate_false _ _)) h
  (fun a1 listed inv h1 h2 hok => by
   rw [List.nil_append] at h1 h2
   refine grow_soundP (P := P) (Q := Q) (B := w.heap.size) (pr := pr) (L := fun a' w' => wpList P l.toArray (NoP Q) (l.drop n) a' w') (g := l.toArray.size - n) hfl hsel (Nat.le_of_lt hn) hback (fun listed inv i hi hf hp hun t ht => tail_waitsF hs hc hn inv (n - i) i rfl hi (fun hm => (List.mem_append.1 hm).elim hf hp) hun t ht)
    (fun listed a' w' inv hall hK => ?_)
    s.length s listed [] a1 (fun u => Grow w u ∧ F u) w.drew rfl (fun i => ⟨fun hi => ?_, fun hi => ?_⟩) hnd2 inv h1 hpair (allocOp_of hts hall) (fun e he hf => ?_) (fun u u' hu hh => ⟨hh.1.trans hu, hmono u u' hu hh.2⟩) ⟨Grow.drew w, hmono _ _ (Grow.drew w) hF⟩ (fun u hu => ⟨hu.1.size, fun b hb => by cases hb⟩) hok
   ·have hl : listed = headEnd n l.toArray.size := by
     refine Array.ext (by simp [headEnd, inv.size]) fun i h1 h2 => ?_
     have hi : i < l.toArray.size := by rw [← inv.size]; exact h1
     simp only [headEnd, Array.getElem_ofFn]
     by_cases hin : i < n
     ·have := hall i hin
      simpa [h1, hin] using this
     ·have := inv.tail i (by omega) hi
      simpa [h1, hin] using this
    have := wpAny_of_seq (md := .any) (Q' := NoP Q) (l.drop n) n listed a' w' (fun j => by simp [List.getElem?_drop]) (by rw [hdl, hl]; exact hseq) hK
    rwa [hdl] at this
   ·have hin := hset2 i (List.mem_append.2 (.inr hi))
    exact ⟨hin, h2 i (by omega) (fun hp => hnd3 i hp i hi rfl)⟩
   ·rcases List.mem_append.1 (hset1 i hi.1) with h3 | h3
    ·have := h1 i h3
     rw [hi.2] at this
     cases this
    ·exact h3
   ·have h3 := hk e he
    simp only [Bool.or_eq_true, Bool.not_eq_true', List.contains_eq_mem, decide_eq_false_iff_not, decide_eq_true_eq] at h3
    rcases h3 with h3 | h3
    ·exact absurd hf h3
    ·omega)
 rw [show pr.length + (s.length + (l.toArray.size - n)) = l.toArray.size by omega] at H
 exact H
end
section
variable {P : Program} {Q : Exit → Act → World → Prop}
/-- the law over boxes, with a prefix of operations that look at no memory -/
theorem wp_rp {id : Nat} {a : Act} {w u : World} {l tl : List Oper} {ts : List TypeId} {bl : List (Nat × TypeId × Array Value)} (hts : ∀ t ∈ ts, AllocT P t) (n : Nat) (pr fl : List Nat) (s : List (Nat × Nat)) (hm : P.follows .mixedOrders = true) (hB : growPB ts l n pr fl s = true) (htl : l.drop n = tl)
  (G : World → Prop) (hGm : ∀ u u', Grow u u' → G u → G u') (hb : Bx u bl) (hG : Grow w u) (hg : G u)
  (h : ∀ K L : Act → World → Prop, (∀ a w, Q .normal a w → K a w) → (∀ a' w', wpList P l.toArray (NoK K) tl a' w' → L a' w') → PreOK P l.toArray pr a fun a' => OKs P l.toArray L u.heap.size (pickOps l.toArray s) [] a' (fun v => Grow u v ∧ Bx v bl ∧ Grow w v ∧ G v)) : (Code.region id l.toArray true).wp P Q a u :=
 wp_region_growP hts n pr fl s (fun v => Bx v bl ∧ Grow w v ∧ G v) hm hB (fun _ _ hg hh => ⟨hh.1.grow hg, hh.2.1.trans hg, hGm _ _ hg hh.2.2⟩) ⟨hb, hG, hg⟩ (h _ _ (fun _ _ h => h) fun _ _ h => by rw [NoK.eq, htl]; exact h)
/-- an operation of the prefix -/
theorem gpa {ops : Array Oper} {i : Nat} {r : List Nat} {a a' : Act} {k : Act → Prop} {o : Oper} {v : Value} (hr : PreOK P ops r a' k) (ho : ops[i]? = some o := by (simp only [List.getElem?_toArray, List.getElem?_cons_zero, List.getElem?_cons_succ]; exact rfl)) (hw : Region.wanted o (yielded ops a.tmps) = true := by exact rfl) (h : ∀ w, ∀ N : Value → Prop, N v → Look P o a w N := by (intro w N hN; go_simp; exact hN))
  (hp : a.put o.dst v = a' := by (simp only [Act.put, List.setIfInBounds_toArray, List.set_cons_succ, List.set_cons_zero]; exact rfl)) : PreOK P ops (i :: r) a k := by
 refine ⟨v, o, ho, .inl ⟨hw, fun w => ?_⟩, by rw [hp]; exact hr⟩
 have h1 := h w (fun u => u = v) rfl
 unfold Look at h1
 revert h1
 generalize (execOp a.eval o).run P w = res
 intro h1
 cases res with
 | ok n w'' =>
  cases n <;> simp only [LookUpon] at h1
  obtain ⟨rfl, rfl⟩ := h1
  rfl
 | halt x w'' => simp only [LookUpon] at h1
end
end Go.Proofs.YtjmopgepnndckaaGreatDoor
