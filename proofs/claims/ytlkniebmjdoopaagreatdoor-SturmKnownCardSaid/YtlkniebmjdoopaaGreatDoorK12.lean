/- Contracts and laws. -/
import Derived.Test.YtlkniebmjdoopaaGreatDoorK10
set_option linter.unusedSimpArgs false
set_option linter.unusedVariables false
namespace Go.Proofs.YtlkniebmjdoopaaGreatDoor
open Go.RowKit
section
variable {P : Program} {Q : Exit → Act → World → Prop} {n : Act → World → Prop} {a : Act} {w : World}
theorem D7 {id : Nat} (h : Q (.exit id) a w) : Exit.then n Q (.exit id) a w:=h
theorem B28 (h : Q .ret a w) : Exit.then n Q .ret a w:=h
theorem F0 {id : Nat} (h : Q .normal a w) : Exit.inBlock id Q .normal a w:=h
theorem B3Y {id : Nat} (h : Q .ret a w) : Exit.inBlock id Q .ret a w:=h
theorem G8 {id : Nat} (h : Q .normal a w) : Exit.inBlock id Q (.exit id) a w:=by
 show (if id = id then Q .normal a w else _)
 rw [if_pos rfl];exact h
theorem B0Q {id j : Nat} (hj : j ≠ id) (h : Q (.exit j) a w) : Exit.inBlock id Q (.exit j) a w:=by
 show (if j = id then _ else Q (.exit j) a w)
 rw [if_neg hj];exact h
theorem B2U {fn : Func} {R : Ending → World → Prop} (hd : a.defers = []) (h : ∀ N : Value → Prop,(∀ v,R (.returned v) w → N v) → A22 w N ((results fn a.tmps).run P w)) : bodyPost P fn R .ret a w:=by
 have h1:=h (fun v=>R (.returned v) w) (fun v hv=>hv)
 revert h1
 cases hres : (results fn a.tmps).run P w with
 | ok v w' =>
  rintro ⟨rfl,hv⟩
  exact bodyPost_ret hres hd hv
 | halt x w'=>exact fun h=>(h : False).elim
end
def BIG : Nat:=1099511627520
theorem K9 : BIG ≤ 1099511627776:=by decide
theorem A45 : 64 ≤ BIG:=by decide
theorem M7 {a : Nat} (h : bl a ≤ BIG) : bl a ≤ 1099511627776:=Nat.le_trans h K9
section
variable {P : Program} {ops : Array Oper} {Q : Exit → Act → World → Prop} {L : Act → World → Prop}
def A5l (o : Oper) : Bool:=match o.op with
 | .extract _ _=>true
 | .move _=>true
 | _=>false
theorem B4V {F : World → Prop} {o : Oper} {v : Value} {a : Act} {w : World} (hp : A5l o = true) (hy : YieldsIf P ops F o v a) (hw : F w) : Yields P ops o v a:=by
 refine hy.imp (fun ⟨h1,h2⟩=>⟨h1,fun w'=>?_⟩) id
 have h3:=h2 w hw
 obtain ⟨d,op,ty,pos,af,gd⟩:=o
 cases op <;> first | (exact absurd hp Bool.false_ne_true) | skip
 ·simp only [execOp,go_sem] at h3 ⊢
  injection h3 with h3
  rw [h3]
  rfl
 ·rename_i x i _
  change (Sem.run P (Functor.map Next.value (Instr.extract (a.eval x) i)) w) = _ at h3
  show (Sem.run P (Functor.map Next.value (Instr.extract (a.eval x) i)) w') = _
  generalize a.eval x = t at h3 ⊢
  unfold Instr.extract at h3 ⊢
  revert h3
  split
  ·split
   ·intro h3
    injection h3 with h3
    rw [← h3]
    rfl
   ·intro h3
    cases h3
  ·intro h3
   cases h3
def A5J (ops : Array Oper) (n : Nat) (fl : List Nat) : Bool:=fl.all fun i=>decide (i < n) && (match ops[i]? with
 | some oi=>A5l oi && (List.range ops.size).all fun j=>decide (j = i) || (match ops[j]? with
  | some oj=>oj.after.any (fun e=>Region.binds .any e && decide (e.on = i)) || oi.apart ops oj || A0R ops ops.size i j
  | none=>true)
 | none=>false)
theorem B5I {n : Nat} {fl : List Nat} (h : A5J ops n fl = true) (i : Nat) (hi : i ∈ fl) : i < n ∧ ∃ oi,ops[i]? = some oi ∧ A5l oi = true ∧ ∀ j oj,ops[j]? = some oj → j ≠ i →
  (∃ e ∈ oj.after,Region.binds .any e = true ∧ e.on = i) ∨ oi.apart ops oj = true ∨ A0R ops ops.size i j = true:=by
 have h1:=List.all_eq_true.1 h i hi
 simp only [Bool.and_eq_true,decide_eq_true_eq] at h1
 obtain ⟨h1,h2⟩:=h1
 refine ⟨h1,?_⟩
 cases ho : ops[i]? with
 | none=>rw [ho] at h2;cases h2
 | some oi =>
  rw [ho] at h2
  simp only [Bool.and_eq_true,List.all_eq_true,List.mem_range] at h2
  refine ⟨oi,rfl,h2.1,fun j oj hj hne=>?_⟩
  have h3:=h2.2 j (Array.getElem?_eq_some_iff.1 hj).1
  rw [hj] at h3
  simp only [Bool.or_eq_true,decide_eq_true_eq,hne,false_or] at h3
  rcases h3 with (h3 | h3) | h3
  ·obtain ⟨e,he,hb⟩:=Array.any_eq_true'.1 h3
   simp only [Bool.and_eq_true,decide_eq_true_eq] at hb
   exact .inl ⟨e,he,hb.1,hb.2⟩
  ·exact .inr (.inl h3)
  ·exact .inr (.inr h3)
def A8J (ops : Array Oper) (n : Nat) (fl : List Nat) : Bool:=(List.range n).all fun i=>fl.contains i || (List.range (n + 1)).any fun j=>decide (i < j) && !fl.contains j && Region.waitsFor .any ops j i
theorem A9o {n : Nat} {fl : List Nat} {listed : Array Bool} (hs : A8J ops n fl = true) (hc : Region.chainB .any ops n = true) (hn : n < ops.size) (inv : HeadInv .any ops n listed) :
  ∀ (d i : Nat),n - i = d → i < n → i ∉ fl → listed.getD i true = false → ∀ t,n ≤ t → t ∉ Region.ready .any ops listed:=by
 intro d
 induction d using Nat.strongRecOn with
 | _ d ih =>
  intro i hd hi hfl hun t ht hr
  obtain ⟨_,ot,hot,hall⟩:=mem_ready.1 hr
  have htlt : t < ops.size:=(Array.getElem?_eq_some_iff.1 hot).1
  by_cases htn : t = n
  ·subst htn
   have h1:=List.all_eq_true.1 hs i (List.mem_range.2 hi)
   simp only [Bool.or_eq_true,List.contains_iff_mem,hfl,false_or] at h1
   obtain ⟨j,hj,hj2⟩:=List.any_eq_true.1 h1
   simp only [Bool.and_eq_true,decide_eq_true_eq,Bool.not_eq_true',List.contains_eq_mem,decide_eq_false_iff_not] at hj2
   obtain ⟨oj,hoj,e,he,hb,hon⟩:=Region.waitsFor_spec hj2.2
   have hjle : j ≤ t:=by have := List.mem_range.1 hj;omega
   by_cases hjt : j = t
   ·subst hjt
    have : oj = ot:=Option.some.inj (hoj.symm.trans hot)
    subst this
    have h2:=hall e he hb
    rw [hon,getD_both hun] at h2
    cases h2
   ·cases hl : listed.getD j false with
    | true =>
     have h2:=inv.closed j oj hoj hl e he hb
     rw [hon,getD_both hun] at h2
     cases h2
    | false =>
     have hjs : j < listed.size:=by rw [inv.size];omega
     exact ih (t - j) (by omega) j rfl (by omega) hj2.1.2 (getD_in hjs hl) t (Nat.le_refl _) hr
  ·have h1:=List.all_eq_true.1 hc t (List.mem_range.2 htlt)
   simp only [Bool.or_eq_true,decide_eq_true_eq] at h1
   rcases h1 with h1 | h1
   ·omega
   ·obtain ⟨o',ho',e,he,hb,hon⟩:=Region.waitsFor_spec h1
    have : o' = ot:=Option.some.inj (ho'.symm.trans hot)
    subst this
    have h2:=hall e he hb
    rw [hon,getD_both (inv.tail (t - 1) (by omega) (by omega))] at h2
    cases h2
theorem A96 {B n g : Nat} {s0 fl : List Nat} (hfl : A5J ops n fl = true) (hsel : Region.noSelect ops = true) (hn : n ≤ ops.size) (hback : A4J ops n s0 = true)
  (hT : ∀ listed,HeadInv .any ops n listed → ∀ i,i < n → i ∉ fl → listed.getD i true = false → ∀ t,n ≤ t → t ∉ Region.ready .any ops listed)
  (hL : ∀ listed a w,HeadInv .any ops n listed → (∀ i,i < n → listed.getD i true = true) → L a w → wpAny P .any ops (NoP Q) g listed a w) :
  ∀ (m : Nat) (s : List (Nat × Nat)) (listed : Array Bool) (tk : List Nat) (a : Act) (F : World → Prop) (w : World),s.length = m → (∀ i,i ∈ s.map (·.2) ↔ (i < n ∧ listed.getD i true = false)) → (s.map (·.2)).Nodup →
   HeadInv .any ops n listed → U5 ops s = true → (∀ e ∈ s,2 ≤ e.1 → ∀ o,ops[e.2]? = some o → A2F P ops o) → (∀ e ∈ s,e.2 ∈ fl → ¬ 0 < e.1) → (∀ w w',A3 w w' → F w → F w') → F w → (∀ w,F w → B ≤ w.heap.size ∧ ∀ b ∈ tk,b < w.heap.size) → OKs P ops L B (E8 ops s) tk a F → wpAny P .any ops (NoP Q) (m + g) listed a w:=by
 intro m
 induction m with
 | zero =>
  intro s listed tk a F w hlen hset _ inv _ _ _ _ hw _ h
  have hs : s = []:=List.eq_nil_of_length_eq_zero hlen
  subst hs
  rw [Nat.zero_add]
  refine hL listed a w inv (fun i hi=>?_) (h w hw)
  cases hl : listed.getD i true with
  | true=>rfl
  | false=>have := (hset i).2 ⟨hi,hl⟩;simp at this
 | succ m ih =>
  intro s listed tk a F w hlen hset hnd inv hp hA hK hmono hw hFB h
  obtain ⟨i0,hi0n,hi0⟩ : ∃ i,i < n ∧ i ∈ Region.ready .any ops listed:=by
   refine Classical.byContradiction fun hno=>?_
   have key : ∀ p i,i < n → listed.getD i true = false → s0.idxOf i = p → False:=by
    intro p
    induction p using Nat.strongRecOn with
    | ind p ihp =>
     intro i hi hun hpos
     have hb:=List.all_eq_true.1 hback i (List.mem_range.2 hi)
     have hio : ops[i]? = some ops[i]:=by simp
     rw [hio] at hb
     simp only [Array.all_eq_true_iff_forall_mem,Bool.or_eq_true,Bool.not_eq_true',Bool.and_eq_true,decide_eq_true_eq] at hb
     refine hno ⟨i,hi,mem_ready.2 ⟨hun,ops[i],hio,fun e he hbi=>?_⟩⟩
     rcases hb e he with h1 | h1
     ·rw [h1] at hbi;cases hbi
     ·cases hl : listed.getD e.on false with
      | true=>rfl
      | false =>
       have hlt : e.on < listed.size:=by rw [inv.size];omega
       exact (ihp (s0.idxOf e.on) (by omega) e.on h1.1 (getD_in hlt hl) rfl).elim
   cases s with
   | nil=>simp at hlen
   | cons e s =>
    have he:=(hset e.2).1 (by simp)
    exact key _ e.2 he.1 he.2 rfl
  have hne : Region.ready .any ops listed ≠ []:=fun h0=>by rw [h0] at hi0;cases hi0
  have bring : ∀ i,i < n → i ∈ Region.ready .any ops listed → ∃ k oi pre post,s = pre ++ (k,i) :: post ∧ ops[i]? = some oi ∧ (∀ e ∈ oi.after,Region.binds .any e = true → listed.getD e.on false = true) ∧ OKs P ops L B ((k,oi) :: E8 ops (pre ++ post)) tk a F:=by
   intro i hin hi
   have hun:=(mem_ready.1 hi).1
   obtain ⟨_,oi,hoi,hall⟩:=mem_ready.1 hi
   have hmem:=(hset i).2 ⟨hin,hun⟩
   obtain ⟨⟨k,i'⟩,hki,hii⟩:=List.mem_map.1 hmem
   simp only at hii
   subst hii
   obtain ⟨pre,post,rfl⟩:=List.append_of_mem hki
   have hsw : ∀ x ∈ E8 ops pre,(∀ cs b,x.2.op ≠ .select cs b) ∧ A1F ops x (k,oi) = true:=by
    rintro ⟨kx,ox⟩ hx
    obtain ⟨j,hj,hoj⟩:=A7W hx
    refine ⟨fun cs b=>Region.noSelect_spec hsel j ox cs b hoj,?_⟩
    rcases B0G hp (kx,j) hj with h1 | ⟨ox',oi',h1,h2,h3⟩
    ·exfalso
     have hl:=A4V inv _ i' j h1 (fun o ho e he hb=>by
      have : o = oi:=Option.some.inj (ho.symm.trans hoi)
      subst this
      exact hall e he hb)
     have hju:=((hset j).1 (by simp only [List.map_append,List.mem_append];exact .inl (List.mem_map.2 ⟨(kx,j),hj,rfl⟩))).2
     rw [getD_both hju] at hl
     cases hl
    ·have e1 : ox' = ox:=Option.some.inj (h1.symm.trans hoj)
     have e2 : oi' = oi:=Option.some.inj (h2.symm.trans hoi)
     subst e1;subst e2
     exact h3
   refine ⟨k,oi,pre,post,rfl,hoi,hall,?_⟩
   rw [A76] at h ⊢
   have hpk : E8 ops ((k,i') :: post) = (k,oi) :: E8 ops post:=by simp [E8,hoi]
   rw [hpk] at h
   exact OKs.front (fun cs b=>Region.noSelect_spec hsel i' oi cs b hoi) (E8 ops pre) tk a F hsw h
  have goon : ∀ (i : Nat) (k : Nat) (pre post : List (Nat × Nat)),i < n → i ∈ Region.ready .any ops listed → s = pre ++ (k,i) :: post → ∀ (tk' : List Nat) (a' : Act) (F' : World → Prop) (w' : World),(∀ w w',A3 w w' → F' w → F' w') → F' w' → (∀ w,F' w → B ≤ w.heap.size ∧ ∀ b ∈ tk',b < w.heap.size) → OKs P ops L B (E8 ops (pre ++ post)) tk' a' F' → wpAny P .any ops (NoP Q) (m + g) (listed.setIfInBounds i true) a' w':=by
   intro i' k pre post hin hi hs tk' a' F' w' hmono' hw' hFB' h'
   subst hs
   have hnd' : (pre.map (·.2)).Nodup ∧ (i' ∉ post.map (·.2) ∧ (post.map (·.2)).Nodup) ∧ ∀ x ∈ pre.map (·.2),x ≠ i' ∧ x ∉ post.map (·.2):=by
    simp only [List.map_append,List.map_cons,List.nodup_append,List.nodup_cons] at hnd
    refine ⟨hnd.1,hnd.2.1,fun x hx=>⟨fun e=>hnd.2.2 x hx i' (by simp) e,fun hx'=>hnd.2.2 x hx x (by simp only [List.mem_cons];exact .inr hx') rfl⟩⟩
   refine ih (pre ++ post) (listed.setIfInBounds i' true) tk' a' F' w' (by simp at hlen ⊢;omega) (fun j=>?_) ?_ (inv.set hi hin) (A8w ?_ hp) (fun e he=>hA e ?_) (fun e he=>hK e ?_) hmono' hw' hFB' h'
   ·by_cases hji : i' = j
    ·subst hji
     constructor
     ·intro hj
      simp only [List.map_append,List.mem_append] at hj
      rcases hj with hj | hj
      ·exact absurd rfl (hnd'.2.2 _ hj).1
      ·exact absurd hj hnd'.2.1.1
     ·rintro ⟨_,hj⟩
      have hlt : i' < listed.size:=by rw [inv.size];omega
      simp [hlt] at hj
    ·rw [getD_set_ne true hji,← hset j]
     simp only [List.map_append,List.map_cons,List.mem_append,List.mem_cons]
     constructor
     ·rintro (h1 | h1)
      ·exact .inl h1
      ·exact .inr (.inr h1)
     ·rintro (h1 | h1 | h1)
      ·exact .inl h1
      ·exact absurd h1.symm hji
      ·exact .inr h1
   ·rw [List.map_append,List.nodup_append]
    exact ⟨hnd'.1,hnd'.2.1.2,fun x hx y hy hxy=>(hnd'.2.2 x hx).2 (hxy ▸ hy)⟩
   ·exact (List.Sublist.refl pre).append (List.sublist_cons_self _ _)
   ·simp only [List.mem_append,List.mem_cons] at he ⊢
    rcases he with he | he
    ·exact .inl he
    ·exact .inr (.inr he)
   ·simp only [List.mem_append,List.mem_cons] at he ⊢
    rcases he with he | he
    ·exact .inl he
    ·exact .inr (.inr he)
  rw [show m + 1 + g = (m + g) + 1 by omega]
  by_cases hex : ∃ i,i ∈ fl ∧ i ∈ Region.ready .any ops listed
  ·obtain ⟨i,hifl,hi⟩:=hex
   obtain ⟨hin,oi0,hoi0,hpure,hfree⟩:=B5I hfl i hifl
   obtain ⟨k,oi,pre,post,hs,hoi,hall,hfr⟩:=bring i hin hi
   have : oi0 = oi:=Option.some.inj (hoi0.symm.trans hoi)
   subst this
   have hk : k = 0:=by
    rcases Nat.eq_zero_or_pos k with h0 | h0
    ·exact h0
    ·exfalso
     exact hK (k,i) (by rw [hs];simp) hifl (by simpa using h0)
   subst hk
   obtain ⟨v,hy,h'⟩:=hfr
   refine wpAny_first (v:=v) hoi (Region.noSelect_spec hsel) (fun c a w h=>h) (m + g) listed a w (fun j oj hj hne' hun' hno=>?_) hi (B4V hpure hy hw) ?_
   ·rcases hfree j oj hj hne' with h1 | h1 | h1
    ·obtain ⟨e,he,hb,hon⟩:=h1
     exact absurd hon (hno e he hb)
    ·exact h1
    ·exfalso
     have hl:=A4V inv _ i j h1 (fun o ho e he hb=>by
      have : o = oi0:=Option.some.inj (ho.symm.trans hoi)
      subst this
      exact hall e he hb)
     rw [getD_both hun'] at hl
     cases hl
   ·exact goon i 0 pre post hin hi hs tk _ F w hmono hw hFB h'
  ·have hnf : i0 ∉ fl:=fun hc=>hex ⟨i0,hc,hi0⟩
   refine ⟨fun h0=>absurd h0 hne,fun i hi=>?_⟩
   have hin : i < n:=by
    rcases Nat.lt_or_ge i n with h' | h'
    ·exact h'
    ·exact (hT listed inv i0 hi0n hnf (mem_ready.1 hi0).1 i h' hi).elim
   obtain ⟨k,oi,pre,post,hs,hoi,hall,hfr⟩:=bring i hin hi
   refine wpOp_mono (fun a' w' h3=>?_) (OKs.step (Q:=Q) hoi (fun hk=>hA (k,i) (by rw [hs];simp) hk oi hoi) hmono hw hFB hfr)
   obtain ⟨F',tk',hmono',hw',hFB',h'⟩:=h3
   exact goon i k pre post hin hi hs tk' a' F' w' hmono' hw' hFB' h'
def A1H (ts : List TypeId) (l : List Oper) (n : Nat) (fl : List Nat) (s : List (Nat × Nat)) : Bool :=
 Region.noSelect l.toArray && decide (n < l.toArray.size) && A8J l.toArray n fl && Region.chainB .any l.toArray n && A2k (s.map (·.2)) n && U5 l.toArray s && A4J l.toArray n (s.map (·.2)) &&
  Region.seqB .any l.toArray (l.toArray.size - n) n (V8 n l.toArray.size) && A3P ts l.toArray s && A5J l.toArray n fl && (s.all fun e=>!fl.contains e.2 || decide (e.1 = 0))
theorem B6J {id : Nat} {a : Act} {w : World} {l : List Oper} {ts : List TypeId} (hts : ∀ t ∈ ts,M8 P t) (n : Nat) (fl : List Nat) (s : List (Nat × Nat)) (F : World → Prop) (hm : P.follows .mixedOrders = true) (hB : A1H ts l n fl s = true)
  (hmono : ∀ w w',A3 w w' → F w → F w') (hF : F w) (h : OKs P l.toArray (fun a' w'=>wpList P l.toArray (NoP Q) (l.drop n) a' w') w.heap.size (E8 l.toArray s) [] a (fun u=>A3 w u ∧ F u)) : (Code.region id l.toArray true).wp P Q a w:=by
 simp only [A1H,A2k,Bool.and_eq_true,decide_eq_true_eq,List.all_eq_true,List.mem_range,List.contains_iff_mem] at hB
 obtain ⟨⟨⟨⟨⟨⟨⟨⟨⟨⟨hsel,hn⟩,hs⟩,hc⟩,⟨⟨hset1,hset2⟩,hnd⟩⟩,hpair⟩,hback⟩,hseq⟩,hall⟩,hfl⟩,hk⟩:=hB
 have hdl : (l.drop n).length = l.toArray.size - n:=by simp
 have inv0 : HeadInv .any l.toArray n (Array.replicate l.toArray.size false) :=
  ⟨by simp,fun j oj _ hl=>(by rw [getD_replicate_false] at hl;cases hl),fun t _ ht=>getD_in (by simpa using ht) (getD_replicate_false _ _)⟩
 have hun0 : ∀ i,i < n → (Array.replicate l.toArray.size false).getD i true = false:=fun i hi=>getD_in (by simp at hn ⊢;omega) (getD_replicate_false _ _)
 have hlen : s.length = n:=by
  have h1 : (s.map (·.2)).Perm (List.range n):=(List.perm_ext_iff_of_nodup hnd List.nodup_range).2 fun i=>⟨fun hi=>List.mem_range.2 (hset2 i hi),fun hi=>hset1 i (List.mem_range.1 hi)⟩
  simpa using h1.length_eq
 refine Code.wp_mono NoP.up (wp_region_any hm ?_)
 have H:=A96 (P:=P) (Q:=Q) (B:=w.heap.size) (L:=fun a' w'=>wpList P l.toArray (NoP Q) (l.drop n) a' w') (g:=l.toArray.size - n) hfl hsel (Nat.le_of_lt hn) hback (fun listed inv i hi hf hun t ht=>A9o hs hc hn inv (n - i) i rfl hi hf hun t ht)
  (fun listed a' w' inv hall hK=>by
   have hl : listed = V8 n l.toArray.size:=by
    refine Array.ext (by simp [V8,inv.size]) fun i h1 h2=>?_
    have hi : i < l.toArray.size:=by rw [← inv.size];exact h1
    simp only [V8,Array.getElem_ofFn]
    by_cases hin : i < n
    ·have := hall i hin
     simpa [h1,hin] using this
    ·have := inv.tail i (by omega) hi
     simpa [h1,hin] using this
   have := wpAny_of_seq (md:=.any) (Q':=NoP Q) (l.drop n) n listed a' w' (fun j=>by simp [List.getElem?_drop]) (by rw [hdl,hl];exact hseq) hK
   rwa [hdl] at this)
  n s (Array.replicate l.toArray.size false) [] a (fun u=>A3 w u ∧ F u) w.drew hlen (fun i=>⟨fun hi=>⟨hset2 i hi,hun0 i (hset2 i hi)⟩,fun hi=>hset1 i hi.1⟩) hnd inv0 hpair (A2L hts hall) (fun e he hf=>by
   have h1:=hk e he
   simp only [Bool.or_eq_true,Bool.not_eq_true',List.contains_eq_mem,decide_eq_false_iff_not,decide_eq_true_eq] at h1
   rcases h1 with h1 | h1
   ·exact absurd hf h1
   ·omega)
  (fun u u' hu hh=>⟨hh.1.trans hu,hmono u u' hu hh.2⟩) ⟨A3.drew w,hmono _ _ (A3.drew w) hF⟩ (fun u hu=>⟨hu.1.size,fun b hb=>by cases hb⟩) h
 rw [show n + (l.toArray.size - n) = l.toArray.size by omega] at H
 exact H
end
section
variable {P : Program} {Q : Exit → Act → World → Prop}
theorem OKs.imp {ops : Array Oper} {L L' : Act → World → Prop} {B : Nat} (hl : ∀ a w,L a w → L' a w) : ∀ (r : List (Nat × Oper)) (tk : List Nat) (a : Act) (F : World → Prop),OKs P ops L B r tk a F → OKs P ops L' B r tk a F
 | [],_,_,_,h=>fun w hw=>hl _ _ (h w hw)
 | (0,_) :: r,tk,_,F,⟨v,hy,h⟩=>⟨v,hy,OKs.imp hl r tk _ F h⟩
 | (1,_) :: r,tk,_,_,⟨X,f,T,hm,hs,h⟩=>⟨X,f,T,hm,hs,fun x=>OKs.imp hl r tk _ _ (h x)⟩
 | (_ + 2,_) :: r,_,_,_,h=>fun b hb hn=>OKs.imp hl r _ _ _ (h b hb hn)
def NoK (K : Act → World → Prop) : Exit → Act → World → Prop
 | .normal,a,w=>K a w
 | _,_,_=>False
theorem NoK.eq : NoP Q = NoK (Q .normal):=by
 funext e a w
 cases e <;> rfl
theorem NoK.norm {K : Act → World → Prop} {a : Act} {w : World} (h : K a w) : NoK K .normal a w:=h
theorem A5d {id : Nat} {a : Act} {w u : World} {l tl : List Oper} {ts : List TypeId} {bl : List (Nat × TypeId × Array Value)} (hts : ∀ t ∈ ts,M8 P t) (n : Nat) (fl : List Nat) (s : List (Nat × Nat)) (hm : P.follows .mixedOrders = true) (hB : A1H ts l n fl s = true) (htl : l.drop n = tl)
  (G : World → Prop) (hGm : ∀ u u',A3 u u' → G u → G u') (hb : Bx u bl) (hG : A3 w u) (hg : G u)
  (h : ∀ K L : Act → World → Prop,(∀ a w,Q .normal a w → K a w) → (∀ a' w',wpList P l.toArray (NoK K) tl a' w' → L a' w') → OKs P l.toArray L u.heap.size (E8 l.toArray s) [] a (fun v=>A3 u v ∧ Bx v bl ∧ A3 w v ∧ G v)) : (Code.region id l.toArray true).wp P Q a u :=
 B6J hts n fl s (fun v=>Bx v bl ∧ A3 w v ∧ G v) hm hB (fun _ _ hg hh=>⟨hh.1.grow hg,hh.2.1.trans hg,hGm _ _ hg hh.2.2⟩) ⟨hb,hG,hg⟩ (h _ _ (fun _ _ h=>h) fun _ _ h=>by rw [NoK.eq,htl];exact h)
theorem A03 {id : Nat} {a : Act} {w u : World} {l tl : List Oper} {ts : List TypeId} {bl : List (Nat × TypeId × Array Value)} (hts : ∀ t ∈ ts,M8 P t) (n : Nat) (ks : List Nat) (hB : Y7 ts l n ks = true) (htl : l.drop n = tl)
  (G : World → Prop) (hGm : ∀ u u',A3 u u' → G u → G u') (hb : Bx u bl) (hG : A3 w u) (hg : G u)
  (h : ∀ K L : Act → World → Prop,(∀ a w,Q .normal a w → K a w) → (∀ a' w',wpList P l.toArray (NoK K) tl a' w' → L a' w') → OKs P l.toArray L u.heap.size (ks.zip l) [] a (fun v=>A3 u v ∧ Bx v bl ∧ A3 w v ∧ G v)) : (Code.region id l.toArray false).wp P Q a u :=
 B6v hts n ks hB G hGm hb hG hg (h _ _ (fun _ _ h=>h) fun _ _ h=>by rw [NoK.eq,htl];exact h)
theorem M9 {id : Nat} {a : Act} {u : World} {l : List Oper} (h : ∀ K : Act → World → Prop,(∀ a w,Q .normal a w → K a w) → wpList P l.toArray (NoK K) l a u) : (Code.region id l.toArray false).wp P Q a u :=
 Code.wp_mono NoP.up (wp_region_lit (by rw [NoK.eq];exact h _ fun _ _ h=>h))
theorem Fr.ne {w : World} {l : List Nat} (h : Fr w l) (i j : Nat) {x y : Nat} (hi : l[i]? = some x) (hj : l[j]? = some y) (hij : i ≠ j) : x ≠ y:=by
 obtain ⟨hi1,hi2⟩:=List.getElem?_eq_some_iff.1 hi
 obtain ⟨hj1,hj2⟩:=List.getElem?_eq_some_iff.1 hj
 have hnd:=List.pairwise_iff_getElem.1 h.2
 rcases Nat.lt_or_gt_of_ne hij with h' | h'
 ·have := hnd i j hi1 hj1 h';rw [hi2,hj2] at this;exact this
 ·have := hnd j i hj1 hi1 h';rw [hi2,hj2] at this;exact fun e=>this e.symm
theorem noG : ∀ u u' : World,A3 u u' → True → True:=fun _ _ _ h=>h
theorem okf {ops : Array Oper} {L : Act → World → Prop} {B : Nat} {r : List (Nat × Oper)} {tk : List Nat} {a a' : Act} {F : World → Prop} (h : a = a') (hk : OKs P ops L B r tk a' F) : OKs P ops L B r tk a F:=h ▸ hk
end
end Go.Proofs.YtlkniebmjdoopaaGreatDoor
