/- Contracts and laws. -/
import Derived.StillTail
import Derived.OrdersHeld
import Derived.Tactics
import Derived.WalkKit
set_option linter.unusedSimpArgs false
set_option linter.unusedVariables false
namespace Go.Proofs.YtlkniebmjdoopaaGreatDoor
open Go Go.RowKit
def A3 (w w' : World) : Prop:=Below w.heap.size w w'
theorem A3.refl (w : World) : A3 w w:=Below.refl _ _
theorem A3.trans {a b c : World} (h : A3 a b) (k : A3 b c) : A3 a c:=Below.trans h (Below.mono k h.size)
theorem A3.drew (w : World) : A3 w w.drew:=Below.drew (Below.refl _ _)
theorem A3.alloc (w : World) (o : Obj) : A3 w (w.alloc o):=Below.alloc (Below.refl _ _) (Nat.le_refl _) o
def Blk (w : World) (b : Nat) (t : TypeId) (cs : Array Value) : Prop:=w.heap[b]? = some (.cells cs t (0,0))
theorem Blk.lt {w : World} {b : Nat} {t : TypeId} {cs : Array Value} (h : Blk w b t cs) : b < w.heap.size:=by
 rcases Nat.lt_or_ge b w.heap.size with hlt | hge
 ·exact hlt
 ·unfold Blk at h;rw [Array.getElem?_eq_none hge] at h;cases h
theorem Blk.grow {w w' : World} {b : Nat} {t : TypeId} {cs : Array Value} (hg : A3 w w') (h : Blk w b t cs) : Blk w' b t cs:=(hg.block b h.lt).trans h
theorem Blk.new (w : World) (t : TypeId) (cs : Array Value) : Blk (w.alloc (.cells cs t)) w.heap.size t cs:=by
 show (w.heap.push _)[w.heap.size]? = _
 simp
section
variable {P : Program} {ops : Array Oper} {md : Region.Mode} {Q : Exit → Act → World → Prop} {L : Act → World → Prop}
def NoP (Q : Exit → Act → World → Prop) : Exit → Act → World → Prop
 | .panic _,_,_=>False
 | .normal,a,w=>Q .normal a w
 | _,_,_=>False
theorem NoP.up : ∀ (e : Exit) (a : Act) (w : World),NoP Q e a w → Q e a w:=fun e a w h=>by
 cases e <;> first | exact h | exact (h : False).elim
def B0a (P : Program) {X : Type} (f : X → Value) (T : X → World → Prop) (w : World) : Result Next → Prop
 | .ok (.value v) w'=>∃ x,v = f x ∧ T x w' ∧ A3 w w'
 | .ok (.enter g args) w'=>Calls P g args w' fun e w''=>∃ x,e = .returned (f x) ∧ T x w'' ∧ A3 w w''
 | _=>False
def T4 (P : Program) (ops : Array Oper) {X : Type} (o : Oper) (a : Act) (f : X → Value) (T : X → World → Prop) (w : World) : Prop :=
 if Region.wanted o (yielded ops a.tmps) then B0a P f T w ((execOp a.eval o).run P w) else ∃ x,f x = undef ∧ T x w
def N5 (P : Program) (o : Oper) : Obj:=match (execOp (fun _=>undef) o).run P default with
 | .ok _ w'=>(w'.heap[(default : World).heap.size]?).getD (.cells #[] 0)
 | _=>.cells #[] 0
def A2F (P : Program) (ops : Array Oper) (o : Oper) : Prop :=
 ∀ (a : Act) (w : World),Region.wanted o (yielded ops a.tmps) = true ∧ (execOp a.eval o).run P w = .ok (.value (.pointer (some ⟨w.heap.size,0,none⟩))) (w.alloc (N5 P o))
def OKs (P : Program) (ops : Array Oper) (L : Act → World → Prop) (B : Nat) : List (Nat × Oper) → List Nat → Act → (World → Prop) → Prop
 | [],_,a,F=>∀ w,F w → L a w
 | (0,o) :: r,tk,a,F=>∃ v,YieldsIf P ops F o v a ∧ OKs P ops L B r tk (a.put o.dst v) F
 | (1,o) :: r,tk,a,F=>∃ (X : Type) (f : X → Value) (T : X → World → Prop),(∀ x w w',A3 w w' → T x w → T x w') ∧ (∀ w,F w → T4 P ops o a f T w) ∧
   ∀ x,OKs P ops L B r tk (a.put o.dst (f x)) (fun w=>F w ∧ T x w)
 | (_,o) :: r,tk,a,F=>∀ b,B ≤ b → b ∉ tk → OKs P ops L B r (b :: tk) (a.put o.dst (.pointer (some ⟨b,0,none⟩))) (fun w=>F w ∧ w.heap[b]? = some (N5 P o))
theorem OKs.weaken {B : Nat} : ∀ (r : List (Nat × Oper)) (tk tk' : List Nat) (a : Act) (F F' : World → Prop),(∀ w,F' w → F w) → (∀ b,b ∈ tk → b ∈ tk') → OKs P ops L B r tk a F → OKs P ops L B r tk' a F'
 | [],_,_,_,_,_,hF,_,h=>fun w hw=>h w (hF w hw)
 | (0,o) :: r,tk,tk',a,F,F',hF,ht,h=>by
  obtain ⟨v,hy,h'⟩:=h
  exact ⟨v,hy.imp (fun ⟨hw,hv⟩=>⟨hw,fun w hw'=>hv w (hF w hw')⟩) id,OKs.weaken r tk tk' _ F F' hF ht h'⟩
 | (1,o) :: r,tk,tk',a,F,F',hF,ht,h=>by
  obtain ⟨X,f,T,hm,hs,h'⟩:=h
  exact ⟨X,f,T,hm,fun w hw=>hs w (hF w hw),fun x=>OKs.weaken r tk tk' _ _ _ (fun w hw=>⟨hF w hw.1,hw.2⟩) ht (h' x)⟩
 | (k + 2,o) :: r,tk,tk',a,F,F',hF,ht,h=>fun b hb hn=>OKs.weaken r (b :: tk) (b :: tk') _ _ _ (fun w hw=>⟨hF w hw.1,hw.2⟩) (fun c hc=>by
   rcases List.mem_cons.1 hc with rfl | hc
   ·simp
   ·exact List.mem_cons_of_mem _ (ht c hc)) (h b hb (fun hc=>hn (ht b hc)))
def A1F (ops : Array Oper) (x e : Nat × Oper) : Bool:=x.2.apart ops e.2 && (decide (2 ≤ e.1) || decide (x.1 = 0))
theorem YieldsIf.put {F : World → Prop} {o : Oper} {v u : Value} {a : Act} {d : Option Tmp} (hs : ∀ cs b,o.op ≠ .select cs b) (hd : ∀ t,d = some t → t ∉ o.looksAt ops) : YieldsIf P ops F o v a ↔ YieldsIf P ops F o v (a.put d u) :=
 ⟨fun h=>h.of_same (execOp_put o hs a d u hd) (wanted_put o a d u hd),fun h=>h.of_same (execOp_put o hs a d u hd).symm (wanted_put o a d u hd).symm⟩
theorem T4.put {X : Type} {f : X → Value} {T : X → World → Prop} {w : World} {o : Oper} {u : Value} {a : Act} {d : Option Tmp} (hs : ∀ cs b,o.op ≠ .select cs b) (hd : ∀ t,d = some t → t ∉ o.looksAt ops) : T4 P ops o (a.put d u) f T w ↔ T4 P ops o a f T w:=by
 unfold T4
 rw [execOp_put o hs a d u hd,wanted_put o a d u hd]
theorem OKs.swap {B : Nat} {tk : List Nat} {x e : Nat × Oper} {r : List (Nat × Oper)} {a : Act} {F : World → Prop} (hsx : ∀ cs b,x.2.op ≠ .select cs b) (hse : ∀ cs b,e.2.op ≠ .select cs b) (hB : A1F ops x e = true)
  (h : OKs P ops L B (x :: e :: r) tk a F) : OKs P ops L B (e :: x :: r) tk a F:=by
 obtain ⟨kx,ox⟩:=x
 obtain ⟨ke,oe⟩:=e
 simp only [A1F,Bool.and_eq_true,Bool.or_eq_true,decide_eq_true_eq] at hB
 obtain ⟨hap,hk⟩:=hB
 obtain ⟨h1,h2,h3⟩:=Oper.apart_spec hap
 simp only at hsx hse hk h1 h2 h3
 match kx,ke with
 | 0,0 =>
  obtain ⟨v,hy,u,hy',h'⟩:=h
  exact ⟨u,(YieldsIf.put hse h1).2 hy',v,(YieldsIf.put hsx h3).1 hy,by rw [← Act.put_comm a v u h2];exact h'⟩
 | 0,1 =>
  obtain ⟨v,hy,X,f,T,hm,hs,h'⟩:=h
  refine ⟨X,f,T,hm,fun w hw=>(T4.put hse h1).1 (hs w hw),fun x=>⟨v,?_,by rw [← Act.put_comm a v _ h2];exact h' x⟩⟩
  exact ((YieldsIf.put hsx h3).1 hy).imp (fun ⟨hw,hv⟩=>⟨hw,fun w hw'=>hv w hw'.1⟩) id
 | 0,k + 2 =>
  obtain ⟨v,hy,h'⟩:=h
  refine fun b hb hn=>⟨v,?_,by rw [← Act.put_comm a v _ h2];exact h' b hb hn⟩
  exact ((YieldsIf.put hsx h3).1 hy).imp (fun ⟨hw,hv⟩=>⟨hw,fun w hw'=>hv w hw'.1⟩) id
 | 1,k + 2 =>
  obtain ⟨X,f,T,hm,hs,h'⟩:=h
  refine fun b hb hn=>⟨X,f,T,hm,fun w hw=>(T4.put hsx h3).2 (hs w hw.1),fun x=>?_⟩
  rw [← Act.put_comm a _ _ h2]
  exact OKs.weaken _ _ _ _ _ _ (fun w hw=>⟨⟨hw.1.1,hw.2⟩,hw.1.2⟩) (fun _ hc=>hc) (h' x b hb hn)
 | j + 2,k + 2 =>
  intro b hb hn b' hb' hn'
  rw [← Act.put_comm a _ _ h2]
  have hne : b' ≠ b:=fun e=>hn' (by simp [e])
  refine OKs.weaken _ (b :: b' :: tk) _ _ _ _ (fun w hw=>⟨⟨hw.1.1,hw.2⟩,hw.1.2⟩) (fun c hc=>?_) (h b' hb' (fun hc=>hn' (List.mem_cons_of_mem _ hc)) b hb (fun hc=>?_))
  ·simp only [List.mem_cons] at hc ⊢
   rcases hc with h | h | h
   ·exact .inr (.inl h)
   ·exact .inl h
   ·exact .inr (.inr h)
  ·rcases List.mem_cons.1 hc with hc | hc
   ·exact hne hc.symm
   ·exact hn hc
 | 1,0=>omega
 | 1,1=>omega
 | j + 2,0=>omega
 | j + 2,1=>omega
theorem OKs.front {B : Nat} {e : Nat × Oper} {post : List (Nat × Oper)} (hse : ∀ cs b,e.2.op ≠ .select cs b) : ∀ (pre : List (Nat × Oper)) (tk : List Nat) (a : Act) (F : World → Prop),(∀ x ∈ pre,(∀ cs b,x.2.op ≠ .select cs b) ∧ A1F ops x e = true) →
  OKs P ops L B (pre ++ e :: post) tk a F → OKs P ops L B (e :: (pre ++ post)) tk a F
 | [],_,_,_,_,h=>h
 | x :: pre,tk,a,F,hp,h=>by
  have hx:=hp x (by simp)
  refine OKs.swap hx.1 hse hx.2 ?_
  have ih:=fun (tk : List Nat) (a : Act) (F : World → Prop) (h : OKs P ops L B (pre ++ e :: post) tk a F)=>OKs.front (post:=post) hse pre tk a F (fun y hy=>hp y (by simp [hy])) h
  obtain ⟨kx,ox⟩:=x
  match kx with
  | 0=>obtain ⟨v,hy,h'⟩:=h;exact ⟨v,hy,ih _ _ _ h'⟩
  | 1=>obtain ⟨X,f,T,hm,hs,h'⟩:=h;exact ⟨X,f,T,hm,hs,fun x=>ih _ _ _ (h' x)⟩
  | k + 2=>exact fun b hb hn=>ih _ _ _ (h b hb hn)
theorem OKs.step {B : Nat} {tk : List Nat} {k i : Nat} {o : Oper} {r : List (Nat × Oper)} {a : Act} {F : World → Prop} {w : World} (hi : ops[i]? = some o) (hA : 2 ≤ k → A2F P ops o) (hmono : ∀ w w',A3 w w' → F w → F w') (hw : F w)
  (hFB : ∀ w,F w → B ≤ w.heap.size ∧ ∀ b ∈ tk,b < w.heap.size) (h : OKs P ops L B ((k,o) :: r) tk a F) :
  wpOp P ops (NoP Q) i (fun a' w'=>∃ (F' : World → Prop) (tk' : List Nat),(∀ w w',A3 w w' → F' w → F' w') ∧ F' w' ∧ (∀ w,F' w → B ≤ w.heap.size ∧ ∀ b ∈ tk',b < w.heap.size) ∧ OKs P ops L B r tk' a' F') a w:=by
 match k with
 | 0 =>
  obtain ⟨v,hy,h'⟩:=h
  exact hy.wpOp hi hw ⟨F,tk,hmono,hw,hFB,h'⟩
 | 1 =>
  obtain ⟨X,f,T,hm,hs,h'⟩:=h
  have hs':=hs w hw
  have next : ∀ (x : X) (w' : World),T x w' → A3 w w' → ∃ (F' : World → Prop) (tk' : List Nat),(∀ w w',A3 w w' → F' w → F' w') ∧ F' w' ∧ (∀ w,F' w → B ≤ w.heap.size ∧ ∀ b ∈ tk',b < w.heap.size) ∧ OKs P ops L B r tk' (a.put o.dst (f x)) F':=fun x w' ht hg =>
   ⟨fun w=>F w ∧ T x w,tk,fun u u' hu hh=>⟨hmono u u' hu hh.1,hm x u u' hu hh.2⟩,⟨hmono w w' hg hw,ht⟩,fun u hu=>hFB u hu.1,h' x⟩
  unfold T4 at hs'
  unfold wpOp
  simp only [hi]
  split
  ·rename_i hwa
   rw [if_pos hwa] at hs'
   refine .inl ?_
   unfold Oper.wp
   revert hs'
   generalize (execOp a.eval o).run P w = res
   intro hs'
   cases res with
   | ok n w' =>
    cases n with
    | value v =>
     obtain ⟨x,rfl,ht,hg⟩:=hs'
     exact next x w' ht hg
    | enter g args =>
     refine Calls.mono hs' fun e w'' he=>?_
     obtain ⟨x,rfl,ht,hg⟩:=he
     exact next x w'' ht hg
    | _=>exact (hs' : False).elim
   | halt x w'=>exact (hs' : False).elim
  ·rename_i hwa
   rw [if_neg hwa] at hs'
   obtain ⟨x,hx,ht⟩:=hs'
   rw [← hx]
   exact next x w ht (A3.refl w)
 | k + 2 =>
  obtain ⟨hwa,hrun⟩:=hA (by omega) a w
  unfold wpOp
  simp only [hi,hwa,if_true]
  refine .inl ?_
  unfold Oper.wp
  rw [hrun]
  have hin : ∀ u : World,u.heap[w.heap.size]? = some (N5 P o) → w.heap.size < u.heap.size:=fun u hh=>by
   rcases Nat.lt_or_ge w.heap.size u.heap.size with h' | h'
   ·exact h'
   ·rw [Array.getElem?_eq_none h'] at hh;cases hh
  refine ⟨fun u=>F u ∧ u.heap[w.heap.size]? = some (N5 P o),w.heap.size :: tk,fun u u' hu hh=>⟨hmono u u' hu hh.1,?_⟩,⟨hmono _ _ (A3.alloc w _) hw,?_⟩,fun u hu=>⟨(hFB u hu.1).1,fun b hb=>?_⟩,
   h w.heap.size (hFB w hw).1 (fun hc=>Nat.lt_irrefl _ ((hFB w hw).2 _ hc))⟩
  ·rw [hu.block w.heap.size (hin u hh.2)]
   exact hh.2
  ·show (w.heap.push _)[w.heap.size]? = _
   simp
  ·rcases List.mem_cons.1 hb with rfl | hb
   ·exact hin u hu.2
   ·exact (hFB u hu.1).2 b hb
def A0R (ops : Array Oper) : Nat → Nat → Nat → Bool
 | 0,_,_=>false
 | f + 1,i,j=>match ops[i]? with
  | some o=>o.after.any fun e=>Region.binds .any e && (e.on == j || A0R ops f e.on j)
  | none=>false
theorem A4V {n : Nat} {listed : Array Bool} (inv : HeadInv .any ops n listed) : ∀ (f i j : Nat),A0R ops f i j = true →
  (∀ o,ops[i]? = some o → ∀ e ∈ o.after,Region.binds .any e = true → listed.getD e.on false = true) → listed.getD j false = true
 | 0,_,_,h,_=>by simp [A0R] at h
 | f + 1,i,j,h,hl=>by
  unfold A0R at h
  split at h
  ·rename_i o ho
   obtain ⟨e,he,hb⟩:=Array.any_eq_true'.1 h
   simp only [Bool.and_eq_true,Bool.or_eq_true,beq_iff_eq] at hb
   have h1:=hl o ho e he hb.1
   rcases hb.2 with h2 | h2
   ·rw [← h2];exact h1
   ·exact A4V inv f e.on j h2 (fun o' ho' e' he' hb'=>inv.closed e.on o' ho' h1 e' he' hb')
  ·cases h
def U5 (ops : Array Oper) : List (Nat × Nat) → Bool
 | []=>true
 | (k,i) :: r=>(r.all fun e=>A0R ops ops.size e.2 i || (match ops[i]?,ops[e.2]? with
   | some oi,some oe=>A1F ops (k,oi) (e.1,oe)
   | _,_=>false)) && U5 ops r
def A4J (ops : Array Oper) (n : Nat) (s : List Nat) : Bool :=
 (List.range n).all fun i=>match ops[i]? with
  | some o=>o.after.all fun e=>!Region.binds .any e || (decide (e.on < n) && decide (s.idxOf e.on < s.idxOf i))
  | none=>false
def E8 (ops : Array Oper) : List (Nat × Nat) → List (Nat × Oper)
 | []=>[]
 | (k,i) :: r=>match ops[i]? with
  | some o=>(k,o) :: E8 ops r
  | none=>E8 ops r
theorem A76 (x y : List (Nat × Nat)) : E8 ops (x ++ y) = E8 ops x ++ E8 ops y:=by
 induction x with
 | nil=>rfl
 | cons e x ih =>
  obtain ⟨k,i⟩:=e
  simp only [List.cons_append,E8]
  split <;> simp [ih]
theorem A7W {s : List (Nat × Nat)} {k : Nat} {o : Oper} (h : (k,o) ∈ E8 ops s) : ∃ i,(k,i) ∈ s ∧ ops[i]? = some o:=by
 induction s with
 | nil=>simp [E8] at h
 | cons e s ih =>
  obtain ⟨k',i'⟩:=e
  simp only [E8] at h
  split at h
  ·rename_i o' ho'
   rcases List.mem_cons.1 h with h | h
   ·injection h with h1 h2
    subst h1;subst h2
    exact ⟨i',by simp,ho'⟩
   ·obtain ⟨i,hi,ho⟩:=ih h
    exact ⟨i,by simp [hi],ho⟩
  ·obtain ⟨i,hi,ho⟩:=ih h
   exact ⟨i,by simp [hi],ho⟩
theorem A8w {s t : List (Nat × Nat)} (h : s.Sublist t) (hp : U5 ops t = true) : U5 ops s = true:=by
 induction h with
 | slnil=>rfl
 | cons a _ ih=>simp only [U5,Bool.and_eq_true] at hp;exact ih hp.2
 | cons_cons a hs ih =>
  simp only [U5,Bool.and_eq_true,List.all_eq_true] at hp ⊢
  exact ⟨fun e he=>hp.1 e (hs.subset he),ih hp.2⟩
theorem B0G {pre post : List (Nat × Nat)} {k i : Nat} (hp : U5 ops (pre ++ (k,i) :: post) = true) : ∀ x ∈ pre,A0R ops ops.size i x.2 = true ∨ ∃ ox oi,ops[x.2]? = some ox ∧ ops[i]? = some oi ∧ A1F ops (x.1,ox) (k,oi) = true:=by
 induction pre with
 | nil=>intro x hx;cases hx
 | cons y pre ih =>
  intro x hx
  simp only [List.cons_append,U5,Bool.and_eq_true,List.all_eq_true] at hp
  rcases List.mem_cons.1 hx with rfl | hx
  ·have h:=hp.1 (k,i) (by simp)
   simp only [Bool.or_eq_true] at h
   rcases h with h | h
   ·exact .inl h
   ·revert h
    cases ho : ops[x.2]? with
    | none=>simp
    | some ox =>
     cases hi : ops[i]? with
     | none=>simp
     | some oi=>intro h;exact .inr ⟨ox,oi,rfl,rfl,h⟩
  ·exact ih hp.2 x hx
theorem B6A {B n g : Nat} {s0 : List Nat} (hsel : Region.noSelect ops = true) (hn : n ≤ ops.size) (hback : A4J ops n s0 = true)
  (hT : ∀ listed,HeadInv .any ops n listed → ∀ i,i < n → listed.getD i true = false → ∀ t,n ≤ t → t ∉ Region.ready .any ops listed)
  (hL : ∀ listed a w,HeadInv .any ops n listed → (∀ i,i < n → listed.getD i true = true) → L a w → wpAny P .any ops (NoP Q) g listed a w) :
  ∀ (m : Nat) (s : List (Nat × Nat)) (listed : Array Bool) (tk : List Nat) (a : Act) (F : World → Prop) (w : World),s.length = m → (∀ i,i ∈ s.map (·.2) ↔ (i < n ∧ listed.getD i true = false)) → (s.map (·.2)).Nodup →
   HeadInv .any ops n listed → U5 ops s = true → (∀ e ∈ s,2 ≤ e.1 → ∀ o,ops[e.2]? = some o → A2F P ops o) → (∀ w w',A3 w w' → F w → F w') → F w → (∀ w,F w → B ≤ w.heap.size ∧ ∀ b ∈ tk,b < w.heap.size) → OKs P ops L B (E8 ops s) tk a F → wpAny P .any ops (NoP Q) (m + g) listed a w:=by
 intro m
 induction m with
 | zero =>
  intro s listed tk a F w hlen hset _ inv _ _ _ hw _ h
  have hs : s = []:=List.eq_nil_of_length_eq_zero hlen
  subst hs
  rw [Nat.zero_add]
  refine hL listed a w inv (fun i hi=>?_) (h w hw)
  cases hl : listed.getD i true with
  | true=>rfl
  | false=>have := (hset i).2 ⟨hi,hl⟩;simp at this
 | succ m ih =>
  intro s listed tk a F w hlen hset hnd inv hp hA hmono hw hFB h
  have hne : Region.ready .any ops listed ≠ []:=by
   intro h0
   have key : ∀ p i,i < n → listed.getD i true = false → s0.idxOf i = p → False:=by
    intro p
    induction p using Nat.strongRecOn with
    | ind p ihp =>
     intro i hi hun hpos
     have hb:=List.all_eq_true.1 hback i (List.mem_range.2 hi)
     have hio : ops[i]? = some ops[i]:=by simp
     rw [hio] at hb
     simp only [Array.all_eq_true_iff_forall_mem,Bool.or_eq_true,Bool.not_eq_true',Bool.and_eq_true,decide_eq_true_eq] at hb
     have : i ∈ Region.ready .any ops listed:=mem_ready.2 ⟨hun,ops[i],hio,fun e he hbi=>by
      rcases hb e he with h1 | h1
      ·rw [h1] at hbi;cases hbi
      ·cases hl : listed.getD e.on false with
       | true=>rfl
       | false =>
        have hlt : e.on < listed.size:=by rw [inv.size];omega
        exact (ihp (s0.idxOf e.on) (by omega) e.on h1.1 (getD_in hlt hl) rfl).elim⟩
     rw [h0] at this
     cases this
   cases s with
   | nil=>simp at hlen
   | cons e s =>
    have he:=(hset e.2).1 (by simp)
    exact key _ e.2 he.1 he.2 rfl
  rw [show m + 1 + g = (m + g) + 1 by omega]
  refine ⟨fun h0=>absurd h0 hne,fun i hi=>?_⟩
  have hun:=(mem_ready.1 hi).1
  have hin : i < n:=by
   rcases Nat.lt_or_ge i n with h' | h'
   ·exact h'
   ·exfalso
    cases s with
    | nil=>simp at hlen
    | cons e s =>
     have he:=(hset e.2).1 (by simp)
     exact hT listed inv e.2 he.1 he.2 i h' hi
  obtain ⟨_,oi,hoi,hall⟩:=mem_ready.1 hi
  have hmem:=(hset i).2 ⟨hin,hun⟩
  obtain ⟨⟨k,i'⟩,hki,hii⟩:=List.mem_map.1 hmem
  simp only at hii
  subst hii
  obtain ⟨pre,post,rfl⟩:=List.append_of_mem hki
  have hsw : ∀ x ∈ E8 ops pre,(∀ cs b,x.2.op ≠ .select cs b) ∧ A1F ops x (k,oi) = true:=by
   rintro ⟨kx,ox⟩ hx
   obtain ⟨j,hj,hoj⟩:=A7W hx
   refine ⟨fun cs b=>Region.noSelect_spec hsel j ox cs b hoj,?_⟩
   rcases B0G hp (kx,j) hj with h1 | ⟨ox',oi',h1,h2,h3⟩
   ·exfalso
    have hl:=A4V inv _ i' j h1 (fun o ho e he hb=>by
     have : o = oi:=Option.some.inj (ho.symm.trans hoi)
     subst this
     exact hall e he hb)
    have hju:=((hset j).1 (by simp only [List.map_append,List.mem_append];exact .inl (List.mem_map.2 ⟨(kx,j),hj,rfl⟩))).2
    rw [getD_both hju] at hl
    cases hl
   ·have e1 : ox' = ox:=Option.some.inj (h1.symm.trans hoj)
    have e2 : oi' = oi:=Option.some.inj (h2.symm.trans hoi)
    subst e1;subst e2
    exact h3
  have hfr : OKs P ops L B ((k,oi) :: E8 ops (pre ++ post)) tk a F:=by
   rw [A76] at h ⊢
   have hpk : E8 ops ((k,i') :: post) = (k,oi) :: E8 ops post:=by simp [E8,hoi]
   rw [hpk] at h
   exact OKs.front (fun cs b=>Region.noSelect_spec hsel i' oi cs b hoi) (E8 ops pre) tk a F hsw h
  refine wpOp_mono (fun a' w' h3=>?_) (OKs.step (Q:=Q) hoi (fun hk=>hA (k,i') (by simp) hk oi hoi) hmono hw hFB hfr)
  obtain ⟨F',tk',hmono',hw',hFB',h'⟩:=h3
  have hnd' : (pre.map (·.2)).Nodup ∧ (i' ∉ post.map (·.2) ∧ (post.map (·.2)).Nodup) ∧ ∀ x ∈ pre.map (·.2),x ≠ i' ∧ x ∉ post.map (·.2):=by
   simp only [List.map_append,List.map_cons,List.nodup_append,List.nodup_cons] at hnd
   refine ⟨hnd.1,hnd.2.1,fun x hx=>⟨fun e=>hnd.2.2 x hx i' (by simp) e,fun hx'=>hnd.2.2 x hx x (by simp only [List.mem_cons];exact .inr hx') rfl⟩⟩
  refine ih (pre ++ post) (listed.setIfInBounds i' true) tk' a' F' w' (by simp at hlen ⊢;omega) (fun j=>?_) ?_ (inv.set hi hin) (A8w ?_ hp) (fun e he=>hA e ?_) hmono' hw' hFB' h'
  ·by_cases hji : i' = j
   ·subst hji
    constructor
    ·intro hj
     simp only [List.map_append,List.mem_append] at hj
     rcases hj with hj | hj
     ·exact absurd rfl (hnd'.2.2 _ hj).1
     ·exact absurd hj hnd'.2.1.1
    ·rintro ⟨_,hj⟩
     have hlt : i' < listed.size:=by rw [inv.size];omega
     simp [hlt] at hj
   ·rw [getD_set_ne true hji,← hset j]
    simp only [List.map_append,List.map_cons,List.mem_append,List.mem_cons]
    constructor
    ·rintro (h1 | h1)
     ·exact .inl h1
     ·exact .inr (.inr h1)
    ·rintro (h1 | h1 | h1)
     ·exact .inl h1
     ·exact absurd h1.symm hji
     ·exact .inr h1
  ·rw [List.map_append,List.nodup_append]
   exact ⟨hnd'.1,hnd'.2.1.2,fun x hx y hy hxy=>(hnd'.2.2 x hx).2 (hxy ▸ hy)⟩
  ·exact (List.Sublist.refl pre).append (List.sublist_cons_self _ _)
  ·simp only [List.mem_append,List.mem_cons] at he ⊢
   rcases he with he | he
   ·exact .inl he
   ·exact .inr (.inr he)
def A2k (s : List Nat) (n : Nat) : Bool:=(List.range n).all (fun i=>s.contains i) && s.all (fun i=>decide (i < n)) && decide s.Nodup
def V8 (n m : Nat) : Array Bool:=Array.ofFn (n:=m) fun i=>decide (i.val < n)
def A3P (ts : List TypeId) (ops : Array Oper) (s : List (Nat × Nat)) : Bool:=s.all fun e=>decide (e.1 < 2) || match ops[e.2]? with
 | some o=>(match o.op with | .alloc t=>ts.contains t | _=>false) && o.guard.isNone
 | none=>false
def M8 (P : Program) (t : TypeId) : Prop:=∀ (d : Option Tmp) (ty : TypeId) (pos : String) (af : Array Edge) (a : Act) (w : World),
 (execOp a.eval ⟨d,.alloc t,ty,pos,af,none⟩).run P w = .ok (.value (.pointer (some ⟨w.heap.size,0,none⟩))) (w.alloc (N5 P ⟨d,.alloc t,ty,pos,af,none⟩))
theorem A2L {ts : List TypeId} (hts : ∀ t ∈ ts,M8 P t) {s : List (Nat × Nat)} (hB : A3P ts ops s = true) : ∀ e ∈ s,2 ≤ e.1 → ∀ o,ops[e.2]? = some o → A2F P ops o:=by
 intro e he hk o ho a w
 have h:=List.all_eq_true.1 hB e he
 simp only [Bool.or_eq_true,decide_eq_true_eq] at h
 rcases h with h | h
 ·omega
 ·rw [ho] at h
  obtain ⟨d,op,ty,pos,af,gd⟩:=o
  simp only [Bool.and_eq_true,Option.isNone_iff_eq_none] at h
  obtain ⟨h1,h2⟩:=h
  subst h2
  cases op <;> simp only [Bool.false_eq_true] at h1
  rename_i t
  exact ⟨rfl,hts t (by simpa using h1) d ty pos af a w⟩
def A5F (ts : List TypeId) (l : List Oper) (n : Nat) (s : List (Nat × Nat)) : Bool :=
 Region.noSelect l.toArray && decide (n < l.toArray.size) && Region.sinkB .any l.toArray n && Region.chainB .any l.toArray n && A2k (s.map (·.2)) n && U5 l.toArray s && A4J l.toArray n (s.map (·.2)) &&
  Region.seqB .any l.toArray (l.toArray.size - n) n (V8 n l.toArray.size) && A3P ts l.toArray s
theorem B1b {id : Nat} {a : Act} {w : World} {l : List Oper} {ts : List TypeId} (hts : ∀ t ∈ ts,M8 P t) (n : Nat) (s : List (Nat × Nat)) (F : World → Prop) (hm : P.follows .mixedOrders = true) (hB : A5F ts l n s = true)
  (hmono : ∀ w w',A3 w w' → F w → F w') (hF : F w) (h : OKs P l.toArray (fun a' w'=>wpList P l.toArray (NoP Q) (l.drop n) a' w') w.heap.size (E8 l.toArray s) [] a (fun u=>A3 w u ∧ F u)) : (Code.region id l.toArray true).wp P Q a w:=by
 simp only [A5F,A2k,Bool.and_eq_true,decide_eq_true_eq,List.all_eq_true,List.mem_range,List.contains_iff_mem] at hB
 obtain ⟨⟨⟨⟨⟨⟨⟨⟨hsel,hn⟩,hs⟩,hc⟩,⟨⟨hset1,hset2⟩,hnd⟩⟩,hpair⟩,hback⟩,hseq⟩,hall⟩:=hB
 have hdl : (l.drop n).length = l.toArray.size - n:=by simp
 have inv0 : HeadInv .any l.toArray n (Array.replicate l.toArray.size false) :=
  ⟨by simp,fun j oj _ hl=>(by rw [getD_replicate_false] at hl;cases hl),fun t _ ht=>getD_in (by simpa using ht) (getD_replicate_false _ _)⟩
 have hun0 : ∀ i,i < n → (Array.replicate l.toArray.size false).getD i true = false:=fun i hi=>getD_in (by simp at hn ⊢;omega) (getD_replicate_false _ _)
 have hlen : s.length = n:=by
  have h1 : (s.map (·.2)).Perm (List.range n):=(List.perm_ext_iff_of_nodup hnd List.nodup_range).2 fun i=>⟨fun hi=>List.mem_range.2 (hset2 i hi),fun hi=>hset1 i (List.mem_range.1 hi)⟩
  simpa using h1.length_eq
 refine Code.wp_mono NoP.up (wp_region_any hm ?_)
 have H:=B6A (P:=P) (Q:=Q) (B:=w.heap.size) (L:=fun a' w'=>wpList P l.toArray (NoP Q) (l.drop n) a' w') (g:=l.toArray.size - n) hsel (Nat.le_of_lt hn) hback (fun listed inv i hi hun t ht=>tail_waits hs hc hn inv (n - i) i rfl hi hun t ht)
  (fun listed a' w' inv hall hK=>by
   have hl : listed = V8 n l.toArray.size:=by
    refine Array.ext (by simp [V8,inv.size]) fun i h1 h2=>?_
    have hi : i < l.toArray.size:=by rw [← inv.size];exact h1
    simp only [V8,Array.getElem_ofFn]
    by_cases hin : i < n
    ·have := hall i hin
     simpa [h1,hin] using this
    ·have := inv.tail i (by omega) hi
     simpa [h1,hin] using this
   have := wpAny_of_seq (md:=.any) (Q':=NoP Q) (l.drop n) n listed a' w' (fun j=>by simp [List.getElem?_drop]) (by rw [hdl,hl];exact hseq) hK
   rwa [hdl] at this)
  n s (Array.replicate l.toArray.size false) [] a (fun u=>A3 w u ∧ F u) w.drew hlen (fun i=>⟨fun hi=>⟨hset2 i hi,hun0 i (hset2 i hi)⟩,fun hi=>hset1 i hi.1⟩) hnd inv0 hpair (A2L hts hall)
  (fun u u' hu hh=>⟨hh.1.trans hu,hmono u u' hu hh.2⟩) ⟨A3.drew w,hmono _ _ (A3.drew w) hF⟩ (fun u hu=>⟨hu.1.size,fun b hb=>by cases hb⟩) h
 rw [show n + (l.toArray.size - n) = l.toArray.size by omega] at H
 exact H
theorem OKs.seq {B : Nat} {tl : List Oper} : ∀ (s : List (Nat × Oper)) (tk : List Nat) (a : Act) (F : World → Prop) (w : World),(∀ e ∈ s,2 ≤ e.1 → A2F P ops e.2) → (∀ w w',A3 w w' → F w → F w') → F w →
  (∀ w,F w → B ≤ w.heap.size ∧ ∀ b ∈ tk,b < w.heap.size) → OKs P ops (fun a' w'=>wpList P ops (NoP Q) tl a' w') B s tk a F → wpList P ops (NoP Q) (s.map (·.2) ++ tl) a w
 | [],_,_,_,w,_,_,hw,_,h=>h w hw
 | (k,o) :: s,tk,a,F,w,hA,hmono,hw,hFB,h=>by
  have ih : ∀ a' w',(∃ (F' : World → Prop) (tk' : List Nat),(∀ w w',A3 w w' → F' w → F' w') ∧ F' w' ∧ (∀ w,F' w → B ≤ w.heap.size ∧ ∀ b ∈ tk',b < w.heap.size) ∧ OKs P ops (fun a' w'=>wpList P ops (NoP Q) tl a' w') B s tk' a' F') → wpList P ops (NoP Q) (s.map (·.2) ++ tl) a' w':=by
   rintro a' w' ⟨F',tk',h1,h2,h3,h4⟩
   exact OKs.seq s tk' a' F' w' (fun e he=>hA e (List.mem_cons_of_mem _ he)) h1 h2 h3 h4
  refine wpList_step fun N hN=>?_
  have hN' : ∀ a' w',(∃ (F' : World → Prop) (tk' : List Nat),(∀ w w',A3 w w' → F' w → F' w') ∧ F' w' ∧ (∀ w,F' w → B ≤ w.heap.size ∧ ∀ b ∈ tk',b < w.heap.size) ∧ OKs P ops (fun a' w'=>wpList P ops (NoP Q) tl a' w') B s tk' a' F') → N a' w':=fun a' w' h=>hN a' w' (ih a' w' h)
  match k,h with
  | 0,h =>
   obtain ⟨v,hy,h'⟩:=h
   rcases hy with ⟨h1,h2⟩ | ⟨h1,rfl⟩
   ·rw [if_pos h1]
    unfold Oper.wp
    rw [h2 w hw]
    exact hN' _ _ ⟨F,tk,hmono,hw,hFB,h'⟩
   ·rw [h1]
    exact hN' _ _ ⟨F,tk,hmono,hw,hFB,h'⟩
  | 1,h =>
   obtain ⟨X,f,T,hm,hs,h'⟩:=h
   have hs':=hs w hw
   have next : ∀ (x : X) (w' : World),T x w' → A3 w w' → N (a.put o.dst (f x)) w':=fun x w' ht hg =>
    hN' _ _ ⟨fun w=>F w ∧ T x w,tk,fun u u' hu hh=>⟨hmono u u' hu hh.1,hm x u u' hu hh.2⟩,⟨hmono w w' hg hw,ht⟩,fun u hu=>hFB u hu.1,h' x⟩
   unfold T4 at hs'
   split
   ·rename_i hwa
    rw [if_pos hwa] at hs'
    unfold Oper.wp
    revert hs'
    generalize (execOp a.eval o).run P w = res
    intro hs'
    cases res with
    | ok n w' =>
     cases n with
     | value v =>
      obtain ⟨x,rfl,ht,hg⟩:=hs'
      exact next x w' ht hg
     | enter g args =>
      refine Calls.mono hs' fun e w'' he=>?_
      obtain ⟨x,rfl,ht,hg⟩:=he
      exact next x w'' ht hg
     | _=>exact (hs' : False).elim
    | halt x w'=>exact (hs' : False).elim
   ·rename_i hwa
    rw [if_neg hwa] at hs'
    obtain ⟨x,hx,ht⟩:=hs'
    rw [← hx]
    exact next x w ht (A3.refl w)
  | k + 2,h =>
   obtain ⟨hwa,hrun⟩:=hA (k + 2,o) (by simp) (by simp) a w
   have hin : ∀ u : World,u.heap[w.heap.size]? = some (N5 P o) → w.heap.size < u.heap.size:=fun u hh=>by
    rcases Nat.lt_or_ge w.heap.size u.heap.size with h' | h'
    ·exact h'
    ·rw [Array.getElem?_eq_none h'] at hh;cases hh
   simp only at hwa hrun
   rw [if_pos hwa]
   unfold Oper.wp
   rw [hrun]
   refine hN' _ _ ⟨fun u=>F u ∧ u.heap[w.heap.size]? = some (N5 P o),w.heap.size :: tk,fun u u' hu hh=>⟨hmono u u' hu hh.1,?_⟩,⟨hmono _ _ (A3.alloc w _) hw,?_⟩,fun u hu=>⟨(hFB u hu.1).1,fun b hb=>?_⟩,
    h w.heap.size (hFB w hw).1 (fun hc=>Nat.lt_irrefl _ ((hFB w hw).2 _ hc))⟩
   ·rw [hu.block w.heap.size (hin u hh.2)]
    exact hh.2
   ·show (w.heap.push _)[w.heap.size]? = _
    simp
   ·rcases List.mem_cons.1 hb with rfl | hb
    ·exact hin u hu.2
    ·exact (hFB u hu.1).2 b hb
def Y7 (ts : List TypeId) (l : List Oper) (n : Nat) (ks : List Nat) : Bool:=decide (ks.length = n) && decide (n ≤ l.length) && A3P ts l.toArray (ks.zip (List.range n))
theorem A4n {α : Type} {β : Type} : ∀ (ks : List α) (l : List β),ks.length = l.length → (ks.zip l).map (·.2) = l
 | [],[],_=>rfl
 | [],_ :: _,h=>by simp at h
 | _ :: _,[],h=>by simp at h
 | k :: ks,x :: l,h=>by simp only [List.zip_cons_cons,List.map_cons,A4n ks l (by simpa using h)]
theorem A8m {id : Nat} {a : Act} {w : World} {l : List Oper} {ts : List TypeId} (hts : ∀ t ∈ ts,M8 P t) (n : Nat) (ks : List Nat) (F : World → Prop) (hB : Y7 ts l n ks = true)
  (hmono : ∀ w w',A3 w w' → F w → F w') (hF : F w) (h : OKs P l.toArray (fun a' w'=>wpList P l.toArray (NoP Q) (l.drop n) a' w') w.heap.size (ks.zip l) [] a (fun u=>A3 w u ∧ F u)) : (Code.region id l.toArray false).wp P Q a w:=by
 simp only [Y7,Bool.and_eq_true,decide_eq_true_eq] at hB
 obtain ⟨⟨hlen,hn⟩,hall⟩:=hB
 refine Code.wp_mono NoP.up (wp_region_lit ?_)
 have hz : ks.zip l = ks.zip (l.take n):=by
  rw [← hlen]
  clear hlen hn hall h hF hmono
  induction ks generalizing l with
  | nil=>simp
  | cons k ks ih=>cases l with
   | nil=>simp
   | cons o l=>simp only [List.length_cons,List.take_succ_cons,List.zip_cons_cons];rw [ih]
 rw [hz] at h
 have H:=OKs.seq (Q:=Q) (B:=w.heap.size) (tl:=l.drop n) (ks.zip (l.take n)) [] a (fun u=>A3 w u ∧ F u) w (fun e he hk=>?_) (fun u u' hu hh=>⟨hh.1.trans hu,hmono u u' hu hh.2⟩) ⟨A3.refl w,hF⟩ (fun u hu=>⟨hu.1.size,fun b hb=>by cases hb⟩) h
 ·rw [A4n ks (l.take n) (by simp;omega),List.take_append_drop] at H
  exact H
 ·obtain ⟨i,hi,hie⟩:=List.mem_iff_getElem.1 he
  simp only [List.length_zip,List.length_take] at hi
  have h2 : e = (ks[i]'(by omega),l[i]'(by omega)):=by rw [← hie];simp
  have h3 : (ks[i]'(by omega),i) ∈ ks.zip (List.range n):=List.mem_iff_getElem.2 ⟨i,by simp;omega,by simp⟩
  have hk' : 2 ≤ ks[i]'(by omega):=by rw [h2] at hk;exact hk
  have h4:=A2L (P:=P) hts hall _ h3 hk' (l[i]'(by omega)) (by simp)
  rw [h2]
  exact h4
def A3R (w : World) (N : Value → Prop) : Result Next → Prop
 | .ok (.value v) w'=>w' = w ∧ N v
 | _=>False
def A1q (P : Program) (o : Oper) (a : Act) (w : World) (N : Value → Prop) : Prop:=A3R w N ((execOp a.eval o).run P w)
def A7t (P : Program) (N : Value → World → Prop) : Result Next → Prop
 | .ok (.value v) w'=>N v w'
 | .ok (.enter g args) w'=>Calls P g args w' fun e w''=>∃ u,e = .returned u ∧ N u w''
 | _=>False
def Move (P : Program) (o : Oper) (a : Act) (w : World) (N : Value → World → Prop) : Prop:=A7t P N ((execOp a.eval o).run P w)
section
variable {o : Oper} {r : List (Nat × Oper)} {B : Nat} {tk : List Nat} {a : Act} {F : World → Prop}
theorem gy (v : Value) (hw : Region.wanted o (yielded ops a.tmps) = true) (h : ∀ w,F w → ∀ N : Value → Prop,N v → A1q P o a w N) (hr : OKs P ops L B r tk (a.put o.dst v) F) : OKs P ops L B ((0,o) :: r) tk a F:=by
 refine ⟨v,.inl ⟨hw,fun w hF=>?_⟩,hr⟩
 have h1:=h w hF (fun u=>u = v) rfl
 unfold A1q at h1
 revert h1
 generalize (execOp a.eval o).run P w = res
 intro h1
 cases res with
 | ok n w'' =>
  cases n <;> simp only [A3R] at h1
  obtain ⟨rfl,rfl⟩:=h1
  rfl
 | halt x w''=>simp only [A3R] at h1
theorem gn (hw : Region.wanted o (yielded ops a.tmps) = false) (hr : OKs P ops L B r tk (a.put o.dst undef) F) : OKs P ops L B ((0,o) :: r) tk a F :=
 ⟨undef,.inr ⟨hw,rfl⟩,hr⟩
theorem A66 {X : Type} {f : X → Value} {T : X → World → Prop} {w : World} (hw : Region.wanted o (yielded ops a.tmps) = true)
  (h : ∀ N : Value → World → Prop,(∀ x w',T x w' → A3 w w' → N (f x) w') → Move P o a w N) : T4 P ops o a f T w:=by
 unfold T4
 rw [if_pos hw]
 have h1:=h (fun u w'=>∃ x,u = f x ∧ T x w' ∧ A3 w w') (fun x w' ht hg=>⟨x,rfl,ht,hg⟩)
 unfold Move at h1
 revert h1
 generalize (execOp a.eval o).run P w = res
 intro h1
 cases res with
 | ok n w'' =>
  cases n with
  | value v=>exact h1
  | enter g args =>
   refine Calls.mono h1 fun e w' he=>?_
   obtain ⟨u,rfl,x,rfl,ht,hg⟩:=he
   exact ⟨x,rfl,ht,hg⟩
  | _=>exact (h1 : False).elim
 | halt x w''=>exact (h1 : False).elim
theorem gm (v : Value) (hw : Region.wanted o (yielded ops a.tmps) = true) (h : ∀ w,F w → ∀ N : Value → World → Prop,(∀ w',A3 w w' → N v w') → Move P o a w N) (hr : OKs P ops L B r tk (a.put o.dst v) F) : OKs P ops L B ((1,o) :: r) tk a F :=
 ⟨Unit,fun _=>v,fun _ _=>True,fun _ _ _ _ _=>trivial,fun w hF=>A66 hw fun N hN=>h w hF N fun w' hg=>hN () w' trivial hg,
  fun _=>OKs.weaken _ _ _ _ _ _ (fun _ hw=>hw.1) (fun _ hc=>hc) hr⟩
theorem gx (X : Type) (f : X → Value) (T : X → World → Prop) (hm : ∀ x w w',A3 w w' → T x w → T x w') (hw : Region.wanted o (yielded ops a.tmps) = true)
  (h : ∀ w,F w → ∀ N : Value → World → Prop,(∀ x w',T x w' → A3 w w' → N (f x) w') → Move P o a w N) (hr : ∀ x,OKs P ops L B r tk (a.put o.dst (f x)) (fun w=>F w ∧ T x w)) : OKs P ops L B ((1,o) :: r) tk a F :=
 ⟨X,f,T,hm,fun w hF=>A66 hw fun N hN=>h w hF N hN,hr⟩
theorem gmn (hw : Region.wanted o (yielded ops a.tmps) = false) (hr : OKs P ops L B r tk (a.put o.dst undef) F) : OKs P ops L B ((1,o) :: r) tk a F :=
 ⟨Unit,fun _=>undef,fun _ _=>True,fun _ _ _ _ _=>trivial,fun _ _=>by unfold T4;rw [hw];exact ⟨(),rfl,trivial⟩,
  fun _=>OKs.weaken _ _ _ _ _ _ (fun _ hw=>hw.1) (fun _ hc=>hc) hr⟩
theorem ga {t : TypeId} {zs : Array Value} (hz : N5 P o = .cells zs t) (hr : ∀ b,B ≤ b → b ∉ tk → OKs P ops L B r (b :: tk) (a.put o.dst (.pointer (some ⟨b,0,none⟩))) (fun w=>F w ∧ Blk w b t zs)) : OKs P ops L B ((2,o) :: r) tk a F:=by
 intro b hb hn
 rw [hz]
 exact hr b hb hn
theorem K8 (h : ∀ w,F w → L a w) : OKs P ops L B [] tk a F:=h
end
end
def Bx (u : World) (l : List (Nat × TypeId × Array Value)) : Prop:=∀ e ∈ l,Blk u e.1 e.2.1 e.2.2
theorem Bx.nil (u : World) : Bx u []:=fun _ h=>by cases h
theorem Bx.cons {u : World} {l : List (Nat × TypeId × Array Value)} {b : Nat} {t : TypeId} {cs : Array Value} (h : Blk u b t cs) (hl : Bx u l) : Bx u ((b,t,cs) :: l):=fun e he=>by
 rcases List.mem_cons.1 he with rfl | he
 ·exact h
 ·exact hl e he
theorem Bx.head {u : World} {l : List (Nat × TypeId × Array Value)} {b : Nat} {t : TypeId} {cs : Array Value} (h : Bx u ((b,t,cs) :: l)) : Blk u b t cs:=h (b,t,cs) (by simp)
theorem Bx.tail {u : World} {l : List (Nat × TypeId × Array Value)} {e : Nat × TypeId × Array Value} (h : Bx u (e :: l)) : Bx u l:=fun x hx=>h x (by simp [hx])
theorem Bx.grow {u u' : World} {l : List (Nat × TypeId × Array Value)} (hg : A3 u u') (h : Bx u l) : Bx u' l:=fun e he=>(h e he).grow hg
theorem Blk.cell {w : World} {b : Nat} {t : TypeId} {cs : Array Value} (h : Blk w b t cs) (i : Nat) : w.cell? ⟨b,i,none⟩ = cs[i]?:=cell_of_row w b i cs t (0,0) h
theorem Blk.frozen {w : World} {b : Nat} {t : TypeId} {cs : Array Value} (h : Blk w b t cs) (i : Nat) : w.frozen? ⟨b,i,none⟩ = false:=by
 unfold Blk at h
 simp [World.frozen?,h]
theorem Blk.set_ {w : World} {b : Nat} {t : TypeId} {cs : Array Value} (h : Blk w b t cs) (i : Nat) (u : Value) : Blk (w.setCell ⟨b,i,none⟩ u) b t (cs.setIfInBounds i u):=by
 unfold Blk at h ⊢
 simp [World.setCell,Array.getElem?_modify,h]
theorem Blk.far {w : World} {b : Nat} {t : TypeId} {cs : Array Value} (h : Blk w b t cs) {p : Addr} (hp : b ≠ p.block) (u : Value) : Blk (w.setCell p u) b t cs:=(Below.heap_setCell w p u b hp).trans h
def BxR (u : World) : List (Nat × TypeId × Array Value) → Prop
 | []=>True
 | (b,_,cs) :: l=>(∀ i,u.cell? ⟨b,i,none⟩ = cs[i]?) ∧ (∀ i,u.frozen? ⟨b,i,none⟩ = false) ∧ BxR u l
theorem Bx.r {u : World} : ∀ {l : List (Nat × TypeId × Array Value)},Bx u l → BxR u l
 | [],_=>trivial
 | (_,_,_) :: _,h=>⟨h.head.cell,h.head.frozen,h.tail.r⟩
def Fr (w : World) (l : List Nat) : Prop:=(∀ b ∈ l,w.heap.size ≤ b) ∧ l.Nodup
theorem Fr.nil (w : World) : Fr w []:=⟨fun _ h=>(by cases h),List.nodup_nil⟩
theorem A3.setCell {w u : World} (h : A3 w u) {p : Addr} (hp : w.heap.size ≤ p.block) (v : Value) : A3 w (u.setCell p v):=Below.setCell h hp v
theorem Fr.cons {w : World} {l : List Nat} {b : Nat} (h : Fr w l) (hb : w.heap.size ≤ b) (hn : b ∉ l) : Fr w (b :: l) :=
 ⟨fun c hc=>(List.mem_cons.1 hc).elim (fun e=>e ▸ hb) (h.1 c),List.nodup_cons.2 ⟨hn,h.2⟩⟩
theorem Bx.set {w u : World} {l : List (Nat × TypeId × Array Value)} (h : Bx u l) (hn : Fr w (l.map (·.1))) (k : Nat) {b : Nat} (hk : (l.map (·.1))[k]? = some b) (i : Nat) (v : Value) :
  Bx (u.setCell ⟨b,i,none⟩ v) (l.modify k fun e=>(e.1,e.2.1,e.2.2.setIfInBounds i v)):=fun e he=>by
 obtain ⟨j,hj,hje⟩:=List.mem_iff_getElem.1 he
 rw [List.getElem_modify] at hje
 rw [List.length_modify] at hj
 rw [List.getElem?_map] at hk
 obtain ⟨x,hx,hxb⟩:=Option.map_eq_some_iff.1 hk
 obtain ⟨hkl,hkx⟩:=List.getElem?_eq_some_iff.1 hx
 by_cases hjk : k = j
 ·subst hjk
  rw [if_pos rfl] at hje
  subst hje
  have h1:=h l[k] (List.getElem_mem _)
  rw [hkx] at h1 ⊢
  rw [← hxb]
  exact h1.set_ i v
 ·rw [if_neg hjk] at hje
  subst hje
  refine (h l[j] (List.getElem_mem _)).far (p:=⟨b,i,none⟩) ?_ v
  intro e
  have e1 : l[j].1 = b:=e
  have hlt1 : j < (l.map (·.1)).length:=by simpa using hj
  have hlt2 : k < (l.map (·.1)).length:=by simpa using hkl
  have hnd:=List.pairwise_iff_getElem.1 hn.2
  have e2 : (l.map (·.1))[j] = (l.map (·.1))[k]:=by
   simp only [List.getElem_map,hkx]
   exact e1.trans hxb.symm
  rcases Nat.lt_or_gt_of_ne hjk with hlt | hlt
  ·exact hnd k j hlt2 hlt1 hlt e2.symm
  ·exact hnd j k hlt1 hlt2 hlt e2
section
variable {P : Program} {Q : Exit → Act → World → Prop}
theorem A17 {id : Nat} {a : Act} {w u : World} {l : List Oper} {ts : List TypeId} {bl : List (Nat × TypeId × Array Value)} (hts : ∀ t ∈ ts,M8 P t) (n : Nat) (s : List (Nat × Nat)) (hm : P.follows .mixedOrders = true) (hB : A5F ts l n s = true)
  (hb : Bx u bl) (hG : A3 w u) (h : OKs P l.toArray (fun a' w'=>wpList P l.toArray (NoP Q) (l.drop n) a' w') u.heap.size (E8 l.toArray s) [] a (fun v=>A3 u v ∧ Bx v bl ∧ A3 w v)) : (Code.region id l.toArray true).wp P Q a u :=
 B1b hts n s (fun v=>Bx v bl ∧ A3 w v) hm hB (fun _ _ hg hh=>⟨hh.1.grow hg,hh.2.trans hg⟩) ⟨hb,hG⟩ h
theorem A04 {id : Nat} {a : Act} {w u : World} {l : List Oper} {ts : List TypeId} {bl : List (Nat × TypeId × Array Value)} (hts : ∀ t ∈ ts,M8 P t) (n : Nat) (ks : List Nat) (hB : Y7 ts l n ks = true)
  (hb : Bx u bl) (hG : A3 w u) (h : OKs P l.toArray (fun a' w'=>wpList P l.toArray (NoP Q) (l.drop n) a' w') u.heap.size (ks.zip l) [] a (fun v=>A3 u v ∧ Bx v bl ∧ A3 w v)) : (Code.region id l.toArray false).wp P Q a u :=
 A8m hts n ks (fun v=>Bx v bl ∧ A3 w v) hB (fun _ _ hg hh=>⟨hh.1.grow hg,hh.2.trans hg⟩) ⟨hb,hG⟩ h
theorem B6v {id : Nat} {a : Act} {w u : World} {l : List Oper} {ts : List TypeId} {bl : List (Nat × TypeId × Array Value)} (hts : ∀ t ∈ ts,M8 P t) (n : Nat) (ks : List Nat) (hB : Y7 ts l n ks = true)
  (G : World → Prop) (hGm : ∀ u u',A3 u u' → G u → G u') (hb : Bx u bl) (hG : A3 w u) (hg : G u) (h : OKs P l.toArray (fun a' w'=>wpList P l.toArray (NoP Q) (l.drop n) a' w') u.heap.size (ks.zip l) [] a (fun v=>A3 u v ∧ Bx v bl ∧ A3 w v ∧ G v)) : (Code.region id l.toArray false).wp P Q a u :=
 A8m hts n ks (fun v=>Bx v bl ∧ A3 w v ∧ G v) hB (fun _ _ hg hh=>⟨hh.1.grow hg,hh.2.1.trans hg,hGm _ _ hg hh.2.2⟩) ⟨hb,hG,hg⟩ h
theorem NoP.norm {a : Act} {w : World} (h : Q .normal a w) : NoP Q .normal a w:=h
end
def E9 (u : World) (b i : Nat) : List Value → World
 | []=>u
 | v :: vs=>E9 (u.setCell ⟨b,i,none⟩ v) b (i + 1) vs
def G6 (cs : Array Value) (i : Nat) : List Value → Array Value
 | []=>cs
 | v :: vs=>G6 (cs.setIfInBounds i v) (i + 1) vs
theorem A6S (l : List (Nat × TypeId × Array Value)) (k : Nat) (f : Array Value → Array Value) : (l.modify k fun e=>(e.1,e.2.1,f e.2.2)).map (·.1) = l.map (·.1):=by
 refine List.ext_getElem (by simp) fun i h1 h2=>?_
 simp only [List.getElem_map,List.getElem_modify]
 split <;> rfl
theorem B0X (l : List (Nat × TypeId × Array Value)) (k : Nat) (f g : Array Value → Array Value) : (l.modify k fun e=>(e.1,e.2.1,f e.2.2)).modify k (fun e=>(e.1,e.2.1,g e.2.2)) = l.modify k fun e=>(e.1,e.2.1,g (f e.2.2)):=by
 refine List.ext_getElem (by simp) fun i h1 h2=>?_
 simp only [List.getElem_modify]
 split <;> rfl
theorem Bx.put {w : World} (k : Nat) {b : Nat} : ∀ (vs : List Value) (i : Nat) (u : World) (l : List (Nat × TypeId × Array Value)),Bx u l → Fr w (l.map (·.1)) → (l.map (·.1))[k]? = some b →
  Bx (E9 u b i vs) (l.modify k fun e=>(e.1,e.2.1,G6 e.2.2 i vs))
 | [],_,_,l,h,_,_=>by
  have : (l.modify k fun e=>(e.1,e.2.1,G6 e.2.2 0 [])) = l:=by
   refine List.ext_getElem (by simp) fun j h1 h2=>?_
   simp only [List.getElem_modify,G6]
   split <;> rfl
  simp only [G6] at this ⊢
  rw [this]
  exact h
 | v :: vs,i,u,l,h,hf,hk=>by
  have h1:=Bx.put k vs (i + 1) (u.setCell ⟨b,i,none⟩ v) _ (h.set hf k hk i v) (by rw [A6S l k (fun c=>c.setIfInBounds i v)];exact hf) (by rw [A6S l k (fun c=>c.setIfInBounds i v)];exact hk)
  rw [B0X l k (fun c=>c.setIfInBounds i v) (fun c=>G6 c (i + 1) vs)] at h1
  exact h1
theorem A3.put {w : World} {b : Nat} (hb : w.heap.size ≤ b) : ∀ (vs : List Value) (i : Nat) (u : World),A3 w u → A3 w (E9 u b i vs)
 | [],_,_,h=>h
 | v :: vs,i,_,h=>A3.put hb vs (i + 1) _ (h.setCell (p:=⟨b,i,none⟩) hb v)
theorem Bx.over {w u u' : World} {l : List (Nat × TypeId × Array Value)} (h : Bx u l) (hf : Fr w (l.map (·.1))) (hG : A3 w u) (k : Nat) {b : Nat} (hk : (l.map (·.1))[k]? = some b) (i : Nat) (vs : List Value) (hu : E9 u b i vs = u') :
  Bx u' (l.modify k fun e=>(e.1,e.2.1,G6 e.2.2 i vs)) ∧ A3 w u':=by
 subst hu
 exact ⟨Bx.put k vs i u l h hf hk,A3.put (hf.1 b (List.mem_of_getElem? hk)) vs i u hG⟩
def A8T (w : World) : List (TypeId × Array Value) → World
 | []=>w
 | (t,cs) :: l=>A8T (w.alloc (.cells cs t)) l
def K4 (n : Nat) : List (TypeId × Array Value) → List (Nat × TypeId × Array Value)
 | []=>[]
 | (t,cs) :: l=>(n,t,cs) :: K4 (n + 1) l
theorem H8 (w : World) (o : Obj) : (w.alloc o).heap.size = w.heap.size + 1:=by simp
theorem R6 : ∀ (l : List (TypeId × Array Value)) (w u : World),A8T w l = u → Bx u (K4 w.heap.size l) ∧ A3 w u
 | [],w,u,h=>by
  have : w = u:=h
  subst this
  exact ⟨Bx.nil _,A3.refl _⟩
 | (t,cs) :: l,w,u,h=>by
  obtain ⟨h1,h2⟩:=R6 l (w.alloc (.cells cs t)) u h
  rw [H8] at h1
  exact ⟨Bx.cons ((Blk.new w t cs).grow h2) h1,(A3.alloc w _).trans h2⟩
theorem A40 : ∀ (l : List (TypeId × Array Value)) (n b : Nat),b ∈ (K4 n l).map (·.1) → n ≤ b
 | [],_,_,h=>by simp [K4] at h
 | (_,_) :: l,n,b,h=>by
  simp only [K4,List.map_cons,List.mem_cons] at h
  rcases h with h | h
  ·omega
  ·have := A40 l (n + 1) b h;omega
theorem U9 (w : World) (l : List (TypeId × Array Value)) : Fr w ((K4 w.heap.size l).map (·.1)):=by
 refine ⟨fun b hb=>A40 l _ b hb,?_⟩
 generalize w.heap.size = n
 induction l generalizing n with
 | nil=>simp [K4]
 | cons e l ih =>
  obtain ⟨t,cs⟩:=e
  simp only [K4,List.map_cons,List.nodup_cons]
  exact ⟨fun h=>by have := A40 l _ _ h;omega,ih (n + 1)⟩
theorem Bx.far_ {u : World} {l : List (Nat × TypeId × Array Value)} (h : Bx u l) {p : Addr} (hp : ∀ e ∈ l,e.1 ≠ p.block) (v : Value) : Bx (u.setCell p v) l:=fun e he=>(h e he).far (hp e he) v
theorem Bx.grown_ {u u' : World} {row : Option Nat} {l : List (Nat × TypeId × Array Value)} (h : Bx u l) (hg : u.grownBy u' row) (hp : ∀ e ∈ l,some e.1 ≠ row) : Bx u' l:=fun e he=>(hg.block e.1 (h e he).lt (hp e he)).trans (h e he)
theorem A3.grown {w u u' : World} {row : Option Nat} (h : A3 w u) (hg : u.grownBy u' row) (hr : ∀ k,row = some k → w.heap.size ≤ k) : A3 w u':=Below.grown h hg h.size hr
theorem Bx.fresh {u : World} {l : List (Nat × TypeId × Array Value)} (h : Bx u l) {b : Nat} (hb : u.heap.size ≤ b) : b ∉ l.map (·.1):=fun hm=>by
 obtain ⟨e,he,rfl⟩:=List.mem_map.1 hm
 have := (h e he).lt
 omega
theorem Fr.new {w u : World} {l : List (Nat × TypeId × Array Value)} {tk : List Nat} {b : Nat} (hF : Fr w (tk ++ l.map (·.1))) (hB : Bx u l) (hG : A3 w u) (hb : u.heap.size ≤ b) (hn : b ∉ tk) : Fr w ((b :: tk) ++ l.map (·.1)) :=
 hF.cons (Nat.le_trans hG.size hb) (fun hm=>(List.mem_append.1 hm).elim hn (hB.fresh hb))
def A22 (w : World) (N : Value → Prop) : Result Value → Prop
 | .ok v w'=>w' = w ∧ N v
 | _=>False
theorem A7s {P : Program} {fn : Func} {R : Ending → World → Prop} {a : Act} {w : World} (hd : a.defers = []) (h : ∀ N : Value → Prop,(∀ v,R (.returned v) w → N v) → A22 w N ((results fn a.tmps).run P w)) : Code.ret.wp P (bodyPost P fn R) a w:=by
 refine wp_ret ?_
 have h1:=h (fun v=>R (.returned v) w) (fun v hv=>hv)
 revert h1
 cases hres : (results fn a.tmps).run P w with
 | ok v w' =>
  rintro ⟨rfl,hv⟩
  exact bodyPost_ret hres hd hv
 | halt x w'=>exact fun h=>(h : False).elim
theorem B4o {P : Program} {fn : Func} {R : Ending → World → Prop} {Q : Exit → Act → World → Prop} {a : Act} {w : World} (hQ : bodyPost P fn R .ret a w → Q .ret a w) (hd : a.defers = []) (h : ∀ N : Value → Prop,(∀ v,R (.returned v) w → N v) → A22 w N ((results fn a.tmps).run P w)) : Code.ret.wp P Q a w:=by
 refine wp_ret (hQ ?_)
 have h1:=h (fun v=>R (.returned v) w) (fun v hv=>hv)
 revert h1
 cases hres : (results fn a.tmps).run P w with
 | ok v w' =>
  rintro ⟨rfl,hv⟩
  exact bodyPost_ret hres hd hv
 | halt x w'=>exact fun h=>(h : False).elim
theorem A4 {n : Act → World → Prop} {Q : Exit → Act → World → Prop} {a : Act} {w : World} (h : n a w) : Exit.then n Q .normal a w:=h
theorem A8u {P : Program} {fn : Func} {R : Ending → World → Prop} {n : Act → World → Prop} {a : Act} {w : World} (hd : a.defers = []) (h : ∀ N : Value → Prop,(∀ v,R (.returned v) w → N v) → A22 w N ((results fn a.tmps).run P w)) : Code.ret.wp P (Exit.then n (bodyPost P fn R)) a w :=
 B4o (fn:=fn) (R:=R) (fun h=>h) hd h
attribute [go_sem] A3R A1q A7t Move A22
end Go.Proofs.YtlkniebmjdoopaaGreatDoor
