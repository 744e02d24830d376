/- Contracts and laws. -/
import Derived.Test.YtgpglgbcobeogaaGreatDoorU31
import Derived.Deep.Onto
set_option linter.unusedSimpArgs false
set_option linter.unusedVariables false
set_option maxHeartbeats 2000000
set_option maxRecDepth 100000
namespace Go.Proofs.YtgpglgbcobeogaaGreatDoor
open Go Go.RowKit
def A2d {V : Type} : List V → Nat → List V → List V
 | xs,_,[]=>xs
 | xs,i,v :: vs=>A2d (xs.set i v) (i + 1) vs
theorem A8y {V : Type} : ∀ (vs ys fa fb : List V),ys.length = vs.length → A2d (fa ++ (ys ++ fb)) fa.length vs = fa ++ (vs ++ fb)
 | [],ys,fa,fb,h=>by
  obtain rfl : ys = []:=List.length_eq_zero_iff.1 h
  rfl
 | v :: vs,[],fa,fb,h=>by cases h
 | v :: vs,y :: ys,fa,fb,h=>by
  show A2d ((fa ++ (y :: ys ++ fb)).set fa.length v) (fa.length + 1) vs = _
  have e : (fa ++ (y :: ys ++ fb)).set fa.length v = (fa ++ [v]) ++ (ys ++ fb):=by
   simp [List.set_append_right]
  rw [e,show fa.length + 1 = (fa ++ [v]).length by simp,A8y vs ys _ fb (by simpa using h)]
  simp
theorem A3a {V α : Type} {enc : α → List V} {size : Nat} (he : ∀ x,(enc x).length = size) : ∀ ps : List α,(ps.flatMap enc).length = ps.length * size
 | []=>by simp
 | p :: ps=>by rw [List.flatMap_cons,List.length_append,A3a he ps,he,List.length_cons,Nat.add_mul];omega
theorem B3a {V α : Type} {enc : α → List V} {size : Nat} (he : ∀ x,(enc x).length = size) (ps : List α) (k : Nat) (z : α) (hk : k < ps.length) : A2d (ps.flatMap enc) (k * size) (enc z) = (ps.set k z).flatMap enc:=by
 have e : ps = ps.take k ++ (ps[k] :: ps.drop (k + 1)):=by rw [← List.drop_eq_getElem_cons hk,List.take_append_drop]
 have e2 : ps.set k z = ps.take k ++ (z :: ps.drop (k + 1)):=by
  rw [List.set_eq_take_append_cons_drop,if_pos hk]
 rw [e2]
 conv=>lhs;rw [e]
 rw [List.flatMap_append,List.flatMap_cons,List.flatMap_append,List.flatMap_cons]
 have hl : ((ps.take k).flatMap enc).length = k * size:=by rw [A3a he,List.length_take,Nat.min_eq_left (by omega)]
 have := A8y (enc z) (enc ps[k]) ((ps.take k).flatMap enc) ((ps.drop (k + 1)).flatMap enc) (by rw [he,he])
 rw [hl] at this
 exact this
theorem A72 {V α : Type} {enc : α → List V} {size : Nat} (he : ∀ x,(enc x).length = size) (ps : List α) (k j : Nat) (hk : k < ps.length) (hj : j < size) : (ps.flatMap enc)[k * size + j]? = (enc ps[k])[j]?:=by
 have e : ps = ps.take k ++ (ps[k] :: ps.drop (k + 1)):=by rw [← List.drop_eq_getElem_cons hk,List.take_append_drop]
 have hl : ((ps.take k).flatMap enc).length = k * size:=by rw [A3a he,List.length_take,Nat.min_eq_left (by omega)]
 conv=>lhs;rw [e]
 rw [List.flatMap_append,List.flatMap_cons,List.getElem?_append_right (by omega),hl,Nat.add_sub_cancel_left,List.getElem?_append_left (by rw [he];exact hj)]
theorem A2L {u u1 u2 : World} {r : Option Nat} (h : u.grownBy u1 r) (h' : u1.grownBy u2 r) : u.grownBy u2 r:=by
 obtain ⟨a1,a2,a3,a4,a5⟩:=h
 obtain ⟨b1,b2,b3,b4,b5⟩:=h'
 exact ⟨b1.trans a1,b2.trans a2,b3.trans a3,Nat.le_trans a4 b4,fun k hk hr=>(b5 k (Nat.lt_of_lt_of_le hk a4) hr).trans (a5 k hk hr)⟩
theorem A7J {B : Nat} {e : TypeId} {size g cap n : Nat} : ∀ (vs : List Value) (i : Nat) (u : World) (xs : List Value),u.ownsRow B e size (.slice (some ⟨g,0,none⟩) n cap) n xs →
  (D1 u g i vs).ownsRow B e size (.slice (some ⟨g,0,none⟩) n cap) n (A2d xs i vs) ∧ u.grownBy (D1 u g i vs) (some g)
 | [],i,u,xs,h=>⟨h,⟨rfl,rfl,rfl,Nat.le_refl _,fun _ _ _=>rfl⟩⟩
 | v :: vs,i,u,xs,h=>by
  obtain ⟨h1,h2⟩:=h.stored i v
  obtain ⟨h3,h4⟩:=A7J vs (i + 1) _ _ h1
  exact ⟨h3,A2L h2 h4⟩
theorem R6 {α : Type} {enc : α → List Value} {B : Nat} {e : TypeId} {size g cap n : Nat} (he : ∀ x,(enc x).length = size) {u : World} {ps : List α} (h : u.ownsRow B e size (.slice (some ⟨g,0,none⟩) n cap) n (ps.flatMap enc)) (k : Nat) (z : α) (hk : k < ps.length) :
  (D1 u g (k * size) (enc z)).ownsRow B e size (.slice (some ⟨g,0,none⟩) n cap) n ((ps.set k z).flatMap enc) ∧ u.grownBy (D1 u g (k * size) (enc z)) (some g):=by
 have := A7J (enc z) (k * size) u _ h
 rw [B3a he ps k z hk] at this
 exact this
theorem Z7 {α : Type} {enc : α → List Value} {B : Nat} {e : TypeId} {size g cap n : Nat} (he : ∀ x,(enc x).length = size) {u : World} {ps : List α} (h : u.ownsRow B e size (.slice (some ⟨g,0,none⟩) n cap) n (ps.flatMap enc)) (hn : n = ps.length) (k j : Nat) (hk : k < ps.length) (hj : j < size) :
  u.cell? ⟨g,k * size + j,none⟩ = (enc ps[k])[j]?:=by
 have hlt : k * size + j < n * size:=by
  have : k * size + size ≤ ps.length * size:=by rw [← Nat.succ_mul];exact Nat.mul_le_mul_right _ hk
  rw [hn];omega
 rw [h.cellAt (k * size + j) hlt,A72 he ps k j hk hj]
def O5 (v v2 : Value) : Prop:=∀ g,v.ownBlock = some g → v2.ownBlock = some g → False
theorem O5.symm {v v2 : Value} (h : O5 v v2) : O5 v2 v:=fun g h1 h2=>h g h2 h1
theorem A0S {u : World} {B : Nat} {e : TypeId} {size n : Nat} {v : Value} {xs : List Value} (h : u.ownsRow B e size v n xs) (h0 : 0 < n) : ∃ g cap,v = .slice (some ⟨g,0,none⟩) n cap ∧ B ≤ g ∧ n ≤ cap:=by
 obtain ⟨_,h | ⟨g,cap,cur,rfl,hb',hh,hn,hc',hs,ht2⟩⟩:=h
 ·omega
 ·exact ⟨g,cap,rfl,hb',hn⟩
theorem N5 {u : World} {B B' : Nat} {e e' : TypeId} {s s' : Nat} {v v' : Value} {n n' : Nat} {xs xs' : List Value} (h : u.ownsRow B e s v n xs) (h' : u.ownsRow B' e' s' v' n' xs') (hne : e ≠ e') : O5 v v':=fun g h1 h2=>by
 obtain ⟨_,h | ⟨g1,cap,cur,rfl,hb,hh,hn,hc,hs,ht⟩⟩:=h
 ·rw [h.1] at h1;cases h1
 ·obtain ⟨_,h' | ⟨g2,cap',cur',rfl,hb',hh',hn',hc',hs',ht'⟩⟩:=h'
  ·rw [h'.1] at h2;cases h2
  ·have e1 : g = g1:=Option.some.inj h1.symm
   have e2 : g = g2:=Option.some.inj h2.symm
   rw [← e1] at hh
   rw [← e2,hh] at hh'
   injection hh' with hh'
   injection hh' with _ h3 _
   exact hne h3
theorem S8 {w u u' : World} {e : TypeId} {size n : Nat} {v : Value} {xs : List Value} (h : u.ownsRow w.heap.size e size v n xs) (hG : A4 w u) (hg : u.grownBy u' v.ownBlock) : A4 w u':=hG.grown hg fun k hk=>(h.lt k hk).1
theorem B5k {ops : Array Oper} {a : Act} {u : World} {K : Act → World → Prop} {d2 : Option Nat} {s z : Operand} {t2 : TypeId} {p2 : String} {f2 : Array Edge} {rest : List Oper} {T e : TypeId} {size bytes : Nat} (hE : EI T e size bytes)
  (B : Nat) (v : Value) (n : Nat) (xs : List Value) (b : Nat) (ys : List Value) (hy : ys.length = size) (h1 : (ys.all fun y=>y.oneCell') = true) (hblk : Blk u b e ys.toArray)
  (hs : a.eval s = v) (hz : a.eval z = .slice (some ⟨b,0,none⟩) 1 1)
  (hown : u.ownsRow B e size v n xs) (hl : n + 1 ≤ 1099511627776) (hl2 : (n + 1) * bytes ≤ 140737488355328) (hB : B ≤ u.heap.size)
  (h : ∀ v' w',w'.ownsRow B e size v' (n + 1) (xs ++ ys) → u.grownBy w' v.ownBlock → (v'.ownBlock = v.ownBlock ∨ v'.ownBlock = some u.heap.size) → wpList Tryz.prog ops (NoK K) rest (a.put d2 v') w') :
  wpList Tryz.prog ops (NoK K) (⟨d2,.call { callee:=.builtin .append,args:=#[s,z],argTypes:=#[T,T] },t2,p2,f2,none⟩ :: rest) a u:=by
 obtain ⟨hund,⟨i0,z0,hi0,hz0,hz1,hz2,hz3⟩,hpos⟩:=hE
 refine wpList_append_own_at u (a:=a) (Q:=NoK K) rfl s z T rfl B e i0 z0 size bytes hund hi0 hz0 hz1 hz2 hz3 hpos v n xs hs hown ⟨b,0,none⟩ 1 1 ys hz (by rw [hy];omega) ?_ (fun y hy=>List.all_eq_true.1 h1 y hy) (by unfold maxLen;omega) hl2 hB fun v' w' g1 g2 _ g4=>h v' w' g1 g2 g4
 intro j y hj
 rw [Go.WideShapes.add_plain,Nat.zero_add,Blk.cell hblk j,List.getElem?_toArray]
 exact hj
theorem B3G (A : Option Addr) (l : List Int) (c p m : Nat) (hp : p = l.length) (hc : p ≤ c) (hm : m ≤ p) (w : World) (h : Li w A l) : ∃ A' : Option Addr,(∀ W,(Instr.slice 22 (.slice A p c) (some (.int .i64 (m : Nat))) none none).run Tryz.prog W = .ok (.slice A' (p - m) (c - m)) W) ∧ Li w A' (l.drop m):=by
 refine ⟨if c = m then A else A.map (·.add m),fun W=>?_,fun hne=>?_⟩
 ·have h3 : (m : Int) ≤ (p : Int):=by omega
  have h4 : ¬ p < m:=by omega
  clear hp h
  go_simp
 ·have hlt : m < l.length:=by
   refine Decidable.byContradiction fun hh=>hne ?_
   exact List.drop_eq_nil_of_le (by omega)
  obtain ⟨b,off,rfl,hb,hx⟩:=h (fun e=>by rw [e] at hlt;cases hlt)
  rw [if_neg (by omega)]
  refine ⟨b,off + m,by simp [Addr.add],hb,fun i x hi=>?_⟩
  rw [List.getElem?_drop] at hi
  rw [Nat.add_assoc]
  exact hx (m + i) x hi
abbrev Zw:=Ax × List Zr
abbrev zwV (r : Zw) : Value:=.slice r.1.1 r.2.length r.1.2
def Q6 (B : Nat) (W : World) (rws : List Zw) : Prop:=(∀ r ∈ rws,I4 W r.2 ∧ W.ownsRow B 33 3 (zwV r) r.2.length (r.2.flatMap zrL)) ∧ rws.Pairwise (fun a b=>O5 (zwV a) (zwV b))
theorem Q6.nil (B : Nat) (W : World) : Q6 B W []:=⟨fun _ h=>(by cases h),List.Pairwise.nil⟩
theorem Q6.grow {B : Nat} {u u' : World} {rws : List Zw} (h : Q6 B u rws) (hg : A4 u u') : Q6 B u' rws:=⟨fun r hr=>⟨(h.1 r hr).1.grow hg,D3 (h.1 r hr).2 hg⟩,h.2⟩
theorem Q6.own {B0 : Nat} {u w' : World} {B : Nat} {e : TypeId} {size n : Nat} {v : Value} {xs : List Value} {o : Obj} {rws : List Zw} (hl : Q6 B0 u rws) (h : u.ownsRow B e size v n xs) (ht : e ≠ 193 ∧ e ≠ 33) (hg : (u.alloc o).grownBy w' v.ownBlock) : Q6 B0 w' rws:=⟨fun r hr=>⟨(hl.1 r hr).1.own h ht.1 hg,by
 have h2:=(hl.1 r hr).2
 refine (h2.alloc o).kept hg ?_
 cases hb : (zwV r).ownBlock with
 | none=>exact .inl rfl
 | some g=>exact .inr fun e1=>N5 h h2 ht.2 g e1.symm hb⟩,hl.2⟩
def A1Z (B k : Nat) (q : List Rat) (x : Zw) (W : World) : Prop:=(x.2.map (·.2) = q ∧ x.2.length = k) ∧ I4 W x.2 ∧ W.ownsRow B 33 3 (zwV x) x.2.length (x.2.flatMap zrL)
theorem A1Z.grow {B k : Nat} {q : List Rat} {x : Zw} {u u' : World} (hg : A4 u u') (h : A1Z B k q x u) : A1Z B k q x u':=⟨h.1,h.2.1.grow hg,D3 h.2.2 hg⟩
theorem Q6.snoc {B k : Nat} {q : List Rat} {u v : World} {rws : List Zw} {x : Zw} (h : Q6 B u rws) (hg : A4 u v) (hB : B ≤ u.heap.size) (h1 : A1Z u.heap.size k q x v) : Q6 B v (rws ++ [x]):=by
 refine ⟨fun r hr=>?_,?_⟩
 ·rcases List.mem_append.1 hr with hr | hr
  ·exact (h.grow hg).1 r hr
  ·have : r = x:=by simpa using hr
   subst this
   exact ⟨h1.2.1,h1.2.2.mono hB⟩
 ·rw [List.pairwise_append]
  refine ⟨h.2,by simp,fun a ha b hb=>?_⟩
  have : b = x:=by simpa using hb
  subst this
  intro g e1 e2
  have h3:=((h.1 a ha).2.lt g e1).2
  have h4:=(h1.2.2.lt g e2).1
  omega
def A1J (l : List Int) (n k : Nat) : List (List Rat):=(List.range n).map fun i=>N8 (l.drop (min l.length (i * k))) k
theorem B5R (l : List Int) (n k : Nat) : A1J l (n + 1) k = A1J l n k ++ [N8 (l.drop (min l.length (n * k))) k]:=by unfold A1J;rw [List.range_succ,List.map_append];rfl
def A2p (rws : List Zw) : List (List Rat):=rws.map fun r=>r.2.map (·.2)
theorem B5v (rws : List Zw) (x : Zw) : A2p (rws ++ [x]) = A2p rws ++ [x.2.map (·.2)]:=by unfold A2p;simp
theorem B4J : EI 23 25 1 24:=A1G (by kernel_rfl) (by kernel_rfl) (by omega)
theorem B3y (A : Option Addr) (n c : Nat) (w : World) : (Instr.buildSlice 23 1 #[(0,.slice A n c)]).run Tryz.prog w = .ok (.slice (some ⟨w.heap.size,0,none⟩) 1 1) (w.alloc (.cells #[.slice A n c] 25)):=by
 go_simp
theorem B0T (A : Option Addr) (l : List Int) (c p n k : Nat) (hp : p = l.length) (hc : p ≤ c) (hn : n ≤ 1048576) (hk : k ≤ 1048576) (hpm : p ≤ 9223372036854775807) (hb : ∀ x ∈ l,-9223372036854775808 ≤ x ∧ x ≤ 9223372036854775807) (w : World) (h : Li w A l) :
  Calls Tryz.prog 56 #[.slice A p c,.int .i64 n,.int .i64 k] w fun e w'=>∃ (v : Value) (rws : List Zw),e = .returned v ∧ A2p rws = A1J l n k ∧ Q6 w.heap.size w' rws ∧ w'.ownsRow w.heap.size 25 1 v n (rws.map zwV) ∧ A4 w w':=by
 have H:=Lib.hid h
 have Hp:=Lib.hid hp
 have Hb:=Lib.hid hb
 clear h hp hb
 go_enter Tryz.func56,Tryz.ntmps56
 refine en0 ?_
 intro u hG hB hF
 refine r0T ?_
 refine wp_seq ?_
 refine r0T ?_
 refine wp_block ?_
 clear hB hF
 go_loopw [8,7] (fun s0 s1 wr=>∃ (i : Nat) (rws : List Zw),i ≤ n ∧ s0 = .int .i64 i ∧ A2p rws = A1J l i k ∧ Q6 w.heap.size wr rws ∧ wr.ownsRow w.heap.size 25 1 s1 i (rws.map zwV) ∧ A4 w wr) (fun s0 _ _=>n - (intOf s0).toNat)
 case atStart=>exact ⟨0,[],Nat.zero_le _,rfl,rfl,Q6.nil _ _,World.ownsRow_nil _ _ _ _,hG⟩
 case round =>
  clear hG
  obtain ⟨i,rws,hi,rfl,hps,hA,ho,hG⟩:=hrel
  obtain ⟨u,rfl⟩ : ∃ x,x = wr:=⟨_,rfl⟩
  have hB:=Bx.nil u
  have hF:=Fr.nil w
  have Ho:=Lib.hid ho
  have Hps:=Lib.hid hps
  clear ho hps
  rcases Nat.lt_or_ge i n with hlt | hge
  ·have hdec : decide ((i : Int) < (n : Int)) = true:=by simp;omega
   have hsu:=B5R l i k
   obtain ⟨ik,hik⟩ : ∃ x,x = i * k:=⟨_,rfl⟩
   have hikb : ik ≤ 1048576 * 1048576:=by rw [hik];exact Nat.mul_le_mul (by omega) hk
   have fik : IntKind.i64.wrap ((i : Int) * (k : Int)) = (ik : Int):=by rw [hik,Int.natCast_mul];exact IntWalk.i64_in _ (by rw [← Int.natCast_mul,← hik];omega)
   obtain ⟨m,hm⟩ : ∃ x,x = min p ik:=⟨_,rfl⟩
   have fmin : min (p : Int) (ik : Int) = (m : Int):=by omega
   have hmp : m ≤ p:=by omega
   rw [← hik,← Hp.out,← hm] at hsu
   obtain ⟨A',hsl,hLi⟩:=B3G A l c p m Hp.out hc hmp w H.out
   have hrw : ∀ W,A4 u W → Calls Tryz.prog 31 #[.slice A' (p - m) (c - m),.int .i64 k] W (G5 (fun x : Zw=>.slice x.1.1 k x.1.2) (fun x W'=>A1Z u.heap.size k (N8 (l.drop m) k) x W') W):=fun W hg =>
    (A5v A' (l.drop m) (c - m) (p - m) k (by rw [List.length_drop,Hp.out]) hk (by omega) (fun x hx=>Hb.out x (List.mem_of_mem_drop hx)) W (hLi.grow (hG.trans hg))).mono fun e w' ⟨v,ps,he,h1,h2,h3,h4⟩=>by
     obtain ⟨A2,cc,rfl,hcc1,hcc2,hL,hkl⟩:=A31 h3 h2
     refine ⟨((A2,cc),ps),he,⟨⟨h1,hkl.symm⟩,h2,?_⟩,h4⟩
     rw [hkl] at h3
     exact h3.mono hg.size
   obtain ⟨pm,hpm2⟩ : ∃ x,x = p - m:=⟨_,rfl⟩
   obtain ⟨cm,hcm⟩ : ∃ x,x = c - m:=⟨_,rfl⟩
   rw [← hpm2,← hcm] at hrw
   simp only [← hpm2,← hcm] at hsl
   obtain ⟨q,hq⟩ : ∃ x,x = N8 (l.drop m) k:=⟨_,rfl⟩
   rw [← hq] at hsu
   simp only [← hq] at hrw
   have Hrw:=Lib.hid hrw
   have Hsu:=Lib.hid hsu
   obtain ⟨B0,hB0⟩ : ∃ x,x = u.heap.size:=⟨_,rfl⟩
   have hBB : w.heap.size ≤ u.heap.size:=hG.sz
   clear hrw hsu hLi hpm2 hcm hm hik hikb hq hB0
   refine wp_seq ?_
   refine r0T ?_
   refine wp_cond_true (rfl) ?_
   refine wp_skip ?_
   refine A6 ?_
   refine wp_seq ?_
   refine wp_block ?_
   have hA0:=Lib.hid hA
   refine S3 (w:=w) A8 11 [0,0,0,0,0,0,0,0,0,0,1] (by kernel_rfl) (by simp only [List.drop_succ_cons,List.drop_zero];exact rfl) (fun _=>True) noG hB hG trivial ?_
   intro K L hN hL
   simp only [List.zip_cons_cons,List.zip_nil_left]
   refine gs ?_
   refine gxd (X:=Zw) (fun x : Zw=>.slice x.1.1 k x.1.2) (fun x W=>A1Z u.heap.size k q x W) (fun x u u' hg h=>A1Z.grow hg h) (fun x24=>?_) (C:=by (rintro v ⟨hgu,hB,hG,-⟩;exact Hrw.out _ hgu))
   refine H6 ?_
   rintro v ⟨⟨hgu,hB1,hG1,-⟩,hx24⟩
   replace hA:=hA.grow hgu
   have ROWn:=Lib.hid (D3 Ho.out hgu)
   clear Ho
   have Ho:=ROWn
   clear ROWn
   have hA2:=hA0.out.snoc hgu hBB hx24
   have hk2:=hx24.1
   clear hA hA0 hx24
   have hA:=hA2
   clear hA2
   clear hB hG
   have hB:=hB1
   have hG:=hG1
   clear hB1 hG1
   refine hL _ _ ?_
   clear hL L hgu
   obtain ⟨u,rfl⟩ : ∃ x,x = v:=⟨_,rfl⟩
   refine T8 B4J w.heap.size _ _ _ _ [.slice x24.1.1 k x24.1.2] rfl rfl (B3y x24.1.1 k x24.1.2 u) rfl (fun _=>rfl) (fun _=>rfl) (fun _ _=>rfl) Ho.out (by omega) (by omega) hG.sz fun p v' w' g1 g2 g3=>?_
   have hBn:=Bx.nil w'
   have hGn:=T7 Ho.out hG g2
   replace hA:=hA.own Ho.out (by decide) g2
   clear Ho hB hG
   have Ho:=Lib.hid g1
   have hB:=hBn
   have hG:=hGn
   clear g1 g2 g3 hBn hGn
   obtain ⟨u,rfl⟩ : ∃ x,x = w':=⟨_,rfl⟩
   simp only [Act.put,List.setIfInBounds_toArray,List.set_cons_succ,List.set_cons_zero]
   refine NoK.norm (hN _ _ ?_)
   clear hN K
   refine E3 ?_
   refine A6 ?_
   refine r0E ?_
   refine A6 ?_
   go_roundw
   case rel=>exact ⟨i + 1,rws ++ [x24],by omega,by go_num,by rw [B5v,Hps.out,Hsu.out,hk2.1],hA,by have := Ho.out;rw [List.map_append];simpa [zwV,hk2.2] using this,hG⟩
   case measure=>simp [intOf];omega
  ·obtain rfl : n = i:=by omega
   have hdec : decide ((n : Int) < (n : Int)) = false:=by simp
   refine wp_seq ?_
   refine r0T ?_
   refine wp_cond_false (rfl) ?_
   refine wp_exit ?_
   refine B9 ?_
   refine B9 ?_
   refine E9 ?_
   refine A6 ?_
   refine r0T ?_
   refine rt Tryz.results56 ?_
   exact ⟨_,rws,rfl,Hps.out,hA,Ho.out,hG⟩
def Lrz (u : World) (A : Option Addr) (rs : List Rq) : Prop :=
 rs ≠ [] → ∃ b off,A = some ⟨b,off,none⟩ ∧ b < u.heap.size ∧ ∀ i r,rs[i]? = some r → u.cell? ⟨b,off + i,none⟩ = some (.slice r.1 r.2.2.length r.2.1) ∧ Lz u r.1 r.2.2
theorem Lrz.grow {u u' : World} {A : Option Addr} {rs : List Rq} (h : Lrz u A rs) (hg : A4 u u') : Lrz u' A rs:=fun hn=>by
 obtain ⟨b,off,e,hb,hc⟩:=h hn
 exact ⟨b,off,e,Nat.lt_of_lt_of_le hb hg.size,fun i r hi=>⟨(hg.cell (p:=⟨b,off + i,none⟩) hb).trans (hc i r hi).1,(hc i r hi).2.grow hg⟩⟩
theorem Lrz.addr {u : World} {A : Option Addr} {rs : List Rq} (h : Lrz u A rs) (hl : 0 < rs.length) : ∃ b off,A = some ⟨b,off,none⟩:=by
 obtain ⟨b,off,e,_⟩:=h (fun h0=>by rw [h0] at hl;cases hl)
 exact ⟨b,off,e⟩
theorem Lrz.read {u : World} {b off : Nat} {rs : List Rq} (h : Lrz u (some ⟨b,off,none⟩) rs) {i : Nat} {r : Rq} (hi : rs[i]? = some r) : u.cell? ⟨b,off + i,none⟩ = some (.slice r.1 r.2.2.length r.2.1) ∧ Lz u r.1 r.2.2:=by
 obtain ⟨b',off',e,_,hc⟩:=h (fun h0=>by rw [h0] at hi;simp at hi)
 cases e
 exact hc i r hi
abbrev A1i (r : Rq) : Value:=.slice r.1 r.2.2.length r.2.1
def R5 (B : Nat) (W : World) (rs : List Rq) : Prop:=∀ r ∈ rs,W.ownsRow B 48 5 (A1i r) r.2.2.length (r.2.2.flatMap qL)
theorem R5.nil (B : Nat) (W : World) : R5 B W []:=fun _ h=>by cases h
theorem R5.grow {B : Nat} {u u' : World} {rs : List Rq} (h : R5 B u rs) (hg : A4 u u') : R5 B u' rs:=fun r hr=>D3 (h r hr) hg
theorem R5.own {B0 : Nat} {u w' : World} {B : Nat} {e : TypeId} {size n : Nat} {v : Value} {xs : List Value} {o : Obj} {rs : List Rq} (hl : R5 B0 u rs) (h : u.ownsRow B e size v n xs) (ht : e ≠ 48) (hg : (u.alloc o).grownBy w' v.ownBlock) : R5 B0 w' rs:=fun r hr=>by
 have h2:=hl r hr
 refine (h2.alloc o).kept hg ?_
 cases hb : (A1i r).ownBlock with
 | none=>exact .inl rfl
 | some g=>exact .inr fun e1=>N5 h h2 ht g e1.symm hb
def A1l (B k : Nat) (q : List Rat) (x : Ax) (W : World) : Prop:=q.length = k ∧ W.ownsRow B 48 5 (.slice x.1 k x.2) k (q.flatMap qL)
theorem A1l.grow {B k : Nat} {q : List Rat} {x : Ax} {u u' : World} (hg : A4 u u') (h : A1l B k q x u) : A1l B k q x u':=⟨h.1,D3 h.2 hg⟩
theorem R5.snoc {B k : Nat} {q : List Rat} {v : World} {rs : List Rq} {x : Ax} (h : R5 B v rs) (h1 : A1l B k q x v) : R5 B v (rs ++ [(x.1,x.2,q)]):=fun r hr=>by
 rcases List.mem_append.1 hr with hr | hr
 ·exact h r hr
 ·have : r = (x.1,x.2,q):=by simpa using hr
  subst this
  have h2:=h1.2
  rw [← h1.1] at h2
  exact h2
theorem B1X : EI 39 35 1 24:=A1G (by kernel_rfl) (by kernel_rfl) (by omega)
theorem B5b (A : Option Addr) (n c : Nat) (w : World) : (Instr.buildSlice 39 1 #[(0,.slice A n c)]).run Tryz.prog w = .ok (.slice (some ⟨w.heap.size,0,none⟩) 1 1) (w.alloc (.cells #[.slice A n c] 35)):=by
 go_simp
theorem A98 {u : World} {B n : Nat} {v : Value} {rs : List Rq} (h : u.ownsRow B 35 1 v n (rs.map A1i)) (hr : R5 B u rs) : ∃ A c,v = .slice A n c ∧ n ≤ c ∧ Lrq u A rs ∧ n = rs.length:=by
 have hn : n = rs.length:=by have := h.1;simp at this;omega
 subst hn
 obtain ⟨_,h | ⟨g,cap,cur,rfl,hb,hh,hn,hc,hs,ht⟩⟩:=h
 ·obtain ⟨rfl,h0⟩:=h
  exact ⟨none,0,by rw [h0],by omega,fun hne=>absurd (List.eq_nil_of_length_eq_zero h0) hne,rfl⟩
 ·refine ⟨_,cap,rfl,hn,fun _=>⟨g,0,rfl,X0 hh,fun i r hi=>⟨?_,?_⟩⟩,rfl⟩
  ·rw [Nat.zero_add,cell_of_row u g i cur 35 (0,0) hh]
   have hil : i < rs.length:=(List.getElem?_eq_some_iff.1 hi).1
   have h1 : (cur.toList.take (rs.length * 1))[i]? = some (A1i r):=by rw [ht,List.getElem?_map,hi];rfl
   rw [List.getElem?_take,if_pos (by omega)] at h1
   simpa using h1
  ·obtain ⟨A,c,e1,_,_,hL,_⟩:=M8 (hr r (List.mem_of_getElem? hi))
   cases e1
   exact hL
theorem B3c {u : World} {B B2 n : Nat} {v : Value} {rws : List Zw} (h : u.ownsRow B 25 1 v n (rws.map zwV)) (hr : ∀ (i : Nat) (r : Zw),rws[i]? = some r → I4 u r.2 ∧ u.ownsRow B2 33 3 (zwV r) r.2.length (r.2.flatMap zrL)) : ∃ A c,v = .slice A n c ∧ n ≤ c ∧ Lrz u A (rws.map fun r=>(r.1.1,r.1.2,r.2.map (·.2))) ∧ n = rws.length:=by
 have hn : n = rws.length:=by have := h.1;simp at this;omega
 subst hn
 obtain ⟨_,h | ⟨g,cap,cur,rfl,hb,hh,hn,hc,hs,ht⟩⟩:=h
 ·obtain ⟨rfl,h0⟩:=h
  exact ⟨none,0,by rw [h0],by omega,fun hne=>absurd (by rw [List.eq_nil_of_length_eq_zero h0];rfl) hne,rfl⟩
 ·refine ⟨_,cap,rfl,hn,fun _=>⟨g,0,rfl,X0 hh,fun i r hi=>?_⟩,rfl⟩
  rw [List.getElem?_map] at hi
  obtain ⟨r0,hr0,rfl⟩:=Option.map_eq_some_iff.1 hi
  have hil : i < rws.length:=(List.getElem?_eq_some_iff.1 hr0).1
  refine ⟨?_,?_⟩
  ·rw [Nat.zero_add,cell_of_row u g i cur 25 (0,0) hh]
   have h1 : (cur.toList.take (rws.length * 1))[i]? = some (zwV r0):=by rw [ht,List.getElem?_map,hr0];rfl
   rw [List.getElem?_take,if_pos (by omega)] at h1
   simpa using h1
  ·obtain ⟨h1,h2⟩:=hr i r0 hr0
   obtain ⟨A,c,e1,_,_,hL,_⟩:=A31 h2 h1
   cases e1
   exact hL
theorem B0n (A : Option Addr) (rs : List Rq) (c n : Nat) (hn : n = rs.length) (hm : n ≤ 1048576) (hs : ∀ r ∈ rs,r.2.2.length ≤ 1048576 ∧ ∀ x ∈ r.2.2,qs x ≤ BIG) (w : World) (h : Lrz w A rs) (HT : Tab w) :
  Calls Tryz.prog 15 #[.slice A n c] w fun e w'=>∃ (v : Value) (rs' : List Rq),e = .returned v ∧ rs'.map (·.2.2) = rs.map (·.2.2) ∧ R5 w.heap.size w' rs' ∧ w'.ownsRow w.heap.size 35 1 v n (rs'.map A1i) ∧ A4 w w':=by
 have H:=Lib.hid h
 have Hn:=Lib.hid hn
 have Hs:=Lib.hid hs
 clear h hn hs
 go_enter Tryz.func15,Tryz.ntmps15
 refine en0 ?_
 intro u hG hB hF
 refine r0T ?_
 refine wp_seq ?_
 refine r0T ?_
 refine wp_block ?_
 clear hB hF
 go_loopw [4,3] (fun s0 s1 wr=>∃ (i : Nat) (rs' : List Rq),i ≤ n ∧ s0 = .int .i64 i ∧ rs'.map (·.2.2) = (rs.take i).map (·.2.2) ∧ R5 w.heap.size wr rs' ∧ wr.ownsRow w.heap.size 35 1 s1 i (rs'.map A1i) ∧ A4 w wr) (fun s0 _ _=>n - (intOf s0).toNat)
 case atStart=>exact ⟨0,[],Nat.zero_le _,rfl,rfl,R5.nil _ _,World.ownsRow_nil _ _ _ _,hG⟩
 case round =>
  clear hG
  obtain ⟨i,rs',hi,rfl,hps,hA,ho,hG⟩:=hrel
  obtain ⟨u,rfl⟩ : ∃ x,x = wr:=⟨_,rfl⟩
  have hB:=Bx.nil u
  have hF:=Fr.nil w
  have Ho:=Lib.hid ho
  have Hps:=Lib.hid hps
  clear ho hps
  rcases Nat.lt_or_ge i n with hlt | hge
  ·have hdec : decide ((i : Int) < (n : Int)) = true:=by simp;omega
   have hil : i < rs.length:=by rw [← Hn.out];exact hlt
   have hsu : rs.take (i + 1) = rs.take i ++ [rs[i]]:=List.take_succ_eq_append_getElem hil
   obtain ⟨ba,oa,rfl⟩:=H.out.addr (by omega)
   obtain ⟨hs1,hs2⟩:=Hs.out _ (List.getElem_mem hil)
   have hrd : ∀ W,A4 w W → W.cell? ⟨ba,oa + i,none⟩ = some (.slice rs[i].1 rs[i].2.2.length rs[i].2.1) ∧ Lz W rs[i].1 rs[i].2.2:=fun W hg=>(H.out.grow hg).read (List.getElem?_eq_getElem hil)
   obtain ⟨r,hr⟩ : ∃ r,r = rs[i]:=⟨_,rfl⟩
   simp only [← hr] at hrd hs1 hs2 hsu
   obtain ⟨rA,rc,q⟩:=r
   simp only at hrd hs1 hs2 hsu
   obtain ⟨m,hm2⟩ : ∃ m,m = q.length:=⟨_,rfl⟩
   rw [← hm2] at hrd hs1
   have hin : ∀ W,A4 w W → Tab W → Calls Tryz.prog 16 #[.slice rA m rc] W (G5 (fun x : Ax=>.slice x.1 m x.2) (fun x W'=>A1l w.heap.size m q x W') W):=fun W hg hT =>
    (A59 rA q rc m hm2 hs1 hs2 W (hrd W hg).2 hT).mono fun e w' ⟨v,he,ho,hg'⟩=>by
     obtain ⟨A2,cc,rfl,hcc1,hcc2,hL,hkl⟩:=M8 ho
     exact ⟨(A2,cc),he,⟨hm2.symm,ho.mono hg.size⟩,hg'⟩
   have hrd':=fun W hg=>(hrd W hg).1
   have Hin:=Lib.hid hin
   have Hrd:=Lib.hid hrd'
   have Hsu:=Lib.hid hsu
   clear hin hrd hrd' hsu hr hil hs2 hm2
   refine wp_seq ?_
   refine r0T ?_
   refine wp_cond_true (rfl) ?_
   refine wp_skip ?_
   refine A6 ?_
   refine wp_seq ?_
   refine wp_block ?_
   refine S3 (w:=w) A8 6 [0,0,0,0,0,1] (by kernel_rfl) (by simp only [List.drop_succ_cons,List.drop_zero];exact rfl) (fun _=>True) noG hB hG trivial ?_
   intro K L hN hL
   simp only [List.zip_cons_cons,List.zip_nil_left]
   repeat first | refine gya ?_ | refine gyr ?_ | refine gna ?_ | refine gyb (by (rintro v ⟨hgu,hB,hG,-⟩ N hN;have r:=hB.r;simp only [BxR] at r;have c1:=Hrd.out v hG;go_simp;exact hN)) ?_
   refine gxd (X:=Ax) (fun x : Ax=>.slice x.1 m x.2) (fun x W=>A1l w.heap.size m q x W) (fun x u u' hg h=>A1l.grow hg h) (fun x16=>?_) (C:=by (rintro v ⟨hgu,hB,hG,-⟩;exact Hin.out _ hG (HT.grow hG)))
   refine H6 ?_
   rintro v ⟨⟨hgu,hB1,hG1,-⟩,hx16⟩
   replace hA:=hA.grow hgu
   have ROWn:=Lib.hid (D3 Ho.out hgu)
   clear Ho
   have Ho:=ROWn
   clear ROWn
   have hA2:=hA.snoc hx16
   have hk2:=hx16.1
   clear hA hx16
   have hA:=hA2
   clear hA2
   clear hB hG
   have hB:=hB1
   have hG:=hG1
   clear hB1 hG1
   refine hL _ _ ?_
   clear hL L hgu
   obtain ⟨u,rfl⟩ : ∃ x,x = v:=⟨_,rfl⟩
   refine T8 B1X w.heap.size _ _ _ _ [.slice x16.1 m x16.2] rfl rfl (B5b x16.1 m x16.2 u) rfl (fun _=>rfl) (fun _=>rfl) (fun _ _=>rfl) Ho.out (by omega) (by omega) hG.sz fun p v' w' g1 g2 g3=>?_
   have hBn:=Bx.nil w'
   have hGn:=T7 Ho.out hG g2
   replace hA:=hA.own Ho.out (by decide) g2
   clear Ho hB hG
   have Ho:=Lib.hid g1
   have hB:=hBn
   have hG:=hGn
   clear g1 g2 g3 hBn hGn
   obtain ⟨u,rfl⟩ : ∃ x,x = w':=⟨_,rfl⟩
   simp only [Act.put,List.setIfInBounds_toArray,List.set_cons_succ,List.set_cons_zero]
   refine NoK.norm (hN _ _ ?_)
   clear hN K
   refine E3 ?_
   refine A6 ?_
   refine r0E ?_
   refine A6 ?_
   go_roundw
   case rel=>exact ⟨i + 1,rs' ++ [(x16.1,x16.2,q)],by omega,by go_num,by rw [List.map_append,Hps.out,Hsu.out,List.map_append];rfl,hA,by have := Ho.out;rw [List.map_append];simpa [A1i,hk2] using this,hG⟩
   case measure=>simp [intOf];omega
  ·obtain rfl : n = i:=by omega
   have hdec : decide ((n : Int) < (n : Int)) = false:=by simp
   refine wp_seq ?_
   refine r0T ?_
   refine wp_cond_false (rfl) ?_
   refine wp_exit ?_
   refine B9 ?_
   refine B9 ?_
   refine E9 ?_
   refine A6 ?_
   refine r0T ?_
   refine rt Tryz.results15 ?_
   exact ⟨_,rs',rfl,by rw [Hps.out,List.take_of_length_le (Nat.le_of_eq Hn.out.symm)],hA,Ho.out,hG⟩
theorem Q6.idx {B : Nat} {W : World} {rws : List Zw} (h : Q6 B W rws) : ∀ (i : Nat) (r : Zw),rws[i]? = some r → I4 W r.2 ∧ W.ownsRow B 33 3 (zwV r) r.2.length (r.2.flatMap zrL):=fun _ r hi=>h.1 r (List.mem_of_getElem? hi)
end Go.Proofs.YtgpglgbcobeogaaGreatDoor
