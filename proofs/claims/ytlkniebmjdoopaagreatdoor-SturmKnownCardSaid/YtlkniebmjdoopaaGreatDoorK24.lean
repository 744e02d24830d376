/- Contracts and laws. -/
import Derived.Test.YtlkniebmjdoopaaGreatDoorK23
import Derived.Maps.AppendAt
set_option linter.unusedSimpArgs false
set_option linter.unusedVariables false
set_option maxHeartbeats 1000000
set_option maxRecDepth 100000
namespace Go.Proofs.YtlkniebmjdoopaaGreatDoor
open Go.RowKit
structure EI (T e : TypeId) (size bytes : Nat) : Prop where
 und : Tryz.prog.underlying T = some (.slice e)
 ex : ∃ i z,Tryz.prog.info? e = some i ∧ i.zero = some z ∧ i.size = size ∧ i.bytes = bytes ∧ z.cells.size = size
 pos : 0 < size
theorem A2E {T e : TypeId} {size bytes : Nat} (h1 : Tryz.prog.underlying T = some (.slice e)) (h2 : (Tryz.prog.info? e).map (fun i=>(i.zero.map fun z=>z.cells.size,i.size,i.bytes)) = some (some size,size,bytes)) (h3 : 0 < size) : EI T e size bytes:=by
 refine ⟨h1,?_,h3⟩
 cases hi : Tryz.prog.info? e with
 | none=>rw [hi] at h2;cases h2
 | some i =>
  rw [hi] at h2
  simp only [Option.map_some,Option.some.injEq,Prod.mk.injEq] at h2
  obtain ⟨h4,h5,h6⟩:=h2
  cases hz : i.zero with
  | none=>rw [hz] at h4;cases h4
  | some z =>
   rw [hz] at h4
   simp only [Option.map_some,Option.some.injEq] at h4
   exact ⟨i,z,rfl,hz,h5,h6,h4⟩
theorem B5B {P : Program} {o : Oper} {a : Act} {w w' : World} {K : Act → World → Prop} {Q : Exit → Act → World → Prop} {v : Value} (h : (execOp a.eval o).run P w = .ok (.value v) w') (hk : K (a.put o.dst v) w') : o.wp P a w K Q:=by
 unfold Oper.wp
 rw [h]
 exact hk
theorem B1I {P : Program} {a : Act} {w w' : World} {d : Option Tmp} {T : TypeId} {n : Nat} {x : Operand} {t : TypeId} {p : String} {f : Array Edge} {v : Value} (h : (Instr.buildSlice T n #[(0,a.eval x)]).run P w = .ok v w') : (execOp a.eval ⟨d,.buildSlice T n #[(0,x)],t,p,f,none⟩).run P w = .ok (.value v) w':=by
 unfold execOp
 simp only [List.map_toArray,List.map_cons,List.map_nil,Sem.run_bind]
 rw [h]
 rfl
theorem A2J {ops : Array Oper} {a : Act} {u : World} {K : Act → World → Prop} {d1 d2 d3 : Option Nat} {x s z q : Operand} {t1 t2 t3 : TypeId} {p1 p2 p3 : String} {f1 f2 f3 : Array Edge} {T e : TypeId} {size bytes : Nat} (hE : EI T e size bytes)
  (B : Nat) (v : Value) (n : Nat) (xs : List Value) (xv : Value) (ys : List Value) (hy : ys.length = size) (h1 : (ys.all fun y=>y.oneCell') = true) (hb : (Instr.buildSlice T 1 #[(0,xv)]).run Tryz.prog u = .ok (.slice (some ⟨u.heap.size,0,none⟩) 1 1) (u.alloc (.cells ys.toArray e)))
  (hx : a.eval x = xv) (hs : ∀ p,(a.put d1 p).eval s = v) (hz : ∀ p,(a.put d1 p).eval z = p) (hq : ∀ p p',((a.put d1 p).put d2 p').eval q = p')
  (hown : u.ownsRow B e size v n xs) (hl : n + 1 ≤ 1099511627776) (hl2 : (n + 1) * bytes ≤ 140737488355328) (hB : B ≤ u.heap.size)
  (h : ∀ p v' w',w'.ownsRow B e size v' (n + 1) (xs ++ ys) → (u.alloc (.cells ys.toArray e)).grownBy w' v.ownBlock → (v'.ownBlock = v.ownBlock ∨ v'.ownBlock = some (u.heap.size + 1)) → NoK K .normal (((a.put d1 p).put d2 v').put d3 v') w') :
  wpList Tryz.prog ops (NoK K) [⟨d1,.buildSlice T 1 #[(0,x)],t1,p1,f1,none⟩,⟨d2,.call { callee:=.builtin .append,args:=#[s,z],argTypes:=#[T,T] },t2,p2,f2,none⟩,⟨d3,.assign q,t3,p3,f3,none⟩] a u:=by
 obtain ⟨hund,⟨i0,z0,hi0,hz0,hz1,hz2,hz3⟩,hpos⟩:=hE
 refine wpList_plain rfl fun K1 hK1=>?_
 have hb1 : (Instr.buildSlice T 1 #[(0,a.eval x)]).run Tryz.prog u = .ok (.slice (some ⟨u.heap.size,0,none⟩) 1 1) (u.alloc (.cells ys.toArray e)):=by rw [hx];exact hb
 have hb2:=B1I (d:=d1) (t:=t1) (p:=p1) (f:=f1) hb1
 unfold Oper.wp
 rw [hb2]
 refine hK1 _ _ ?_
 show wpList Tryz.prog ops (NoK K) _ (a.put d1 _) _
 have hs1:=hs (.slice (some ⟨u.heap.size,0,none⟩) 1 1)
 have hz1':=hz (.slice (some ⟨u.heap.size,0,none⟩) 1 1)
 have hq1:=hq (.slice (some ⟨u.heap.size,0,none⟩) 1 1)
 have hh:=h (.slice (some ⟨u.heap.size,0,none⟩) 1 1)
 have ho:=hown.alloc (.cells ys.toArray e)
 generalize a.put d1 (.slice (some ⟨u.heap.size,0,none⟩) 1 1) = a1 at hs1 hz1' hq1 hh
 refine wpList_append_own_at (u.alloc (.cells ys.toArray e)) (a:=a1) (Q:=NoK K) rfl s z T rfl B e i0 z0 size bytes hund hi0 hz0 hz1 hz2 hz3 hpos v n xs hs1 ho ⟨u.heap.size,0,none⟩ 1 1 ys hz1' (by rw [hy];omega) ?_ (fun y hy=>List.all_eq_true.1 h1 y hy) (by unfold maxLen;omega) hl2 (by rw [H8];omega) fun v' w' g1 g2 _ g4=>?_
 ·intro j y hj
  rw [Go.WideShapes.add_plain,Nat.zero_add,Blk.cell (Blk.new u e ys.toArray) j,List.getElem?_toArray]
  exact hj
 ·rw [H8] at g4
  refine wpList_plain rfl fun K2 hK2=>?_
  refine B5B (v:=v') (w':=w') ?_ (hK2 _ _ (wpList_nil ?_))
  ·have e1 : (execOp ((a1.put d2 v').eval) ⟨d3,.assign q,t3,p3,f3,none⟩).run Tryz.prog w' = .ok (.value ((a1.put d2 v').eval q)) w':=rfl
   rw [hq1] at e1
   exact e1
  ·exact hh v' w' g1 g2 g4
theorem A2K {w u w' : World} {e : TypeId} {size n : Nat} {v : Value} {xs : List Value} {o : Obj} (h : u.ownsRow w.heap.size e size v n xs) (hG : A3 w u) (hg : (u.alloc o).grownBy w' v.ownBlock) : A3 w w' :=
 (hG.trans (A3.alloc u o)).grown hg fun k hk=>(h.lt k hk).1
theorem F3 {u u' : World} {B : Nat} {e : TypeId} {s : Nat} {v : Value} {n : Nat} {xs : List Value} (h : u.ownsRow B e s v n xs) (hg : A3 u u') : u'.ownsRow B e s v n xs:=by
 obtain ⟨h0,h | ⟨g,cap,cur,rfl,hb,hh,hn,hc,hs,ht⟩⟩:=h
 ·exact ⟨h0,.inl h⟩
 ·exact ⟨h0,.inr ⟨g,cap,cur,rfl,hb,(hg.block g (Q8 hh)).trans hh,hn,hc,hs,ht⟩⟩
theorem Lim.own {u w' : World} {B : Nat} {e : TypeId} {size n : Nat} {v : Value} {xs : List Value} {o : Obj} {A : Option Addr} {l : List Nat} (hl : Lim u A l) (h : u.ownsRow B e size v n xs) (ht : e ≠ 176) (hg : (u.alloc o).grownBy w' v.ownBlock) : Lim w' A l:=fun hne=>by
 obtain ⟨b,off,cs,fr,e1,hb,hc⟩:=hl hne
 refine ⟨b,off,cs,fr,e1,?_,hc⟩
 have hlt:=Q8 hb
 have h2 : (u.alloc o).heap[b]? = u.heap[b]?:=(A3.alloc u o).block b hlt
 refine (hg.block b (by rw [H8];omega) fun hxe=>?_).trans (h2.trans hb)
 obtain ⟨_,h | ⟨g,cap,cur,rfl,hb',hh,hn,hc',hs,ht2⟩⟩:=h
 ·rw [h.1] at hxe;cases hxe
 ·have h1 : b = g:=Option.some.inj hxe
  rw [h1,hh] at hb
  injection hb with hb
  injection hb with _ h3 _
  exact ht h3
theorem Rn.own {u w' : World} {B : Nat} {e : TypeId} {size n : Nat} {v : Value} {xs : List Value} {o : Obj} {x : Ax} {a : Nat} (hl : Rn u x a) (h : u.ownsRow B e size v n xs) (ht : e ≠ 176) (hg : (u.alloc o).grownBy w' v.ownBlock) : Rn w' x a:=⟨hl.1.own h ht hg,hl.2⟩
theorem A7Z (y : Int) (w : World) : (Instr.buildSlice 62 1 #[(0,.int .u32 y)]).run Tryz.prog w = .ok (.slice (some ⟨w.heap.size,0,none⟩) 1 1) (w.alloc (.cells #[.int .u32 y] 176)):=by
 go_simp
theorem A94 (q : Rat) (w : World) : (Instr.buildSlice 23 1 #[(0,qV q)]).run Tryz.prog w = .ok (.slice (some ⟨w.heap.size,0,none⟩) 1 1) (w.alloc (.cells #[.bool (D1 q.num),.int .u64 (B3 q.num.natAbs),.string (B1 q.num.natAbs),.int .u64 (B3 (G3 q.den)),.string (B1 (G3 q.den))] 39)):=by
 go_simp
abbrev A0A (l : List Nat) : List Value:=l.map fun x=>Value.int .u32 (x : Nat)
theorem B29 {u : World} {B b : Nat} {l : List Nat} (h : Blk u b 176 (D8 l)) (hb : B ≤ b) (hl : l.length ≤ maxLen) : u.ownsRow B 176 1 (.slice (some ⟨b,0,none⟩) l.length l.length) l.length (A0A l) :=
 ⟨by simp,.inr ⟨b,l.length,D8 l,rfl,hb,h,Nat.le_refl _,hl,by unfold D8;simp,by unfold D8;rw [Nat.mul_one,List.take_of_length_le (by simp)]⟩⟩
theorem A8k {u : World} {B n : Nat} {v : Value} {l : List Nat} (h : u.ownsRow B 176 1 v n (A0A l)) : ∃ A c,v = .slice A n c ∧ n ≤ c ∧ c ≤ maxLen ∧ Lim u A l ∧ n = l.length:=by
 have hn : n = l.length:=by have := h.1;simp at this;omega
 obtain ⟨_,h | ⟨g,cap,cur,rfl,hb,hh,hn',hc,hs,ht⟩⟩:=h
 ·obtain ⟨rfl,h0⟩:=h
  exact ⟨none,0,by rw [h0],by omega,by unfold maxLen;omega,fun hne=>absurd (List.eq_nil_of_length_eq_zero (by omega)) hne,hn⟩
 ·refine ⟨_,cap,rfl,hn',hc,fun _=>⟨g,0,cur,(0,0),rfl,hh,fun i x hi=>?_⟩,hn⟩
  have hil : i < l.length:=(List.getElem?_eq_some_iff.1 hi).1
  have h1 : (cur.toList.take (n * 1))[i]? = some (.int .u32 (x : Nat)):=by rw [ht,List.getElem?_map,hi];rfl
  rw [List.getElem?_take,if_pos (by omega)] at h1
  rw [Nat.zero_add]
  simpa using h1
theorem A6O : EI 62 176 1 4:=A2E (by kernel_rfl) (by kernel_rfl) (by omega)
theorem A5a : EI 23 39 5 56:=A2E (by kernel_rfl) (by kernel_rfl) (by omega)
theorem B5F {y : Nat} (h : y ≠ 0) : bl y = bl (y / 2) + 1:=by
 by_cases h1 : y / 2 = 0
 ·obtain rfl : y = 1:=by omega
  rfl
 ·have := A3q (x:=y % 2) (y:=y / 2) (k:=1) (by omega) h1
  rw [show y % 2 + 2 ^ 1 * (y / 2) = y by omega] at this
  omega
theorem A9h {l : List Nat} (hd : Dig W32 l) (hn : 0 < l.length) (h0 : dg l (l.length - 1) ≠ 0) : bl (val W32 l) = 32 * (l.length - 1) + bl (dg l (l.length - 1)):=by
 have h1:=I7 W32 l (l.length - 1)
 rw [show l.length - 1 + 1 = l.length by omega,List.take_length] at h1
 have h2:=A56 E0 hd (l.length - 1)
 rw [show W32 = 2 ^ 32 from rfl,← Nat.pow_mul] at h2
 rw [h1,show W32 ^ (l.length - 1) = 2 ^ (32 * (l.length - 1)) by rw [show W32 = 2 ^ 32 from rfl,← Nat.pow_mul]]
 exact A3q h2 h0
theorem A3B {a : Nat} (h : a ≠ 0) : dg (A7 W32 a) (ln a - 1) ≠ 0:=by
 have ht:=A1A D9 a
 have hp:=A0s.2 h
 have hl : ln a - 1 < (A7 W32 a).length:=by unfold ln at *;omega
 rcases ht with ht | ht
 ·rw [ht] at hl;cases hl
 ·rw [D3 hl]
  intro e
  apply ht
  rw [List.getLast?_eq_getElem?,show (A7 W32 a).length - 1 = ln a - 1 from rfl,List.getElem?_eq_getElem hl,e]
theorem A78 (x : Ax) (a : Nat) (w : World) (hx : Rn w x a) (ha : bl a ≤ 1099511627776) : Calls Tryz.prog 178 #[nvV x a] w fun e w'=>e = .returned (.int .i64 (bl a)) ∧ A3 w w':=by
 obtain ⟨A,c⟩:=x
 by_cases h0 : a = 0
 ·subst h0
  show Calls Tryz.prog 178 #[.slice A 0 c] w _
  clear hx ha
  go_enter Tryz.func178,Tryz.ntmps178
  go_wp2_with fail
  go_ret
  exact ⟨rfl,A3.refl _⟩
 ·have hp:=A0s.2 h0
  have ht:=A3B h0
  have hb:=A9h (F2 D9 a) hp ht
  rw [D5 D9] at hb
  have hl : ln a - 1 < (A7 W32 a).length:=by unfold ln at *;omega
  obtain ⟨b1,o1,rfl,hc⟩:=hx.1.cell hl
  have hnl:=A2N a
  have htl:=dgl a (ln a - 1)
  show Calls Tryz.prog 178 #[.slice (some ⟨b1,o1,none⟩) (ln a) c] w _
  change bl a = 32 * (ln a - 1) + bl (dg (A7 W32 a) (ln a - 1)) at hb
  obtain ⟨n,hn⟩ : ∃ n,ln a = n + 1:=⟨ln a - 1,by omega⟩
  rw [hn,Nat.add_sub_cancel] at hb hc ht htl
  rw [hn]
  obtain ⟨T,hT⟩ : ∃ T,T = dg (A7 W32 a) n:=⟨_,rfl⟩
  rw [← hT] at hb hc ht htl
  have f1 : ((n + 1 : Nat) : Int) - 1 = (n : Int):=by omega
  have f2 : ((n + 1 : Nat) : Int) = (n : Int) + 1:=by omega
  obtain ⟨m,hm⟩ : ∃ m,m = 32 * n:=⟨_,rfl⟩
  have f3 : IntKind.i64.wrap (32 * (n : Int)) = (m : Int):=by rw [show 32 * (n : Int) = ((m : Nat) : Int) by omega];exact IntWalk.i64_in _ (by omega)
  have f4 : 32 * (n : Int) = (m : Int):=by omega
  have fw : IntKind.i64.wrap (m : Int) = (m : Int):=IntWalk.i64_in _ (by omega)
  have hb2 : m + bl T = bl a:=by omega
  have Hb2:=Lib.hid hb2
  have hmm : m ≤ 1099511627776:=by omega
  have hTb : bl T ≤ 32:=J9.2 (by omega)
  have hz0 : ((n : Int) + 1 == 0) = false:=by simp;omega
  clear hb hx hp hnl hn hT hm hb2 h0 hl
  go_enter Tryz.func178,Tryz.ntmps178
  go_wp2_with fail
  go_loopw [3,4] (fun s t wr=>∃ (k y : Nat),s = .int .i64 k ∧ t = .int .u32 y ∧ k + bl y = bl a ∧ y < 4294967296 ∧ k ≤ 1099511627776 + 32 ∧ wr = w) (fun _ t _=>(intOf t).toNat)
  case atStart=>exact ⟨m,T,rfl,rfl,Hb2.out,htl,by omega,rfl⟩
  case round =>
   obtain ⟨k,y,rfl,rfl,hk,hy,hkb,rfl⟩:=hrel
   rcases Nat.eq_zero_or_pos y with rfl | hpos
   ·have Hk:=Lib.hid hk
    clear hk
    go_wp2_with fail
    go_ret
    have := Hk.out
    rw [Y9,Nat.add_zero] at this
    exact ⟨by rw [this];rfl,A3.refl _⟩
   ·have hh:=B5F (y:=y) (by omega)
    have hk2 : k + 1 + bl (y / 2) = bl a:=by omega
    have Hk:=Lib.hid hk2
    have hc1 : decide ((0 : Int) < (y : Int)) = true:=by simp;omega
    obtain ⟨z,hz⟩ : ∃ z,z = y / 2:=⟨_,rfl⟩
    have f5 : (y : Int) / 2 = (z : Int):=by omega
    have hk1 : k + 1 ≤ 1099511627776 + 32:=by have := Hk.out;omega
    have hzy : z < y:=by omega
    rw [← hz] at Hk
    clear hk hk2 hh hz
    go_wp2_with fail
    go_roundw
    case rel=>exact ⟨k + 1,z,by go_num,rfl,Hk.out,by omega,hk1,by first | rfl | trivial⟩
    case measure=>simp [intOf];omega
def UpI (k r : Nat) (l : List Nat) (i c : Nat) (zs : List Nat) : Prop:=zs.length = k + i ∧ Dig W32 zs ∧ c < 2 ^ r ∧ val W32 zs + c * W32 ^ (k + i) = val W32 (l.take i) * 2 ^ r * W32 ^ k
theorem UpI.start (k r : Nat) (l : List Nat) : UpI k r l 0 0 (List.replicate k 0) :=
 ⟨by simp,fun z hz=>by rw [(List.mem_replicate.1 hz).2];exact E0,Nat.two_pow_pos r,by rw [A0c];simp [val]⟩
theorem UpI.next {k r : Nat} {l zs : List Nat} {i c : Nat} (h : UpI k r l i c zs) (hd : Dig W32 l) : UpI k r l (i + 1) ((c + dg l i * 2 ^ r) / W32) (zs ++ [(c + dg l i * 2 ^ r) % W32]):=by
 obtain ⟨h1,h2,h3,h4⟩:=h
 have hx:=B9 E0 hd i
 refine ⟨by simp [h1];omega,fun z hz=>?_,?_,?_⟩
 ·rcases List.mem_append.1 hz with hz | hz
  ·exact h2 z hz
  ·simp at hz;rw [hz];exact Nat.mod_lt _ E0
 ·refine Nat.div_lt_of_lt_mul ?_
  have : (dg l i + 1) * 2 ^ r ≤ W32 * 2 ^ r:=Nat.mul_le_mul_right _ hx
  rw [Nat.add_mul,Nat.one_mul] at this
  omega
 ·rw [W9,h1,I7]
  have e1:=A6I W32 (W32 ^ (k + i)) (c + dg l i * 2 ^ r)
  have e2 : W32 ^ (k + i) * (c + dg l i * 2 ^ r) = c * W32 ^ (k + i) + W32 ^ i * dg l i * 2 ^ r * W32 ^ k:=by rw [Nat.pow_add];grind
  have e3 : (val W32 (l.take i) + W32 ^ i * dg l i) * 2 ^ r * W32 ^ k = val W32 (l.take i) * 2 ^ r * W32 ^ k + W32 ^ i * dg l i * 2 ^ r * W32 ^ k:=by grind
  rw [show k + (i + 1) = k + i + 1 by omega,Nat.pow_succ,e3,← h4]
  omega
theorem UpI.done {k r : Nat} {l zs : List Nat} {c : Nat} (h : UpI k r l (l.length + 1) c zs) (hd : Dig W32 l) (hr : r ≤ 32) : val W32 zs = val W32 l * 2 ^ r * W32 ^ k:=by
 obtain ⟨h1,h2,h3,h4⟩:=h
 rw [List.take_of_length_le (by omega)] at h4
 have e1:=H5 hd
 have e2 : 2 ^ r ≤ W32:=by rw [show W32 = 2 ^ 32 from rfl];exact Nat.pow_le_pow_right (by omega) hr
 rcases Nat.eq_zero_or_pos c with rfl | hc
 ·omega
 ·exfalso
  have e3 : val W32 l * 2 ^ r * W32 ^ k < W32 ^ l.length * W32 * W32 ^ k:=by
   refine Nat.mul_lt_mul_of_pos_right ?_ (Nat.pow_pos E0)
   exact Nat.lt_of_lt_of_le (Nat.mul_lt_mul_of_pos_right e1 (Nat.two_pow_pos r)) (Nat.mul_le_mul_left _ e2)
  have e4 : W32 ^ l.length * W32 * W32 ^ k = W32 ^ (k + (l.length + 1)):=by rw [Nat.pow_add,Nat.pow_succ];grind
  have e5 : W32 ^ (k + (l.length + 1)) ≤ c * W32 ^ (k + (l.length + 1)):=Nat.le_mul_of_pos_left _ hc
  omega
theorem A5u (x : Ax) (a n : Nat) (w : World) (hx : Rn w x a) (ha : bl a ≤ 1099511627776) (hn : n ≤ 1099511627776) : Calls Tryz.prog 179 #[nvV x a,.int .i64 n] w (Ret (P4 (a * 2 ^ n)) w):=by
 have hat : ∀ i W,A3 w W → Calls Tryz.prog 199 #[nvV x a,.int .i64 (i : Nat)] W fun e w'=>e = .returned (.int .u64 (dg (A7 W32 a) i : Nat)) ∧ A3 W w':=fun i W hg=>A7b x a i W (hx.grow hg)
 obtain ⟨p,hp⟩ : ∃ p,p = ln a:=⟨_,rfl⟩
 obtain ⟨A,c⟩:=x
 have hpl:=A2N a
 rw [← hp] at hpl
 change ∀ i W,A3 w W → Calls Tryz.prog 199 #[.slice A (ln a) c,.int .i64 (i : Nat)] W _ at hat
 show Calls Tryz.prog 179 #[.slice A (ln a) c,.int .i64 n] w _
 rw [← hp] at hat
 rw [← hp]
 obtain ⟨k,hk⟩ : ∃ k,k = n / 32:=⟨_,rfl⟩
 obtain ⟨r,hr⟩ : ∃ r,r = n % 32:=⟨_,rfl⟩
 have hr32 : r < 32:=by omega
 have q1 : (n : Int).tdiv 32 = (k : Nat):=by rw [Int.tdiv_eq_ediv_of_nonneg (by omega)];omega
 have q2 : (n : Int).tmod 32 = (r : Nat):=by rw [Int.tmod_eq_emod_of_nonneg (by omega)];omega
 have q3 : (n : Int) / 32 = (k : Nat):=by omega
 have q4 : (n : Int) % 32 = (r : Nat):=by omega
 have q5 : IntKind.i64.wrap (k : Int) = (k : Int):=IntWalk.i64_in _ (by omega)
 have q6 : IntKind.i64.wrap (r : Int) = (r : Int):=IntWalk.i64_in _ (by omega)
 have q7 : IntKind.u64.wrap (r : Int) = (r : Int):=C5 (by omega)
 have q8 : min r 64 = r:=by omega
 have hpw : 2 ^ r * W32 ^ k = 2 ^ n:=by
  rw [show W32 = 2 ^ 32 from rfl,← Nat.pow_mul,← Nat.pow_add]
  congr 1
  omega
 have hmk:=A31 k (by omega) (k : Int) rfl
 have hnn : decide ((0 : Int) ≤ (n : Int)) = true:=by simp
 obtain ⟨N,hN⟩ : ∃ N,N = p + 1:=⟨_,rfl⟩
 have hN1 : N ≤ p + 1:=by omega
 have hN2 : p + 1 ≤ N:=by omega
 have hkb : k ≤ 34359738400:=by omega
 have hpb : p ≤ 34359738400:=by omega
 have Hat:=Lib.hid hat
 have Hp:=Lib.hid hp
 have Hpw:=Lib.hid hpw
 clear hat hp hx hk hr hpl ha hpw hN
 go_enter Tryz.func179,Tryz.ntmps179
 refine en0 ?_
 intro u hG hB hF
 refine wp_seq ?_
 refine r0T ?_
 refine wp_cond_true (rfl) ?_
 refine r0T ?_
 have hbo:=Blk.new u 176 (D8 (List.replicate k 0))
 have hF3:=Fr.new (tk:=[]) hF hB hG (Nat.le_refl u.heap.size) (by simp)
 have hB3:=Bx.cons hbo (hB.grow (A3.alloc u (.cells (D8 (List.replicate k 0)) 176)))
 have hG3:=hG.trans (A3.alloc u (.cells (D8 (List.replicate k 0)) 176))
 simp only [List.cons_append,List.nil_append,List.map_cons,List.map_nil] at hF3
 clear hB hF hG hbo
 generalize World.alloc u _ = v at  hB3 hG3 ⊢
 generalize u.heap.size = b5 at hB3 hF3 ⊢
 have hB:=hB3
 have hF:=hF3
 have hG:=hG3
 clear hB3 hF3 hG3
 obtain ⟨u,rfl⟩ : ∃ x,x = v:=⟨_,rfl⟩
 refine r0T ?_
 refine wp_seq ?_
 refine r0T ?_
 refine wp_block ?_
 have hown : u.ownsRow w.heap.size 176 1 (.slice (some ⟨b5,0,none⟩) k k) k (A0A (List.replicate k 0)):=by
  have := B29 hB.head (hF.1 b5 (by simp)) (by rw [List.length_replicate];unfold maxLen;omega)
  rw [List.length_replicate] at this
  exact this
 have Hown:=Lib.hid hown
 clear hown hB hF
 go_loopw [7,6,5] (fun s0 s1 s2 wr=>∃ (i c : Nat) (zs : List Nat),i ≤ N ∧ s0 = .int .i64 i ∧ s1 = .int .u64 (c : Nat) ∧ UpI k r (A7 W32 a) i c zs ∧ wr.ownsRow w.heap.size 176 1 s2 (k + i) (A0A zs) ∧ A3 w wr) (fun s0 _ _ _=>N - (intOf s0).toNat)
 case atStart=>exact ⟨0,0,List.replicate k 0,Nat.zero_le _,rfl,rfl,UpI.start k r _,Hown.out,hG⟩
 case round =>
  clear hG Hown
  obtain ⟨i,c,zs,hi,rfl,rfl,hI,ho,hG⟩:=hrel
  obtain ⟨u,rfl⟩ : ∃ x,x = wr:=⟨_,rfl⟩
  have hB:=Bx.nil u
  have hF:=Fr.nil w
  have HI:=Lib.hid hI
  have Ho:=Lib.hid ho
  clear hI ho
  rcases Nat.lt_or_ge i N with hlt | hge
  ·have hip : i ≤ p:=by omega
   have e1:=dgl a i
   have hnx:=HI.out.next (F2 D9 a)
   have hcr:=HI.out.2.2.1
   have hat:=Hat.out i
   obtain ⟨X,hX⟩ : ∃ X,X = dg (A7 W32 a) i:=⟨_,rfl⟩
   rw [← hX] at e1 hnx
   simp only [← hX] at hat
   obtain ⟨m,hm⟩ : ∃ m,m = X * 2 ^ r:=⟨_,rfl⟩
   rw [← hm] at hnx
   have h31 : (2 : Nat) ^ r ≤ 2147483648:=by rw [show (2147483648 : Nat) = 2 ^ 31 from rfl];exact Nat.pow_le_pow_right (by omega) (by omega)
   have hmb : m ≤ 4294967295 * 2147483648:=by rw [hm];exact Nat.mul_le_mul (by omega) h31
   obtain ⟨s,hs⟩ : ∃ s,s = c + m:=⟨_,rfl⟩
   rw [← hs] at hnx
   have f1 : IntKind.u64.wrap ((X : Int) * 2 ^ r) = (m : Int):=by rw [show (X : Int) * 2 ^ r = ((m : Nat) : Int) by rw [hm];simp];exact C5 (by omega)
   have f2 : bits BinOp.or IntKind.u64 (c : Int) (m : Int) = (s : Nat):=by rw [u64_or_nat c m (by omega) (by omega),A1T hcr (by rw [hm];exact Nat.dvd_mul_left _ _),hs,Nat.add_comm]
   obtain ⟨d,hd⟩ : ∃ d,d = s % 4294967296:=⟨_,rfl⟩
   obtain ⟨c',hc'⟩ : ∃ d,d = s / 4294967296:=⟨_,rfl⟩
   have hnx2 : UpI k r (A7 W32 a) (i + 1) c' (zs ++ [d]):=by rw [hc',hd];exact hnx
   have f3 : (s : Int) % 4294967296 = (d : Int):=by omega
   have f3' : IntKind.u32.wrap (s : Int) = (d : Int):=by rw [← f3];simp [IntKind.wrap,IntKind.signed,IntKind.bits]
   have f4 : (s : Int) / 4294967296 = (c' : Int):=by omega
   have Hat2:=Lib.hid hat
   have Hnx:=Lib.hid hnx2
   clear hnx hnx2 hat hX hm hs hd hc' hcr h31
   refine wp_seq ?_
   refine r0T ?_
   refine wp_cond_true (rfl) ?_
   refine wp_skip ?_
   refine A4 ?_
   refine wp_seq ?_
   refine wp_block ?_
   refine wp_seq (rsE A5 [0,0,0,1,0,0,0,0,0,0] hB hG fun L hL=>?_)
   refine gs ?_
   refine gmd (C:=fun v ⟨hgu,hB,hG,_⟩=>Hat2.out _ hG) ?_
   refine gs ?_
   refine geT hL ?_
   clear hB hG hL L
   rintro u ⟨hgu,hB,hG,-⟩
   have Hon:=Lib.hid (F3 Ho.out hgu)
   clear Ho
   have Ho:=Hon
   clear Hon
   clear hgu
   refine wp_seq ?_
   refine A03 (w:=w) A5 3 [0,0,0] (by kernel_rfl) (by simp only [List.drop_succ_cons,List.drop_zero];exact rfl) (fun _=>True) noG hB hG trivial ?_
   intro K L hN hL
   simp only [List.zip_cons_cons,List.zip_nil_left]
   refine gs ?_
   refine K8 ?_
   rintro v ⟨hgu,hB1,hG1,-⟩
   have ROWn:=Lib.hid (F3 Ho.out hgu)
   clear Ho
   have Ho:=ROWn
   clear ROWn
   clear hB hG
   have hB:=hB1
   have hG:=hG1
   clear hB1 hG1
   refine hL _ _ ?_
   clear hL L hgu
   obtain ⟨u,rfl⟩ : ∃ x,x = v:=⟨_,rfl⟩
   refine A2J A6O w.heap.size _ _ _ _ [.int .u32 (d : Nat)] rfl rfl (A7Z d u) rfl (fun _=>rfl) (fun _=>rfl) (fun _ _=>rfl) Ho.out (by omega) (by omega) hG.sz fun p v' w' g1 g2 g3=>?_
   have hBn:=Bx.nil w'
   have hGn:=A2K Ho.out hG g2
   clear Ho hB hG
   have Ho:=Lib.hid g1
   have hB:=hBn
   have hG:=hGn
   clear g1 g2 g3 hBn hGn
   obtain ⟨u,rfl⟩ : ∃ x,x = w':=⟨_,rfl⟩
   simp only [Act.put,List.setIfInBounds_toArray,List.set_cons_succ,List.set_cons_zero]
   refine NoK.norm (hN _ _ ?_)
   clear hN K
   refine A4 ?_
   refine r0E ?_
   refine F0 ?_
   refine A4 ?_
   refine r0E ?_
   refine A4 ?_
   go_roundw
   case rel=>exact ⟨i + 1,c',zs ++ [d],by omega,by go_num,rfl,Hnx.out,by have := Ho.out;rw [show k + (i + 1) = k + i + 1 by omega];simpa using this,hG⟩
   case measure=>simp [intOf];omega
  ·obtain rfl : N = i:=by omega
   have hnp : ¬ (N ≤ p):=by omega
   have hvv:=HI.out
   have hNp : N = (A7 W32 a).length + 1:=by rw [show (A7 W32 a).length = p from Hp.out.symm];omega
   rw [hNp] at hvv
   have hv2:=hvv.done (F2 D9 a) (by omega)
   rw [D5 D9,Nat.mul_assoc,Hpw.out] at hv2
   obtain ⟨A',cc,rfl,hcc1,hcc2,hL,hkl⟩:=A8k Ho.out
   have htr : ∀ W,A3 u W → Calls Tryz.prog 142 #[.slice A' (k + N) cc] W fun e w'=>e = .returned (.slice A' (ln (a * 2 ^ n)) cc) ∧ A3 W w':=fun W hg=>by
    have h1:=A1I A' zs cc W (hL.grow hg) (by omega) (by unfold maxLen at hcc2;omega)
    have e : C6 zs = A7 W32 (a * 2 ^ n):=by rw [← hv2];exact A6A D9 HI.out.2.1
    rw [e,← hkl] at h1
    exact h1
   have Htr:=Lib.hid htr
   have HL:=Lib.hid hL
   have Hv2:=Lib.hid hv2
   have Hkl:=Lib.hid hkl
   clear htr hL hv2 hvv hNp hkl
   refine wp_seq ?_
   refine r0T ?_
   refine wp_cond_false (rfl) ?_
   refine wp_exit ?_
   refine D7 ?_
   refine D7 ?_
   refine G8 ?_
   refine A4 ?_
   refine wp_seq ?_
   obtain ⟨V,hV⟩ : ∃ V,V = a * 2 ^ n:=⟨_,rfl⟩
   rw [← hV] at Htr Hv2
   have HV:=Lib.hid hV
   clear hV
   refine rsE A5 [0,1,0] hB hG fun L hL=>?_
   refine gs ?_
   refine gmd (C:=fun v ⟨hgu,hB,hG,_⟩=>Htr.out _ hgu) ?_
   refine gs ?_
   refine geT hL ?_
   clear hB hG hL L
   rintro u ⟨hgu,hB,hG,-⟩
   have hgf:=hgu
   clear hgu
   refine rt Tryz.results179 ?_
   exact ⟨(A',cc),by rw [← HV.out];rfl,by rw [← HV.out];exact (A4U HL.out HI.out.2.1 Hv2.out (by have := Hkl.out;omega) (by unfold maxLen at hcc2;omega) (by have := Hkl.out;omega)).1.grow hgf,hG⟩
end Go.Proofs.YtlkniebmjdoopaaGreatDoor
