/- Contracts and laws. -/
import Derived.Test.YtgpglgbcobeogaaGreatDoorU36
import Derived.ArgAppend
set_option linter.unusedSimpArgs false
set_option linter.unusedVariables false
set_option maxHeartbeats 4000000
set_option maxRecDepth 100000
namespace Go.Proofs.YtgpglgbcobeogaaGreatDoor
open Go Go.RowKit
def X4 (H : Nat → Value) (n k : Nat) : List Value:=(List.range n).map fun t=>if t < k then H t else .slice none 0 0
theorem A6I (H : Nat → Value) (n k : Nat) : (X4 H n k).length = n:=by unfold X4;simp
theorem B4U (H : Nat → Value) (n : Nat) : X4 H n 0 = List.replicate n (.slice none 0 0):=by
 unfold X4
 apply List.ext_getElem
 ·simp
 ·intro i h1 h2;simp
theorem B0J (H : Nat → Value) (n : Nat) : X4 H n n = (List.range n).map H:=by
 unfold X4
 refine List.map_congr_left fun j hj=>?_
 rw [if_pos (List.mem_range.1 hj)]
theorem A9y {H : Nat → Value} {n k : Nat} (h : k < n) : (X4 H n k).set k (H k) = X4 H n (k + 1):=by
 unfold X4
 apply List.ext_getElem
 ·simp
 ·intro j h1 h2
  rw [List.getElem_set]
  simp only [List.getElem_map,List.getElem_range]
  by_cases e : k = j
  ·subst e;simp
  ·rw [if_neg e]
   by_cases hj : j < k
   ·rw [if_pos hj,if_pos (by omega)]
   ·rw [if_neg hj,if_neg (by omega)]
theorem A9X {u v : World} {B n : Nat} (H : Nat → Value) (hB : B ≤ u.heap.size) (hn : n ≤ 1048576) (hv : u.alloc (.cells (List.replicate n (Value.slice none 0 0)).toArray 35) = v) : v.ownsRow B 35 1 (.slice (some ⟨u.heap.size,0,none⟩) n n) n ((X4 H n 0).flatMap I3):=by
 subst hv
 have h:=World.ownsRow_lit (base:=B) (e:=35) (size:=1) u (List.replicate n (Value.slice none 0 0)).toArray n hB (by unfold maxLen;omega) (by simp)
 rw [B4U,show (List.replicate n (Value.slice none 0 0)).flatMap I3 = List.replicate n (Value.slice none 0 0) from by simp [List.flatMap_singleton']]
 simpa using h
theorem A4j {u : World} {B b0 n : Nat} {l : List Value} (h : u.ownsRow B 35 1 (.slice (some ⟨b0,0,none⟩) n n) n (l.flatMap I3)) (hl : l.length = n) {i : Nat} (hi : i < n) : ∃ x,u.cell? ⟨b0,i,none⟩ = some x ∧ l[i]? = some x:=by
 have h1:=Z7 (enc:=I3) (size:=1) (fun _=>rfl) h hl.symm i 0 (by rw [hl];exact hi) (by omega)
 rw [Nat.mul_one,Nat.add_zero] at h1
 exact ⟨l[i]'(by rw [hl];exact hi),h1,List.getElem?_eq_getElem _⟩
theorem B1x {u : World} {B b0 n : Nat} {P : Nat → Ax} {R : Nat → List Rat} (h : u.ownsRow B 35 1 (.slice (some ⟨b0,0,none⟩) n n) n (((List.range n).map fun i=>Value.slice (P i).1 (R i).length (P i).2).flatMap I3)) (hr : ∀ i,i < n → Lq u (P i).1 (R i)) : Lrq u (some ⟨b0,0,none⟩) ((List.range n).map fun i=>(((P i).1,(P i).2,R i) : Rq)):=fun hne=>by
 refine ⟨b0,0,rfl,(h.lt b0 rfl).2,fun i r hi=>?_⟩
 rw [List.getElem?_map] at hi
 obtain ⟨k,hk,rfl⟩:=Option.map_eq_some_iff.1 hi
 have hin : i < n:=by
  have := (List.getElem?_eq_some_iff.1 hk).1
  simpa using this
 have hki : k = i:=by
  rw [List.getElem?_range hin] at hk
  exact (Option.some.inj hk).symm
 subst hki
 obtain ⟨x,hx,hx2⟩:=A4j h (by simp) hin
 rw [List.getElem?_map,List.getElem?_range hin] at hx2
 rw [Nat.zero_add,hx,← hx2]
 exact ⟨rfl,hr _ hin⟩
theorem B2l (b o n c i : Nat) (hi : i < n) (hc : n ≤ c) (hn : n ≤ 1048576) (W : World) : (Instr.slice 35 (.slice (some ⟨b,o,none⟩) n c) (some (.int .i64 (i : Nat))) (some (.int .i64 ((i : Int) + 1))) (some (.int .i64 ((i : Int) + 1)))).run Tryz.prog W = .ok (.slice (some ⟨b,o + i * 5,none⟩) 1 1) W:=by
 have h1 : (i : Int) ≤ (i : Int) + 1:=by omega
 have h2 : (i : Int) + 1 ≤ (c : Int):=by omega
 have h3 : i + 1 - i = 1:=by omega
 have h4 : i < i + 1:=by omega
 have h5 : ¬ c < i + 1:=by omega
 have h6 : i + 1 ≤ c:=by omega
 go_simp
theorem B3Q (b o n c : Nat) (hc : n ≤ c) (hn : n ≤ 1048576) (W : World) : (Instr.slice 35 (.slice (some ⟨b,o,none⟩) n c) none (some (.int .i64 (n : Nat))) (some (.int .i64 (n : Nat)))).run Tryz.prog W = .ok (.slice (some ⟨b,o,none⟩) n n) W:=by
 have h2 : (n : Int) ≤ (c : Int):=by omega
 go_simp
theorem B11 (bb ob n c : Nat) (y : List Rat) (hy : y.length = n) (hn2 : n ≤ 300) (hc : n ≤ c) (w : World) (h : Lq w (some ⟨bb,ob,none⟩) y) :
  Calls Tryz.prog 162 #[.slice (some ⟨bb,ob,none⟩) n c] w (G5 (fun x : Nat=>.slice (some ⟨x,0,none⟩) n n) (fun x W=>Lrq W (some ⟨x,0,none⟩) ((List.range n).map fun i=>((some ⟨bb,ob + i * 5,none⟩,1,[gq y i]) : Rq))) w):=by
 have hlq : ∀ W,A4 w W → ∀ i,i < n → Lq W (some ⟨bb,ob + i * 5,none⟩) [gq y i]:=fun W hg i hi hne=>by
  obtain ⟨b',off,e,hb,hcl⟩:=(h.grow hg) (fun e=>by rw [e] at hy;simp at hy;omega)
  cases e
  refine ⟨bb,ob + i * 5,rfl,hb,fun k q hk j v hj=>?_⟩
  have hk0 : k = 0:=by
   have := (List.getElem?_eq_some_iff.1 hk).1
   simpa using this
  subst hk0
  have hq : q = gq y i:=by simpa using hk.symm
  subst hq
  rw [Nat.zero_mul,Nat.add_zero]
  exact hcl i _ (A0N (by omega)) j v hj
 have hmk:=A25 n (by omega) (n : Int) rfl
 obtain ⟨H,hH⟩ : ∃ H : Nat → Value,H = fun i=>Value.slice (some ⟨bb,ob + i * 5,none⟩) 1 1:=⟨_,rfl⟩
 have hsl : ∀ i,i < n → ∀ W,(Instr.slice 35 (.slice (some ⟨bb,ob,none⟩) n c) (some (.int .i64 (i : Nat))) (some (.int .i64 ((i : Int) + 1))) (some (.int .i64 ((i : Int) + 1)))).run Tryz.prog W = .ok (H i) W:=fun i hi W=>by rw [hH];exact B2l bb ob n c i hi hc (by omega) W
 have Hlq:=Lib.hid hlq
 have Hmk:=Lib.hid hmk
 have Hsl:=Lib.hid hsl
 have HH:=Lib.hid hH
 clear hlq hmk hsl hH h hy
 go_enter Tryz.func162,Tryz.ntmps162
 refine en0 ?_
 intro u hG hB hF
 refine wp_seq ?_
 have hmk:=Hmk.out
 refine L7 ?_
 intro K hN
 go_wp2_with fail
 generalize hv : World.alloc u _ = v
 have hrow:=A9X H hG.sz (by omega) hv
 have hgv : A4 u v:=hv ▸ A4.alloc u _
 have hG2:=hG.trans hgv
 clear hv hG hB hmk hgv
 generalize u.heap.size = b0 at hrow ⊢
 have Ho:=Lib.hid hrow
 have hG:=hG2
 have hB:=Bx.nil v
 have hF:=Fr.nil w
 clear hrow hG2
 obtain ⟨u,rfl⟩ : ∃ x,x = v:=⟨_,rfl⟩
 refine NoK.norm (hN _ _ ?_)
 clear hN K
 refine A6 ?_
 refine wp_seq ?_
 refine r0T ?_
 refine wp_block ?_
 clear hB hF
 go_loopw [10] (fun s0 wr=>∃ i : Nat,i ≤ n ∧ s0 = .int .i64 i ∧ wr.ownsRow w.heap.size 35 1 (.slice (some ⟨b0,0,none⟩) n n) n ((X4 H n i).flatMap I3) ∧ A4 w wr) (fun s0 _=>n - (intOf s0).toNat)
 case atStart=>exact ⟨0,Nat.zero_le _,rfl,Ho.out,hG⟩
 case round =>
  clear hG Ho
  obtain ⟨i,hi,rfl,ho,hG⟩:=hrel
  obtain ⟨u,rfl⟩ : ∃ x,x = wr:=⟨_,rfl⟩
  have Ho:=Lib.hid ho
  have hB:=Bx.nil u
  have hF:=Fr.nil w
  clear ho
  rcases Nat.lt_or_ge i n with hlt | hge
  ·have hdec : decide ((i : Int) < (n : Int)) = true:=by simp;omega
   have hin : (i : Int) < (n : Int):=by omega
   have hst:=A9y (H:=H) hlt
   have hsl:=Hsl.out i hlt
   have fi : IntKind.i64.wrap ((i : Int) + 1) = (i : Int) + 1:=IntWalk.i64_in _ (by omega)
   obtain ⟨Q,hQ⟩ : ∃ q,q = H i:=⟨_,rfl⟩
   rw [← hQ] at hst
   simp only [← hQ] at hsl
   have hQ1 : ∃ a,Q = .slice a 1 1:=⟨_,by rw [hQ,HH.out]⟩
   obtain ⟨aQ,hQ1⟩:=hQ1
   subst hQ1
   have Hst:=Lib.hid hst
   have Hsl1:=Lib.hid hsl
   clear hst hsl hQ
   refine r0T ?_
   refine wp_seq ?_
   refine wp_cond_true (rfl) ?_
   refine wp_skip ?_
   refine A6 ?_
   refine wp_seq ?_
   refine wp_block ?_
   refine r0T ?_
   obtain ⟨z0,o0,-⟩:=A4j Ho.out (A6I H n i) hlt
   have hfz:=Ho.out.frozenAt
   have hsl:=Hsl1.out
   refine r0E ?_
   clear o0 hfz hsl
   generalize hu0 : World.setCell u _ _ = u0
   have hu1 : D1 u b0 i [.slice aQ 1 1] = u0:=hu0
   have hP:=R6 (enc:=I3) (size:=1) (ps:=X4 H n i) (fun _=>rfl) Ho.out i (.slice aQ 1 1) (by rw [A6I];exact hlt)
   rw [Nat.mul_one,Hst.out,hu1] at hP
   have hG2:=S8 Ho.out hG hP.2
   have Ho2:=Lib.hid hP.1
   clear hG hB Ho hP hu1 hu0
   have hG:=hG2
   have hB:=Bx.nil u0
   have hF:=Fr.nil w
   have Ho:=Ho2
   clear hG2 Ho2
   obtain ⟨u,rfl⟩ : ∃ x,x = u0:=⟨_,rfl⟩
   refine E3 ?_
   refine A6 ?_
   refine r0E ?_
   refine A6 ?_
   go_roundw
   case rel=>exact ⟨i + 1,by omega,by go_num,Ho.out,hG⟩
   case measure=>simp [intOf];omega
  ·obtain rfl : n = i:=by omega
   have hdec : decide ((n : Int) < (n : Int)) = false:=by simp
   have ho:=Ho.out
   rw [B0J,HH.out] at ho
   have HL:=Lib.hid (B1x (P:=fun i=>(some ⟨bb,ob + i * 5,none⟩,1)) (R:=fun i=>[gq y i]) ho (fun i hi=>Hlq.out u hG i hi))
   clear ho Ho
   refine r0T ?_
   refine wp_seq ?_
   refine wp_cond_false (rfl) ?_
   refine wp_exit ?_
   refine B9 ?_
   refine B9 ?_
   refine E9 ?_
   refine A6 ?_
   refine r0T ?_
   refine rt Tryz.results162 ?_
   exact ⟨b0,rfl,HL.out,hG⟩
theorem B3j {P : Program} {o : Oper} {a : Act} {v w' : World} {N : Value → World → Prop} {r x y : Value} (s z : Operand) (t : TypeId) (ho : o.op = .call { callee:=.builtin .append,args:=#[s,z],argTypes:=#[t,t] }) (hs : a.eval s = x) (hz : a.eval z = y) (hr : (Builtin.append_ #[t,t] o.type #[x,y]).run P v = .ok r w') (h : N r w') : W4 P o a v N:=by
 unfold W4 execOp
 simp only [ho,resolve,invoke,builtin,Sem.run_bind,Sem.run_pure,Result.andThen_ok,List.map_toArray,List.map_cons,List.map_nil,hs,hz,hr]
 exact h
theorem B2m (b o : Nat) (l l' : List Rat) (n m c ba oa : Nat) (hl : l.length = n) (hl' : l'.length = m) (hm : 0 < m) (hn2 : n ≤ 1000) (hm2 : m ≤ 1000) (v : World) (h : Lq v (some ⟨b,o,none⟩) l) (h' : Lq v (some ⟨ba,oa,none⟩) l') :
  ∃ (x : Nat × Nat) (w' : World),(Builtin.append_ #[35,35] 35 #[.slice (some ⟨b,o,none⟩) n n,.slice (some ⟨ba,oa,none⟩) m c]).run Tryz.prog v = .ok (.slice (some ⟨x.1,0,none⟩) (n + m) x.2) w' ∧ v.heap.size ≤ x.1 ∧ w'.ownsRow v.heap.size 48 5 (.slice (some ⟨x.1,0,none⟩) (n + m) x.2) (n + m) ((l ++ l').flatMap qL) ∧ A4 v w':=by
 obtain ⟨i0,hi0,hz0,hz1,hz2⟩:=info_parts A8i
 have key : ∀ (b o : Nat) (l : List Rat),Lq v (some ⟨b,o,none⟩) l → ∀ j u,(l.flatMap qL)[j]? = some u → v.cell? ((⟨b,o,none⟩ : Addr).add j) = some u:=fun b o l h j u hj=>by
  have hjl : j < 5 * l.length:=by
   have := (List.getElem?_eq_some_iff.1 hj).1
   rw [A0x] at this
   exact this
  obtain ⟨b',off,e,hb,hc⟩:=h (fun e=>by rw [e] at hjl;simp at hjl)
  cases e
  have h1 : j / 5 < l.length:=by omega
  have h2:=A21 l (A0N h1) (j:=j % 5) (by omega)
  rw [show j / 5 * 5 + j % 5 = j by omega,hj] at h2
  have h3:=hc (j / 5) _ (A0N h1) (j % 5) u h2.symm
  rw [Go.WideShapes.add_plain]
  rw [show o + j / 5 * 5 + j % 5 = o + j by omega] at h3
  exact h3
 obtain ⟨v',w',hr,ho,hg⟩:=run_append_arg_grows (P:=Tryz.prog) v 35 35 48 i0 (.agg (qL 0).toArray) 5 56 Tryz.underlying35 hi0 hz0 hz1 hz2 rfl (by omega) ⟨b,o,none⟩ n n (l.flatMap qL) (by rw [A0x];omega) (key b o l h) ⟨ba,oa,none⟩ m c (l'.flatMap qL) (by rw [A0x];omega) (key ba oa l' h') (by omega) (by unfold maxLen;omega) (by omega)
 rw [← List.flatMap_append] at ho
 have ho2:=ho
 obtain ⟨_,h1 | ⟨g,cap,cur,rfl,hb,-⟩⟩:=ho
 ·exact absurd h1.2 (by omega)
 ·exact ⟨(g,cap),w',hr,hb,ho2,⟨hg.os,hg.tape,hg.output,hg.size,fun k hk=>hg.block k hk (fun e=>by cases e)⟩⟩
def A2A (X Y : List (List Rat)) : Mx:=fun i j=>gq (B6 X i ++ B6 Y i) j
theorem A7v {X Y : List (List Rat)} {n i : Nat} (h : (B6 X i ++ B6 Y i).length = n) : F0 (A2A X Y) n i = B6 X i ++ B6 Y i:=by
 unfold F0 A2A
 apply List.ext_getElem
 ·simp only [List.length_map,List.length_range];exact h.symm
 ·intro j h1 h2
  simp only [List.getElem_map,List.getElem_range]
  unfold gq
  rw [List.getElem?_eq_getElem h2]
  rfl
theorem B0v (A D : Option Addr) (rs rs2 : List Rq) (n Lw m c d : Nat) (hn : rs.length = n) (hn' : rs2.length = n) (hn2 : n ≤ 300) (hL1 : 1 ≤ Lw) (hL2 : Lw ≤ 1000) (hm1 : 1 ≤ m) (hm2 : m ≤ 1000) (hrl : ∀ r ∈ rs,r.2.2.length = Lw) (hrc : ∀ r ∈ rs,Lw ≤ r.2.1) (hrl2 : ∀ r ∈ rs2,r.2.2.length = m) (w : World) (h : Lrq w A rs) (h2 : Lrq w D rs2) :
  Calls Tryz.prog 161 #[.slice A n c,.slice D n d] w (G5 (fun x : Nat × (Nat → Nat) × (Nat → Nat)=>.slice (some ⟨x.1,0,none⟩) n n) (fun x W=>MatW w.heap.size n (Lw + m) x.1 n x.2.1 x.2.2 (A2A (rs.map (·.2.2)) (rs2.map (·.2.2))) W) w):=by
 have hat : ∀ i,i < n → ∃ (bb ob bd od ba oa ca b2 o2 c2 : Nat),A = some ⟨bb,ob,none⟩ ∧ D = some ⟨bd,od,none⟩ ∧ Lw ≤ ca ∧ ∀ W,A4 w W → W.cell? ⟨bb,ob + i,none⟩ = some (.slice (some ⟨ba,oa,none⟩) Lw ca) ∧ W.cell? ⟨bd,od + i,none⟩ = some (.slice (some ⟨b2,o2,none⟩) m c2) ∧
   ∃ (x : Nat × Nat) (w' : World),(Builtin.append_ #[35,35] 35 #[.slice (some ⟨ba,oa,none⟩) Lw Lw,.slice (some ⟨b2,o2,none⟩) m c2]).run Tryz.prog W = .ok (.slice (some ⟨x.1,0,none⟩) (Lw + m) x.2) w' ∧ W.heap.size ≤ x.1 ∧ w'.ownsRow W.heap.size 48 5 (.slice (some ⟨x.1,0,none⟩) (Lw + m) x.2) (Lw + m) ((F0 (A2A (rs.map (·.2.2)) (rs2.map (·.2.2))) (Lw + m) i).flatMap qL) ∧ A4 W w':=fun i hi=>by
  obtain ⟨bb,ob,⟨P1,P2⟩,e,hP⟩:=T6 hn hrl h hi
  obtain ⟨bd,od,⟨R1,R2⟩,e2,hR⟩:=T6 hn' hrl2 h2 hi
  obtain ⟨-,p2,p3⟩:=hP w (A4.refl w)
  obtain ⟨-,r2,r3⟩:=hR w (A4.refl w)
  obtain ⟨ba,oa,e3⟩:=p2.addr (by omega)
  obtain ⟨b2,o2,e4⟩:=r2.addr (by omega)
  simp only at e3 e4
  subst e3 e4
  have hcap : Lw ≤ P2:=by
   subst e
   have hil : i < rs.length:=by omega
   have h5:=(h.read (List.getElem?_eq_getElem hil)).1
   have h6:=(hP w (A4.refl w)).1
   rw [h6] at h5
   injection h5 with h5
   injection h5 with _ _ h7
   simp only at h7
   rw [h7]
   exact hrc _ (List.getElem_mem hil)
  refine ⟨bb,ob,bd,od,ba,oa,P2,b2,o2,R2,e,e2,hcap,fun W hg=>⟨(hP W hg).1,(hR W hg).1,?_⟩⟩
  rw [A7v (by rw [List.length_append];omega)]
  exact B2m ba oa _ _ Lw m R2 b2 o2 p3 r3 (by omega) hL2 hm2 W (hP W hg).2.1 (hR W hg).2.1
 obtain ⟨M,hM⟩ : ∃ M,M = A2A (rs.map (·.2.2)) (rs2.map (·.2.2)):=⟨_,rfl⟩
 rw [← hM]
 simp only [← hM] at hat
 have hmk:=A25 n (by omega) (n : Int) rfl
 obtain ⟨Lm,hLm⟩ : ∃ x,x = Lw + m:=⟨_,rfl⟩
 rw [← hLm]
 simp only [← hLm] at hat
 have Hat:=Lib.hid hat
 have Hmk:=Lib.hid hmk
 clear hat hmk hM h h2 hrl hrl2 hrc hn hn' hLm
 go_enter Tryz.func161,Tryz.ntmps161
 refine en0 ?_
 intro u hG hB hF
 refine wp_seq ?_
 have hmk:=Hmk.out
 refine L7 ?_
 intro K hN
 go_wp2_with fail
 generalize hv : World.alloc u _ = v
 have hrow:=A4n (fun _=>0) (fun _=>0) Lm hG.sz (by omega) hv
 have hgv : A4 u v:=hv ▸ A4.alloc u _
 have hG2:=hG.trans hgv
 clear hv hG hB hmk hgv
 generalize u.heap.size = b0 at hrow ⊢
 have Ho:=Lib.hid (MatP.mk hrow (fun i hi=>absurd hi (Nat.not_lt_zero _)) (fun i j hi=>absurd hi (Nat.not_lt_zero _)) : MatP w.heap.size n Lm b0 (fun _=>0) (fun _=>0) M 0 v)
 have hG:=hG2
 have hB:=Bx.nil v
 have hF:=Fr.nil w
 clear hrow hG2
 obtain ⟨u,rfl⟩ : ∃ x,x = v:=⟨_,rfl⟩
 refine NoK.norm (hN _ _ ?_)
 clear hN K
 refine A6 ?_
 refine wp_seq ?_
 refine r0T ?_
 refine wp_block ?_
 clear hB hF
 go_loopw [13] (fun s0 wr=>∃ (i : Nat) (g cp : Nat → Nat),i ≤ n ∧ s0 = .int .i64 i ∧ MatP w.heap.size n Lm b0 g cp M i wr ∧ A4 w wr) (fun s0 _=>n - (intOf s0).toNat)
 case atStart=>exact ⟨0,_,_,Nat.zero_le _,rfl,Ho.out,hG⟩
 case round =>
  clear hG Ho
  obtain ⟨i,g,cp,hi,rfl,ho,hG⟩:=hrel
  obtain ⟨u,rfl⟩ : ∃ x,x = wr:=⟨_,rfl⟩
  have Ho:=Lib.hid ho
  have hB:=Bx.nil u
  have hF:=Fr.nil w
  clear ho
  rcases Nat.lt_or_ge i n with hlt | hge
  ·have hdec : decide ((i : Int) < (n : Int)) = true:=by simp;omega
   have hin : (i : Int) < (n : Int):=by omega
   obtain ⟨bb,ob,bd,od,ba,oa,ca,b2,o2,c2,rfl,rfl,hca,hrd⟩:=Hat.out i hlt
   have hsl:=B3Q ba oa Lw ca hca (by omega)
   have Hrd:=Lib.hid hrd
   have Hsl:=Lib.hid hsl
   clear hrd hsl
   refine r0T ?_
   refine wp_seq ?_
   refine wp_cond_true (rfl) ?_
   refine wp_skip ?_
   refine A6 ?_
   refine wp_seq ?_
   refine wp_block ?_
   refine wp_seq ?_
   obtain ⟨q0,q1,-⟩:=Hrd.out u hG
   refine r0N ?_
   obtain ⟨u5,hu5⟩ : ∃ x,x = u:=⟨_,rfl⟩
   rw [← hu5] at Ho
   refine rdC A8 [] [(0,0),(0,1),(0,2),(0,3),(0,4),(0,5),(0,6),(0,7),(0,8),(0,9),(0,10),(0,11),(1,12),(0,13)] hB hG fun K L hN hL=>?_
   repeat first | refine gya ?_ | refine gyr ?_ | refine gna ?_ | refine gyb (by (rintro v ⟨hgu,hB,hG,-⟩ N hN;have r:=hB.r;simp only [BxR] at r;obtain ⟨q0,q1,-⟩:=Hrd.out v hG;have hsl:=Hsl.out;go_simp;exact hN)) ?_ | refine gyb (by (rintro v - N hN;have hsl:=Hsl.out;go_simp;exact hN)) ?_
   refine gx (Nat × Nat) (fun x : Nat × Nat=>.slice (some ⟨x.1,0,none⟩) Lm x.2) (fun x W'=>u5.heap.size ≤ x.1 ∧ W'.ownsRow w.heap.size 48 5 (.slice (some ⟨x.1,0,none⟩) Lm x.2) Lm ((F0 M Lm i).flatMap qL)) (fun x u u' hg h=>⟨h.1,D3 h.2 hg⟩) rfl ?_ (fun x30=>?_)
   ·(rintro v ⟨hgu,hB,hG,-⟩ N hN;obtain ⟨-,-,x,w9,hr,h1,h2,h3⟩:=Hrd.out v hG;exact B3j _ _ _ (by rfl) (by rfl) (by rfl) hr (hN x w9 ⟨by rw [hu5];exact Nat.le_trans hgu.size h1,h2.mono hG.sz⟩ h3))
   refine okf (by simp only [Act.put,List.setIfInBounds_toArray,List.set_cons_succ,List.set_cons_zero];exact rfl) ?_
   repeat first | refine gya ?_ | refine gyr ?_ | refine gna ?_ | refine gyb (by (rintro v - N hN;have hsl:=Hsl.out;go_simp;exact hN)) ?_
   refine geC hL ?_
   clear hB hG hL L
   rintro u ⟨⟨hgu,hB,hG,-⟩,hx30⟩
   have hG5 : A4 u5 u:=hu5 ▸ hgu
   have Hx:=Lib.hid hx30
   obtain ⟨z0,o0,-⟩:=A4j (Ho.out.grow hG5).hd (X6 g cp Lm n i) hlt
   have hfz:=(Ho.out.grow hG5).hd.frozenAt
   clear hx30
   clear hgu
   refine gt ?_
   clear hN K
   clear o0 hfz
   generalize hu0 : World.setCell u _ _ = u0
   have hu1 : D1 u b0 i [.slice (some ⟨x30.1,0,none⟩) Lm x30.2] = u0:=hu0
   have hP:=MatP.step Ho.out hG5 hlt Hx.out.1 Hx.out.2 hu1
   have hG2:=S8 (Ho.out.grow hG5).hd hG hP.2
   have Ho2:=Lib.hid hP.1
   clear hG hB Ho hP hu1 hu0 hG5 Hx hu5
   have hG:=hG2
   have hB:=Bx.nil u0
   have hF:=Fr.nil w
   have Ho:=Ho2
   clear hG2 Ho2 u5
   obtain ⟨u,rfl⟩ : ∃ x,x = u0:=⟨_,rfl⟩
   refine E3 ?_
   refine A6 ?_
   refine r0E ?_
   refine A6 ?_
   go_roundw
   case rel=>exact ⟨i + 1,_,_,by omega,by go_num,Ho.out,hG⟩
   case measure=>simp [intOf];omega
  ·obtain rfl : n = i:=by omega
   have hdec : decide ((n : Int) < (n : Int)) = false:=by simp
   have HL:=Lib.hid Ho.out.done
   clear Ho
   refine r0T ?_
   refine wp_seq ?_
   refine wp_cond_false (rfl) ?_
   refine wp_exit ?_
   refine B9 ?_
   refine B9 ?_
   refine E9 ?_
   refine A6 ?_
   refine r0T ?_
   refine rt Tryz.results161 ?_
   exact ⟨(b0,g,cp),rfl,HL.out,hG⟩
end Go.Proofs.YtgpglgbcobeogaaGreatDoor
