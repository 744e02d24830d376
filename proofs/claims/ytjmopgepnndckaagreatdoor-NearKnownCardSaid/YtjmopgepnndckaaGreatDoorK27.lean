/- Contracts and laws. -/
import Derived.Test.YtjmopgepnndckaaGreatDoorK26
import Derived.Maps.AppendAt
set_option linter.unusedSimpArgs false
set_option linter.unusedVariables false
set_option maxHeartbeats 1000000
set_option maxRecDepth 100000
namespace Go.Proofs.YtjmopgepnndckaaGreatDoor
open Go.RowKit
theorem B1s {b : Nat} (h0 : b ≠ 0) (h : b < W32) : ln b = 1 ∧ A7 W32 b = [b]:=by
 have e : A7 W32 b = [b]:=by
  rw [X3 C8 h0,Nat.mod_eq_of_lt h,Nat.div_eq_of_lt h];rfl
 exact ⟨by unfold ln;rw [e];rfl,e⟩
theorem Rn.nil (u : World) : Rn u (none,0) 0:=⟨Lim.nil _ _,Nat.le_refl _,by omega,by decide⟩
theorem Ret.nn {a b : Nat} {w : World} {P : Program} {f : FuncId} {args : Array Value} {W : World} (h : Calls P f args W (Ret (nnR a b) w)) : Calls P f args W fun e w'=>∃ x y : Ax,e = .returned (.tuple #[.slice x.1 (ln a) x.2,.slice y.1 (ln b) y.2]) ∧ Rn w' x a ∧ Rn w' y b ∧ A3 w w' :=
 h.mono fun _ _ ⟨x,he,ht,hg⟩=>⟨x.1,x.2,he,ht.1,ht.2,hg⟩
theorem A7G (x y : Ax) (a b : Nat) (w : World) (hx : Rn w x a) (hy : Rn w y b) (hlt : a < b) : Calls Tryz.prog 154 #[nvV x a,nvV y b] w (Ret (nnR (a / b) (a % b)) w):=by
 have hcmp:=A2d x y a b w hx hy
 rw [M3 hlt] at hcmp
 have Hcmp:=Lib.hid hcmp
 have Hx:=Lib.hid hx
 clear hcmp hx hy
 rw [Nat.div_eq_of_lt hlt,Nat.mod_eq_of_lt hlt]
 go_enter Tryz.func154,Tryz.ntmps154
 go_wp2_with (go_at_call 59;((with_reducible refine (Hcmp.out).mono ?_);rintro e w1 ⟨rfl,hg⟩))
 go_ret2
 exact ⟨((none,0),x),rfl,⟨Rn.nil _,Hx.out.grow hg⟩,hg⟩
theorem A95 (x y : Ax) (a b : Nat) (w : World) (hx : Rn w x a) (hy : Rn w y b) (h0 : b ≠ 0) (hs : b < W32) : Calls Tryz.prog 154 #[nvV x a,nvV y b] w (Ret (nnR (a / b) (a % b)) w):=by
 by_cases hlt : a < b
 ·exact A7G x y a b w hx hy hlt
 ·have hcmp:=A2d x y a b w hx hy
  have hcz : decide (D5 a b < 0) = false:=by unfold D5;rw [if_neg hlt];split <;> rfl
  obtain ⟨hl1,hdg⟩:=B1s h0 hs
  obtain ⟨A2,c2⟩:=y
  have hcell:=hy.1.cell (i:=0) (by rw [hdg];simp)
  rw [hdg] at hcell
  obtain ⟨b2,o2,rfl,hc2⟩:=hcell
  have hc2' : ∀ W,A3 w W → W.cell? ⟨b2,o2,none⟩ = some (.int .u32 (b : Nat)):=fun W hg=>by
   have h1:=(hy.1.grow hg).cell (i:=0) (by rw [hdg];simp)
   rw [hdg] at h1
   obtain ⟨b3,o3,e3,h3⟩:=h1
   injection e3 with e3
   injection e3 with e4 e5
   subst e4;subst e5
   exact h3
  have hone : ∀ W,A3 w W → Calls Tryz.prog 182 #[nvV x a,.int .u32 b] W fun e w'=>∃ y : Ax,e = .returned (.tuple #[nvV y (a / b),.int .u32 (a % b : Nat)]) ∧ Rn w' y (a / b) ∧ A3 W w':=fun W hg=>B1n x a b W (hx.grow hg) (Nat.pos_of_ne_zero h0) hs
  have hmod : a % b < W64:=Nat.lt_of_lt_of_le (Nat.mod_lt _ (Nat.pos_of_ne_zero h0)) (Nat.le_of_lt (Nat.lt_of_lt_of_le hs (by unfold W32 W64;omega)))
  have hof:=A4M (a % b) hmod
  obtain ⟨m,hme⟩ : ∃ m,m = a % b:=⟨_,rfl⟩
  rw [← hme] at hone hof hmod ⊢
  unfold W64 at hmod
  show Calls Tryz.prog 154 #[nvV x a,.slice (some ⟨b2,o2,none⟩) (ln b) c2] w _
  rw [hl1]
  have hcmp' : Calls Tryz.prog 59 #[nvV x a,.slice (some ⟨b2,o2,none⟩) 1 c2] w fun e w'=>e = .returned (.int .i64 (D5 a b)) ∧ A3 w w':=by
   rw [← hl1];exact hcmp
  have Hcmp:=Lib.hid hcmp'
  have Hone:=Lib.hid hone
  have Hof:=Lib.hid hof
  have Hc2:=Lib.hid hc2'
  clear hcmp hcmp' hone hof hc2' hc2 hy hx hdg hl1 hs hme
  go_enter Tryz.func154,Tryz.ntmps154
  go_wp2_with (first
   | (go_at_call 59;((with_reducible refine (Hcmp.out).mono ?_);rintro e w1 ⟨rfl,hg1⟩;have hcc:=Hc2.out w1 hg1))
   | (go_at_call 182;((with_reducible refine (Hone.out w1 hg1).mono ?_);rintro e w2 ⟨y2,rfl,hy2,hg2⟩))
   | (go_at_call 88;((with_reducible refine (Hof.out _).mono ?_);rintro e w3 ⟨y3,rfl,hy3,hg3⟩)))
  go_ret2
  exact ⟨(y2,y3),rfl,⟨hy2.grow hg3,hy3⟩,hg1.trans (hg2.trans hg3)⟩
theorem A1q (a : Nat) : ln a ≤ bl a / 32 + 1:=by
 refine A1G C8 (Nat.lt_of_lt_of_le (T6 a) ?_)
 rw [show W32 = 2 ^ 32 from rfl,← Nat.pow_mul]
 exact Nat.pow_le_pow_right (by omega) (by omega)
theorem dgl (a k : Nat) : dg (A7 W32 a) k < 4294967296:=B4 C7 (E0 C8 a) k
theorem A5I (x : Ax) (a i : Nat) (w : World) (hx : Rn w x a) : Calls Tryz.prog 206 #[nvV x a,.int .i64 i] w fun e w'=>e = .returned (.int .u64 (dg (A7 W32 a) i : Nat)) ∧ A3 w w':=by
 obtain ⟨A,c⟩:=x
 obtain ⟨n,hn⟩ : ∃ n,n = ln a:=⟨_,rfl⟩
 show Calls Tryz.prog 206 #[.slice A (ln a) c,.int .i64 i] w _
 rw [← hn]
 rcases Nat.lt_or_ge i n with h | h
 ·obtain ⟨b,off,rfl,hc⟩:=hx.1.cell (i:=i) (by rw [hn] at h;exact h)
  have hl:=dgl a i
  generalize dg (A7 W32 a) i = p at *
  have hp : ((p : Int)) % 18446744073709551616 = (p : Int):=by omega
  clear hx hn
  go_enter Tryz.func206,Tryz.ntmps206
  go_wp2_with fail
  go_ret
  exact ⟨rfl,A3.refl _⟩
 ·rw [V4 (l:=A7 W32 a) (by rw [hn] at h;exact h)]
  have h' : ¬ i < n:=by omega
  clear hx hn
  go_enter Tryz.func206,Tryz.ntmps206
  go_wp2_with fail
  go_ret
  exact ⟨rfl,A3.refl _⟩
def AdI (W N : Nat) (la lb : List Nat) (k c : Nat) (zs : List Nat) : Prop:=zs.length = N ∧ Dig W zs ∧ c ≤ 1 ∧ val W (zs.take k) + c * W ^ k = val W (la.take k) + val W (lb.take k)
theorem AdI.start {W : Nat} (N : Nat) (la lb : List Nat) (hW : 0 < W) : AdI W N la lb 0 0 (List.replicate N 0) :=
 ⟨by simp,fun z hz=>by rw [(List.mem_replicate.1 hz).2];exact hW,by omega,by simp [val]⟩
theorem AdI.next {W N : Nat} {la lb zs : List Nat} {k c : Nat} (h : AdI W N la lb k c zs) (hW : 2 ≤ W) (ha : Dig W la) (hb : Dig W lb) (hk : k < N) :
  AdI W N la lb (k + 1) ((dg la k + dg lb k + c) / W) (zs.set k ((dg la k + dg lb k + c) % W)):=by
 obtain ⟨h1,h2,h3,h4⟩:=h
 have e1:=B4 (by omega) ha k
 have e2:=B4 (by omega) hb k
 refine ⟨by rw [List.length_set];exact h1,J9 h2 _ (Nat.mod_lt _ (by omega)),?_,?_⟩
 ·have : (dg la k + dg lb k + c) / W < 2:=Nat.div_lt_of_lt_mul (by omega)
  omega
 ·rw [A35 (by omega)]
  exact A7c (by rw [List.length_take];omega) h4
theorem AdI.done {W N : Nat} {la lb zs : List Nat} {c : Nat} (h : AdI W N la lb N c zs) (hW : 2 ≤ W) (ha : Dig W la) (hb : Dig W lb) (hla : la.length < N) (hlb : lb.length < N) : val W zs = val W la + val W lb:=by
 obtain ⟨h1,h2,h3,h4⟩:=h
 rw [List.take_of_length_le (by omega),List.take_of_length_le (by omega),List.take_of_length_le (by omega)] at h4
 have e1:=Nat.lt_of_lt_of_le (F3 ha) (Nat.pow_le_pow_right (by omega) (show la.length ≤ N - 1 by omega))
 have e2:=Nat.lt_of_lt_of_le (F3 hb) (Nat.pow_le_pow_right (by omega) (show lb.length ≤ N - 1 by omega))
 have e3 : 2 * W ^ (N - 1) ≤ W ^ N:=by
  obtain ⟨m,rfl⟩ : ∃ m,N = m + 1:=⟨N - 1,by omega⟩
  rw [Nat.add_sub_cancel,Nat.pow_succ,Nat.mul_comm]
  exact Nat.mul_le_mul_left _ hW
 rcases Nat.eq_zero_or_pos c with rfl | hc
 ·omega
 ·obtain rfl : c = 1:=by omega
  omega
theorem B4K {w u : World} {b N a : Nat} {zs : List Nat} (hG : A3 w u) (hR : Blk u b 162 (C6 zs)) (hl : zs.length = N) (hd : Dig W32 zs) (hv : val W32 zs = a) (hN : N ≤ 1099511627776) :
  ∀ W,A3 u W → Calls Tryz.prog 126 #[.slice (some ⟨b,0,none⟩) N N] W fun e w'=>e = .returned (.slice (some ⟨b,0,none⟩) (ln a) N) ∧ A3 W w':=fun W hg=>by
 have hL : Lim W (some ⟨b,0,none⟩) zs:=(L7.lim hR).grow hg
 have h1:=A0Q (some ⟨b,0,none⟩) zs N W hL (Nat.le_of_eq hl) (by omega)
 obtain ⟨-,hlen⟩:=A1Q (a:=a) (c:=N) hL hd hv (Nat.le_of_eq hl) hN
 rw [hl,hlen] at h1
 exact h1
theorem A9p {u : World} {b N a : Nat} {zs : List Nat} (hR : Blk u b 162 (C6 zs)) (hl : zs.length = N) (hd : Dig W32 zs) (hv : val W32 zs = a) (hN : N ≤ 1099511627776) : Rn u (some ⟨b,0,none⟩,N) a :=
 (A1Q (a:=a) (c:=N) (L7.lim hR) hd hv (Nat.le_of_eq hl) hN).1
def SdI (W N : Nat) (la lb : List Nat) (k br : Nat) (zs : List Nat) : Prop:=zs.length = N ∧ Dig W zs ∧ br ≤ 1 ∧ val W (zs.take k) + val W (lb.take k) = val W (la.take k) + br * W ^ k
theorem SdI.start {W : Nat} (N : Nat) (la lb : List Nat) (hW : 0 < W) : SdI W N la lb 0 0 (List.replicate N 0) :=
 ⟨by simp,fun z hz=>by rw [(List.mem_replicate.1 hz).2];exact hW,by omega,by simp [val]⟩
theorem SdI.next {W N : Nat} {la lb zs : List Nat} {k br : Nat} (h : SdI W N la lb k br zs) (hW : 0 < W) (ha : Dig W la) (hb : Dig W lb) (hk : k < N) :
  SdI W N la lb (k + 1) (if dg la k < dg lb k + br then 1 else 0) (zs.set k ((dg la k + W - dg lb k - br) % W)):=by
 obtain ⟨h1,h2,h3,h4⟩:=h
 refine ⟨by rw [List.length_set];exact h1,J9 h2 _ (Nat.mod_lt _ hW),by split <;> omega,?_⟩
 rw [A35 (by omega)]
 exact A4B h3 (B4 hW ha k) (B4 hW hb k) (by rw [List.length_take];omega) h4
theorem SdI.done {W N : Nat} {la lb zs : List Nat} {br : Nat} (h : SdI W N la lb N br zs) (hla : la.length = N) (hlb : lb.length ≤ N) (hle : val W lb ≤ val W la) : val W zs = val W la - val W lb:=by
 obtain ⟨h1,h2,h3,h4⟩:=h
 rw [List.take_of_length_le (by omega),List.take_of_length_le (by omega),List.take_of_length_le (by omega)] at h4
 have h6:=F3 h2
 rw [h1] at h6
 rcases Nat.eq_zero_or_pos br with rfl | hc
 ·omega
 ·obtain rfl : br = 1:=by omega
  omega
def MlI (W N : Nat) (l1 l2 : List Nat) (i : Nat) (zs : List Nat) : Prop :=
 zs.length = N ∧ Dig W zs ∧ val W zs = val W (l1.take i) * val W l2 ∧ ∀ t,i + l2.length ≤ t → dg zs t = 0
def MlJ (W N : Nat) (l1 l2 : List Nat) (i j c : Nat) (zs : List Nat) : Prop :=
 zs.length = N ∧ Dig W zs ∧ c < W ∧ val W zs + c * W ^ (i + j) = val W (l1.take i) * val W l2 + W ^ i * (dg l1 i * val W (l2.take j)) ∧ ∀ t,i + l2.length ≤ t → dg zs t = 0
theorem MlI.start {W : Nat} (N : Nat) (l1 l2 : List Nat) (hW : 0 < W) : MlI W N l1 l2 0 (List.replicate N 0) :=
 ⟨by simp,fun z hz=>by rw [(List.mem_replicate.1 hz).2];exact hW,by simp [Z5,val],fun t _=>by unfold dg;rw [List.getElem?_replicate];split <;> rfl⟩
theorem MlI.inner {W N : Nat} {l1 l2 : List Nat} {i : Nat} {zs : List Nat} (h : MlI W N l1 l2 i zs) (hW : 0 < W) : MlJ W N l1 l2 i 0 0 zs :=
 ⟨h.1,h.2.1,hW,by rw [h.2.2.1];simp [val],h.2.2.2⟩
theorem MlJ.next {W N : Nat} {l1 l2 : List Nat} {i j c : Nat} {zs : List Nat} (h : MlJ W N l1 l2 i j c zs) (hN : N = l1.length + l2.length) (h1 : Dig W l1) (h2 : Dig W l2) (hW : 0 < W) (hi : i < l1.length) (hj : j < l2.length) :
  MlJ W N l1 l2 i (j + 1) ((dg l1 i * dg l2 j + dg zs (i + j) + c) / W) (zs.set (i + j) ((dg l1 i * dg l2 j + dg zs (i + j) + c) % W)):=by
 obtain ⟨hl,hd,hc,hv,hz⟩:=h
 refine ⟨by rw [List.length_set,hl],J9 hd _ (Nat.mod_lt _ hW),(A4J (B4 hW h1 i) (B4 hW h2 j) (B4 hW hd _) hc).2.2,?_,fun t ht=>?_⟩
 ·rw [← Nat.add_assoc]
  exact A5V (by rw [hl];omega) hv
 ·rw [J4 _ _ (by omega)]
  exact hz t ht
theorem MlJ.outer {W N : Nat} {l1 l2 : List Nat} {i c : Nat} {zs : List Nat} (h : MlJ W N l1 l2 i l2.length c zs) (hN : N = l1.length + l2.length) (hi : i < l1.length) : MlI W N l1 l2 (i + 1) (zs.set (i + l2.length) c):=by
 obtain ⟨hl,hd,hc,hv,hz⟩:=h
 have hlt : i + l2.length < zs.length:=by rw [hl];omega
 refine ⟨by rw [List.length_set,hl],J9 hd _ hc,?_,fun t ht=>?_⟩
 ·have h1:=P5 W zs (i + l2.length) c hlt
  rw [hz _ (Nat.le_refl _),Nat.mul_zero,Nat.add_zero] at h1
  rw [S3 W l2 _ (Nat.le_refl _)] at hv
  rw [h1,H6,Nat.add_mul,Nat.mul_comm (W ^ (i + l2.length)) c,hv]
  grind
 ·rw [J4 _ _ (by omega)]
  exact hz t (by omega)
structure EI (T e : TypeId) (size bytes : Nat) : Prop where
 und : Tryz.prog.underlying T = some (.slice e)
 ex : ∃ i z,Tryz.prog.info? e = some i ∧ i.zero = some z ∧ i.size = size ∧ i.bytes = bytes ∧ z.cells.size = size
 pos : 0 < size
theorem A1m {T e : TypeId} {size bytes : Nat} (h1 : Tryz.prog.underlying T = some (.slice e)) (h2 : (Tryz.prog.info? e).map (fun i=>(i.zero.map fun z=>z.cells.size,i.size,i.bytes)) = some (some size,size,bytes)) (h3 : 0 < size) : EI T e size bytes:=by
 refine ⟨h1,?_,h3⟩
 cases hi : Tryz.prog.info? e with
 | none=>rw [hi] at h2;cases h2
 | some i =>
  rw [hi] at h2
  simp only [Option.map_some,Option.some.injEq,Prod.mk.injEq] at h2
  obtain ⟨h4,h5,h6⟩:=h2
  cases hz : i.zero with
  | none=>rw [hz] at h4;cases h4
  | some z =>
   rw [hz] at h4
   simp only [Option.map_some,Option.some.injEq] at h4
   exact ⟨i,z,rfl,hz,h5,h6,h4⟩
theorem B3u {P : Program} {o : Oper} {a : Act} {w w' : World} {K : Act → World → Prop} {Q : Exit → Act → World → Prop} {v : Value} (h : (execOp a.eval o).run P w = .ok (.value v) w') (hk : K (a.put o.dst v) w') : o.wp P a w K Q:=by
 unfold Oper.wp
 rw [h]
 exact hk
theorem B2V {P : Program} {a : Act} {w w' : World} {d : Option Tmp} {T : TypeId} {n : Nat} {x : Operand} {t : TypeId} {p : String} {f : Array Edge} {v : Value} (h : (Instr.buildSlice T n #[(0,a.eval x)]).run P w = .ok v w') : (execOp a.eval ⟨d,.buildSlice T n #[(0,x)],t,p,f,none⟩).run P w = .ok (.value v) w':=by
 unfold execOp
 simp only [List.map_toArray,List.map_cons,List.map_nil,Sem.run_bind]
 rw [h]
 rfl
theorem A6N {ops : Array Oper} {a : Act} {u : World} {K : Act → World → Prop} {d1 d2 d3 : Option Nat} {x s z q : Operand} {t1 t2 t3 : TypeId} {p1 p2 p3 : String} {f1 f2 f3 : Array Edge} {T e : TypeId} {size bytes : Nat} (hE : EI T e size bytes)
  (B : Nat) (v : Value) (n : Nat) (xs : List Value) (xv : Value) (ys : List Value) (hy : ys.length = size) (h1 : (ys.all fun y=>y.oneCell') = true) (hb : (Instr.buildSlice T 1 #[(0,xv)]).run Tryz.prog u = .ok (.slice (some ⟨u.heap.size,0,none⟩) 1 1) (u.alloc (.cells ys.toArray e)))
  (hx : a.eval x = xv) (hs : ∀ p,(a.put d1 p).eval s = v) (hz : ∀ p,(a.put d1 p).eval z = p) (hq : ∀ p p',((a.put d1 p).put d2 p').eval q = p')
  (hown : u.ownsRow B e size v n xs) (hl : n + 1 ≤ 1099511627776) (hl2 : (n + 1) * bytes ≤ 140737488355328) (hB : B ≤ u.heap.size)
  (h : ∀ p v' w',w'.ownsRow B e size v' (n + 1) (xs ++ ys) → (u.alloc (.cells ys.toArray e)).grownBy w' v.ownBlock → (v'.ownBlock = v.ownBlock ∨ v'.ownBlock = some (u.heap.size + 1)) → NoK K .normal (((a.put d1 p).put d2 v').put d3 v') w') :
  wpList Tryz.prog ops (NoK K) [⟨d1,.buildSlice T 1 #[(0,x)],t1,p1,f1,none⟩,⟨d2,.call { callee:=.builtin .append,args:=#[s,z],argTypes:=#[T,T] },t2,p2,f2,none⟩,⟨d3,.assign q,t3,p3,f3,none⟩] a u:=by
 obtain ⟨hund,⟨i0,z0,hi0,hz0,hz1,hz2,hz3⟩,hpos⟩:=hE
 refine wpList_plain rfl fun K1 hK1=>?_
 have hb1 : (Instr.buildSlice T 1 #[(0,a.eval x)]).run Tryz.prog u = .ok (.slice (some ⟨u.heap.size,0,none⟩) 1 1) (u.alloc (.cells ys.toArray e)):=by rw [hx];exact hb
 have hb2:=B2V (d:=d1) (t:=t1) (p:=p1) (f:=f1) hb1
 unfold Oper.wp
 rw [hb2]
 refine hK1 _ _ ?_
 show wpList Tryz.prog ops (NoK K) _ (a.put d1 _) _
 have hs1:=hs (.slice (some ⟨u.heap.size,0,none⟩) 1 1)
 have hz1':=hz (.slice (some ⟨u.heap.size,0,none⟩) 1 1)
 have hq1:=hq (.slice (some ⟨u.heap.size,0,none⟩) 1 1)
 have hh:=h (.slice (some ⟨u.heap.size,0,none⟩) 1 1)
 have ho:=hown.alloc (.cells ys.toArray e)
 generalize a.put d1 (.slice (some ⟨u.heap.size,0,none⟩) 1 1) = a1 at hs1 hz1' hq1 hh
 refine wpList_append_own_at (u.alloc (.cells ys.toArray e)) (a:=a1) (Q:=NoK K) rfl s z T rfl B e i0 z0 size bytes hund hi0 hz0 hz1 hz2 hz3 hpos v n xs hs1 ho ⟨u.heap.size,0,none⟩ 1 1 ys hz1' (by rw [hy];omega) ?_ (fun y hy=>List.all_eq_true.1 h1 y hy) (by unfold maxLen;omega) hl2 (by rw [E9];omega) fun v' w' g1 g2 _ g4=>?_
 ·intro j y hj
  rw [Go.WideShapes.add_plain,Nat.zero_add,Blk.cell (Blk.new u e ys.toArray) j,List.getElem?_toArray]
  exact hj
 ·rw [E9] at g4
  refine wpList_plain rfl fun K2 hK2=>?_
  refine B3u (v:=v') (w':=w') ?_ (hK2 _ _ (wpList_nil ?_))
  ·have e1 : (execOp ((a1.put d2 v').eval) ⟨d3,.assign q,t3,p3,f3,none⟩).run Tryz.prog w' = .ok (.value ((a1.put d2 v').eval q)) w':=rfl
   rw [hq1] at e1
   exact e1
  ·exact hh v' w' g1 g2 g4
theorem A3v {w u w' : World} {e : TypeId} {size n : Nat} {v : Value} {xs : List Value} {o : Obj} (h : u.ownsRow w.heap.size e size v n xs) (hG : A3 w u) (hg : (u.alloc o).grownBy w' v.ownBlock) : A3 w w' :=
 (hG.trans (A3.alloc u o)).grown hg fun k hk=>(h.lt k hk).1
theorem E5 {u u' : World} {B : Nat} {e : TypeId} {s : Nat} {v : Value} {n : Nat} {xs : List Value} (h : u.ownsRow B e s v n xs) (hg : A3 u u') : u'.ownsRow B e s v n xs:=by
 obtain ⟨h0,h | ⟨g,cap,cur,rfl,hb,hh,hn,hc,hs,ht⟩⟩:=h
 ·exact ⟨h0,.inl h⟩
 ·exact ⟨h0,.inr ⟨g,cap,cur,rfl,hb,(hg.block g (M9 hh)).trans hh,hn,hc,hs,ht⟩⟩
theorem Lim.own {u w' : World} {B : Nat} {e : TypeId} {size n : Nat} {v : Value} {xs : List Value} {o : Obj} {A : Option Addr} {l : List Nat} (hl : Lim u A l) (h : u.ownsRow B e size v n xs) (ht : e ≠ 162) (hg : (u.alloc o).grownBy w' v.ownBlock) : Lim w' A l:=fun hne=>by
 obtain ⟨b,off,cs,fr,e1,hb,hc⟩:=hl hne
 refine ⟨b,off,cs,fr,e1,?_,hc⟩
 have hlt:=M9 hb
 have h2 : (u.alloc o).heap[b]? = u.heap[b]?:=(A3.alloc u o).block b hlt
 refine (hg.block b (by rw [E9];omega) fun hxe=>?_).trans (h2.trans hb)
 obtain ⟨_,h | ⟨g,cap,cur,rfl,hb',hh,hn,hc',hs,ht2⟩⟩:=h
 ·rw [h.1] at hxe;cases hxe
 ·have h1 : b = g:=Option.some.inj hxe
  rw [h1,hh] at hb
  injection hb with hb
  injection hb with _ h3 _
  exact ht h3
theorem Rn.own {u w' : World} {B : Nat} {e : TypeId} {size n : Nat} {v : Value} {xs : List Value} {o : Obj} {x : Ax} {a : Nat} (hl : Rn u x a) (h : u.ownsRow B e size v n xs) (ht : e ≠ 162) (hg : (u.alloc o).grownBy w' v.ownBlock) : Rn w' x a:=⟨hl.1.own h ht hg,hl.2⟩
theorem A7Z (y : Int) (w : World) : (Instr.buildSlice 53 1 #[(0,.int .u32 y)]).run Tryz.prog w = .ok (.slice (some ⟨w.heap.size,0,none⟩) 1 1) (w.alloc (.cells #[.int .u32 y] 162)):=by
 go_simp
abbrev W3 (l : List Nat) : List Value:=l.map fun x=>Value.int .u32 (x : Nat)
theorem A7g {u : World} {B b : Nat} {l : List Nat} (h : Blk u b 162 (C6 l)) (hb : B ≤ b) (hl : l.length ≤ maxLen) : u.ownsRow B 162 1 (.slice (some ⟨b,0,none⟩) l.length l.length) l.length (W3 l) :=
 ⟨by simp,.inr ⟨b,l.length,C6 l,rfl,hb,h,Nat.le_refl _,hl,by unfold C6;simp,by unfold C6;rw [Nat.mul_one,List.take_of_length_le (by simp)]⟩⟩
theorem A6t {u : World} {B n : Nat} {v : Value} {l : List Nat} (h : u.ownsRow B 162 1 v n (W3 l)) : ∃ A c,v = .slice A n c ∧ n ≤ c ∧ c ≤ maxLen ∧ Lim u A l ∧ n = l.length:=by
 have hn : n = l.length:=by have := h.1;simp at this;omega
 obtain ⟨_,h | ⟨g,cap,cur,rfl,hb,hh,hn',hc,hs,ht⟩⟩:=h
 ·obtain ⟨rfl,h0⟩:=h
  exact ⟨none,0,by rw [h0],by omega,by unfold maxLen;omega,fun hne=>absurd (List.eq_nil_of_length_eq_zero (by omega)) hne,hn⟩
 ·refine ⟨_,cap,rfl,hn',hc,fun _=>⟨g,0,cur,(0,0),rfl,hh,fun i x hi=>?_⟩,hn⟩
  have hil : i < l.length:=(List.getElem?_eq_some_iff.1 hi).1
  have h1 : (cur.toList.take (n * 1))[i]? = some (.int .u32 (x : Nat)):=by rw [ht,List.getElem?_map,hi];rfl
  rw [List.getElem?_take,if_pos (by omega)] at h1
  rw [Nat.zero_add]
  simpa using h1
theorem A3u : EI 53 162 1 4:=A1m (by kernel_rfl) (by kernel_rfl) (by omega)
theorem A7z : EI 35 49 5 56:=A1m (by kernel_rfl) (by kernel_rfl) (by omega)
end Go.Proofs.YtjmopgepnndckaaGreatDoor
