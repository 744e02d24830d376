/- Contracts and laws. -/
import Derived.Test.YtlkniebmjdoopaaGreatDoorK43
set_option linter.unusedSimpArgs false
set_option linter.unusedVariables false
set_option maxHeartbeats 16000000
set_option maxRecDepth 100000
namespace Go.Proofs.YtlkniebmjdoopaaGreatDoor
open Go Go.RowKit Go.Shelf
attribute [local go_sem] Oper.semAt_some
theorem B0Y : EI 153 152 12 128:=A2E (by kernel_rfl) (by kernel_rfl) (by omega)
theorem B6z : EI 27 48 10 112:=A2E (by kernel_rfl) (by kernel_rfl) (by omega)
def spL (s : Rat × Rat) : List Value:=qL s.1 ++ qL s.2
def pcD (V : Rat → Nat) (s : Rat × Rat) : List Value:=spL s ++ [.int .i64 (V s.1 : Nat),.int .i64 (V s.2 : Nat)]
abbrev pcA (lo hi : Rat) (p q : Nat) : Array Value:=#[.bool (D1 lo.num),.int .u64 (B3 lo.num.natAbs),.string (B1 lo.num.natAbs),.int .u64 (B3 (G3 lo.den)),.string (B1 (G3 lo.den)),.bool (D1 hi.num),.int .u64 (B3 hi.num.natAbs),.string (B1 hi.num.natAbs),.int .u64 (B3 (G3 hi.den)),.string (B1 (G3 hi.den)),.int .i64 (p : Nat),.int .i64 (q : Nat)]
theorem A48 (V : Rat → Nat) (lo hi : Rat) : pcA lo hi (V lo) (V hi) = (pcD V (lo,hi)).toArray:=rfl
def C12 (W : World) (b o : Nat) (s : Rat × Rat) (p q : Nat) : Prop:=Cq W b o s.1 ∧ Cq W b (o + 5) s.2 ∧ W.cell? ⟨b,o + 10,none⟩ = some (.int .i64 (p : Nat)) ∧ W.cell? ⟨b,o + 11,none⟩ = some (.int .i64 (q : Nat))
def B40 : Obj → Bool
 | .cells _ T _=>T == 152
 | _=>false
def B08 : Obj → Bool
 | .cells _ T _=>T == 48
 | _=>false
abbrev K0 (B bl : Nat) : Nat → Obj → Prop:=fun k _=>k < B ∧ k ≠ bl
abbrev KR (B bl : Nat) : Nat → Obj → Prop:=fun k o=>k ≠ bl ∧ (k < B ∨ B08 o = false)
abbrev KP (B : Nat) : Nat → Obj → Prop:=fun k o=>k < B ∨ B40 o = false
theorem KG.weak {p q : Nat → Obj → Prop} {u v : World} (h : KG p u v) (hq : ∀ k o,q k o → u.heap[k]? = some o → p k o) : KG q u v:=⟨h.os,h.tape,h.output,h.size,fun k o hk ho=>h.keep k o (hq k o hk ho) ho⟩
theorem A6r {u : World} {B size n : Nat} {T : TypeId} {v : Value} {xs : List Value} (h : u.ownsRow B T size v n xs) : ∃ A c,v = .slice A n c:=by
 obtain ⟨h0,h | ⟨g,cap,cur,rfl,hb,hh,hn,hc,hs,ht⟩⟩:=h
 ·exact ⟨none,0,by rw [h.1,h.2]⟩
 ·exact ⟨_,_,rfl⟩
theorem B1j {u : World} {B size n g cap : Nat} {T : TypeId} {xs ys : List Value} (h : u.ownsRow B T size (.slice (some ⟨g,0,none⟩) (n + 1) cap) (n + 1) (xs ++ ys)) (hx : xs.length = n * size) : u.ownsRow B T size (.slice (some ⟨g,0,none⟩) n cap) n xs:=by
 obtain ⟨h0,h | ⟨g',cap',cur,e,hb,hh,hn,hc,hs,ht⟩⟩:=h
 ·cases h.1
 ·cases e
  refine ⟨hx,.inr ⟨g,cap,cur,rfl,hb,hh,by omega,hc,hs,?_⟩⟩
  have h1:=congrArg (List.take (n * size)) ht
  rw [List.take_take,Nat.min_eq_left (Nat.mul_le_mul_right _ (by omega)),List.take_append_of_le_length (by omega),← hx,List.take_length] at h1
  rw [← hx];exact h1
theorem B4N {u : World} {B n g cap : Nat} {V : Rat → Nat} {s : Rat × Rat} {xs : List Value} (h : u.ownsRow B 152 12 (.slice (some ⟨g,0,none⟩) (n + 1) cap) (n + 1) (xs ++ pcD V s)) (hx : xs.length = n * 12) : C12 u g (n * 12) s (V s.1) (V s.2):=by
 have hc : ∀ t,t < 12 → u.cell? ⟨g,n * 12 + t,none⟩ = (pcD V s)[t]?:=fun t ht=>by
  rw [h.cellAt (n * 12 + t) (by omega),List.getElem?_append_right (by omega),hx,Nat.add_sub_cancel_left]
 exact ⟨⟨hc 0 (by omega),hc 1 (by omega),hc 2 (by omega),hc 3 (by omega),hc 4 (by omega)⟩,⟨hc 5 (by omega),hc 6 (by omega),hc 7 (by omega),hc 8 (by omega),hc 9 (by omega)⟩,hc 10 (by omega),hc 11 (by omega)⟩
theorem A3h {V : Rat → Nat} {S : List (Rat × Rat) × List (Rat × Rat)} {k : Nat} {o : List (Rat × Rat)} (h : F7 V S k = ([],o)) : ∀ j,F7 V S (k + j) = ([],o)
 | 0=>h
 | j + 1=>by rw [show k + (j + 1) = k + j + 1 from rfl,F7,A3h h j];rfl
theorem B5Y {V : Rat → Nat} {S : List (Rat × Rat) × List (Rat × Rat)} {k K : Nat} {o L : List (Rat × Rat)} (h : F7 V S k = ([],o)) (hK : F7 V S K = ([],L)) : o = L:=by
 rcases Nat.le_total k K with hl | hl
 ·obtain ⟨j,rfl⟩:=Nat.exists_eq_add_of_le hl
  rw [A3h h j] at hK
  exact (Prod.mk.inj hK).2
 ·obtain ⟨j,rfl⟩:=Nat.exists_eq_add_of_le hl
  rw [A3h hK j] at h
  exact (Prod.mk.inj h).2.symm
theorem A60 {V : Rat → Nat} {S : List (Rat × Rat) × List (Rat × Rat)} {k K : Nat} {s : Rat × Rat} {r o L : List (Rat × Rat)} (h : F7 V S k = (s :: r,o)) (hK : F7 V S K = ([],L)) : k < K:=by
 rcases Nat.lt_or_ge k K with hl | hl
 ·exact hl
 ·obtain ⟨j,rfl⟩:=Nat.exists_eq_add_of_le hl
  rw [A3h hK j] at h
  cases h
theorem A82 {V : Rat → Nat} {S : List (Rat × Rat) × List (Rat × Rat)} (k : Nat) : ∀ j,∃ t,(F7 V S (k + j)).2 = (F7 V S k).2 ++ t
 | 0=>⟨[],by simp⟩
 | j + 1=>by
  obtain ⟨t,ht⟩:=A82 (V:=V) (S:=S) k j
  rw [show k + (j + 1) = k + j + 1 from rfl,F7]
  generalize F7 V S (k + j) = X at *
  obtain ⟨st,o⟩:=X
  cases st with
  | nil=>exact ⟨t,ht⟩
  | cons s r =>
   obtain ⟨a,b⟩:=s
   rw [X6]
   split
   ·exact ⟨t,ht⟩
   ·split
    ·exact ⟨t ++ [(a,b)],by simp only at ht ⊢;rw [ht,List.append_assoc]⟩
    ·exact ⟨t,ht⟩
theorem B0V {V : Rat → Nat} {S : List (Rat × Rat) × List (Rat × Rat)} {k K : Nat} {a b : Rat} {r o L : List (Rat × Rat)} (h : F7 V S k = ((a,b) :: r,o)) (hK : F7 V S K = ([],L)) (h1 : V a = V b + 1) : o.length < L.length ∧ L[o.length]? = some (a,b):=by
 have hlt:=A60 h hK
 obtain ⟨j,rfl⟩:=Nat.exists_eq_add_of_le hlt
 obtain ⟨t,ht⟩:=A82 (V:=V) (S:=S) (k + 1) j
 rw [show k.succ = k + 1 from rfl] at hK
 rw [hK,F7,h,X6,if_neg (by omega),if_pos h1] at ht
 simp only at ht
 rw [ht]
 simp
theorem B3B {ops : Array Oper} {a : Act} {u : World} {K : Act → World → Prop} {d2 : Option Nat} {s z : Operand} {t2 : TypeId} {p2 : String} {f2 : Array Edge} {rest : List Oper} {T e : TypeId} {size bytes : Nat} (hE : EI T e size bytes)
  (B : Nat) (v : Value) (n : Nat) (xs : List Value) (b m : Nat) (ys : List Value) (hy : ys.length = m * size) (h1 : (ys.all fun y=>y.oneCell') = true) (hblk : Blk u b e ys.toArray)
  (hs : a.eval s = v) (hz : a.eval z = .slice (some ⟨b,0,none⟩) m m)
  (hown : u.ownsRow B e size v n xs) (hl : n + m ≤ 1099511627776) (hl2 : (n + m) * bytes ≤ 140737488355328) (hB : B ≤ u.heap.size)
  (h : ∀ v' w',w'.ownsRow B e size v' (n + m) (xs ++ ys) → u.grownBy w' v.ownBlock → (v'.ownBlock = v.ownBlock ∨ v'.ownBlock = some u.heap.size) → wpList Tryz.prog ops (NoK K) rest (a.put d2 v') w') :
  wpList Tryz.prog ops (NoK K) (⟨d2,.call { callee:=.builtin .append,args:=#[s,z],argTypes:=#[T,T] },t2,p2,f2,none⟩ :: rest) a u:=by
 obtain ⟨hund,⟨i0,z0,hi0,hz0,hz1,hz2,hz3⟩,hpos⟩:=hE
 refine wpList_append_own_at u (a:=a) (Q:=NoK K) rfl s z T rfl B e i0 z0 size bytes hund hi0 hz0 hz1 hz2 hz3 hpos v n xs hs hown ⟨b,0,none⟩ m m ys hz (by rw [hy]) ?_ (fun y hy=>List.all_eq_true.1 h1 y hy) (by unfold maxLen;omega) hl2 hB fun v' w' g1 g2 _ g4=>h v' w' g1 g2 g4
 intro j y hj
 rw [Go.WideShapes.add_plain,Nat.zero_add,Blk.cell hblk j,List.getElem?_toArray]
 exact hj
theorem A9F {P : Program} {c : Code} {Q : Exit → Act → World → Prop} {a : Act} {w : World} (h : ∀ u,A3 w u → c.wp P Q a u) : c.wp P Q a w:=h w (A3.refl w)
theorem A4Q {w1 u u' : World} {b i : Nat} {vs : List Value} (h : A3 w1 u) (hb : w1.heap.size ≤ b) (hu : E9 u b i vs = u') : A3 w1 u':=hu ▸ A3.put hb vs i u h
theorem A6y {p : Nat → Obj → Prop} {u u' : World} {B size n : Nat} {T : TypeId} {v : Value} {xs : List Value} (h : u.ownsRow B T size v n xs) (hg : KG p u u') (hp : ∀ g cur,B ≤ g → v.ownBlock = some g → p g (.cells cur T (0,0))) : u'.ownsRow B T size v n xs:=by
 obtain ⟨h0,h | ⟨g,cap,cur,rfl,hb,hh,hn,hc,hs,ht⟩⟩:=h
 ·exact ⟨h0,.inl h⟩
 ·exact ⟨h0,.inr ⟨g,cap,cur,rfl,hb,hg.keep g _ (hp g cur hb rfl) hh,hn,hc,hs,ht⟩⟩
theorem B1a {u : World} {B b : Nat} {T : TypeId} {xs : List Value} (h : Blk u b T xs.toArray) (hb : B ≤ b) : u.ownsRow B T xs.length (.slice (some ⟨b,0,none⟩) 1 1) 1 xs:=by
 refine ⟨by omega,.inr ⟨b,1,_,rfl,hb,h,by omega,by unfold maxLen;omega,by simp,?_⟩⟩
 simp
abbrev OKT (Ps : List (List Rat)) (V : Rat → Nat) (A : Option Addr) (N c : Nat) (x : Rat) : Prop:=∀ W,RW Ps A W → Tab W → F9 112 #[.slice A N c,qV x] W (V x : Nat)
theorem B5z (Ps : List (List Rat)) (V : Rat → Nat) (A : Option Addr) (c N : Nat) (lo hi : Rat) (K LM n : Nat) (L : List (Rat × Rat)) (b1 b2 bl : Nat) (w wE : World) (hwE : A3 w wE) (HT : Tab w) (hbl : w.heap.size ≤ bl) (hb1 : Blk wE b1 48 (W7 (lo,hi))) (hb2 : Blk wE b2 54 #[.slice A N c]) (hne : b1 ≠ bl ∧ b2 ≠ bl ∧ b1 ≠ b2) (hbw : w.heap.size ≤ b1 ∧ w.heap.size ≤ b2) (hbT : ∃ cs fr,wE.heap[bl]? = some (.cells cs 27 fr)) (hrw : RW Ps A wE) (hVb : ∀ x,V x ≤ 1000) (hlo : OKT Ps V A N c lo) (hhi : OKT Ps V A N c hi)
  (hst : ∀ k s r o,F7 V ([(lo,hi)],[]) k = (s :: r,o) → r.length + 2 ≤ LM ∧ (V s.1 ≠ V s.2 → V s.1 ≠ V s.2 + 1 → (∀ W,Tab W → F5 113 #[spV s.1 s.2] W (qV (D6 s.1 s.2))) ∧ OKT Ps V A N c (D6 s.1 s.2))) (hLM : LM ≤ 1000000000000) (hK : F7 V ([(lo,hi)],[]) K = ([],L)) (hn : n = L.length) (lp : Nat) (Rd : Nat → World → Prop) (Rx : World → Prop) (W : World) (hGW : KG (K0 wE.heap.size bl) wE W) (hsz : wE.heap.size + 2 ≤ W.heap.size) (hRd : ∀ i u v,KG (KP wE.heap.size) u v → Rd i u → Rd i v) (hRx : ∀ u v,KG (KP wE.heap.size) u v → Rx u → Rx v)
  (hY : ∀ i vs W1,i < n → KG (K0 wE.heap.size bl) wE W1 → Rd i W1 → (∃ s,L[i]? = some s ∧ vs = #[spV s.1 s.2]) → YieldAt Fence.wide 0 Tryz.prog lp vs W1 fun e W'=>(e = .returned (.bool true) ∧ KG (KR wE.heap.size bl) W1 W' ∧ Rd (i + 1) W') ∨ (e = .returned (.bool false) ∧ Rx W')) (h0 : Rd 0 W) :
  CallsIn Fence.wide 0 Tryz.prog 111 (#[.func (.yield lp) #[] #[]] ++ #[.pointer (some ⟨b1,0,none⟩),.pointer (some ⟨b2,0,none⟩)]) W fun e W'=>(∃ v,e = .returned v) ∧ ((KG (K0 wE.heap.size bl) wE W' ∧ Rd n W') ∨ Rx W'):=by
 refine callsIn_wide.2 ?_
 obtain ⟨B0,hB0⟩ : ∃ x,x = wE.heap.size:=⟨_,rfl⟩
 have hbb : b1 < B0 ∧ b2 < B0 ∧ bl < B0:=hB0 ▸ ⟨hb1.lt,hb2.lt,Q8 hbT.choose_spec.choose_spec⟩
 have hwB : w.heap.size ≤ B0:=hB0 ▸ hwE.size
 have hgrow : ∀ X,KG (K0 B0 bl) wE X → A3 w X:=fun X hX=>by
  refine ⟨hX.os.trans hwE.os,hX.tape.trans hwE.tape,hX.output.trans hwE.output,Nat.le_trans hwE.size hX.size,fun k hk=>?_⟩
  obtain ⟨o,ho⟩ : ∃ o,wE.heap[k]? = some o:=⟨_,Array.getElem?_eq_getElem (Nat.lt_of_lt_of_le hk hwE.size)⟩
  rw [hX.keep k o ⟨by omega,by omega⟩ ho,← ho,hwE.block k hk]
 have hold : ∀ X,KG (K0 B0 bl) wE X → RW Ps A X ∧ Blk X b1 48 (W7 (lo,hi)) ∧ Blk X b2 54 #[.slice A N c]:=fun X hX=>by
  refine ⟨hrw.kept hX.size fun k cs T fr hT hk=>hX.keep k _ ⟨hB0 ▸ Q8 hk,fun e=>?_⟩ hk,hX.keep _ _ ⟨hbb.1,hne.1⟩ hb1,hX.keep _ _ ⟨hbb.2.1,hne.2.1⟩ hb2⟩
  obtain ⟨cs2,fr2,h9⟩:=hbT
  rw [e,h9] at hk
  injection hk with hk
  injection hk with _ h8 _
  rw [← h8] at hT
  rcases hT with h | h <;> exact absurd h (by decide)
 have hrd0 : ∀ i u v,A3 u v → Rd i u → Rd i v:=fun i u v hg=>hRd i u v (KG.ofGrow hg)
 rw [← hB0] at hGW hRd hRx hY hsz ⊢
 have HY:=Lib.hid hY
 have Hst:=Lib.hid hst
 have HK:=Lib.hid hK
 have Hgr:=Lib.hid hgrow
 have Hold:=Lib.hid hold
 have HRd:=Lib.hid hRd
 have Hrd0:=Lib.hid hrd0
 have Hbb:=Lib.hid (And.intro hbb (And.intro hne hbw))
 have HKW:=Lib.hid (And.intro hGW (And.intro h0 (And.intro hsz hwB)))
 have HVb:=Lib.hid hVb
 obtain ⟨va,hva⟩ : ∃ x,x = V lo:=⟨_,rfl⟩
 obtain ⟨vb,hvb⟩ : ∃ x,x = V hi:=⟨_,rfl⟩
 unfold OKT at hlo hhi
 rw [← hva] at hlo
 rw [← hvb] at hhi
 have Hlo:=Lib.hid hlo
 have Hhi:=Lib.hid hhi
 have Hv:=Lib.hid (And.intro hva hvb)
 have Hn:=Lib.hid hn
 clear hY hst hK hgrow hold hRd hrd0 hbb hne hbw hbT hGW h0 hsz hwB hwE hb1 hb2 hrw hVb hva hvb hlo hhi hn hRx hB0 hbl
 simp only [List.append_toArray,List.cons_append,List.nil_append]
 go_enter Tryz.func111,Tryz.ntmps111
 refine A9F fun u hG=>?_
 have hB:=Bx.nil u
 have hF:=Fr.nil w
 refine wp_seq ?_
 obtain ⟨hKW,h0,hsz,hwB⟩:=HKW.out
 obtain ⟨⟨c1,c2,c3⟩,⟨d1,d2,d3⟩,e1,e2⟩:=Hbb.out
 have hKu : KG (K0 B0 bl) wE u:=hKW.trans (KG.ofGrow hG)
 have HR:=Lib.hid (And.intro hKu (And.intro (Hrd0.out 0 _ _ hG h0) (Nat.le_trans hsz hG.size)))
 obtain ⟨hrw,hk1,hk2⟩:=Hold.out u hKu
 have HRW:=Lib.hid hrw
 clear hB hF hG h0 hKW hrw
 have hG:=Hgr.out u hKu
 have hB : Bx u [(b1,48,W7 (lo,hi)),(b2,54,#[.slice A N c])]:=Bx.cons hk1 (Bx.cons hk2 (Bx.nil u))
 have hF : Fr w [b1,b2]:=⟨fun b hb=>by
  simp only [List.mem_cons,List.not_mem_nil,or_false] at hb
  rcases hb with rfl | rfl <;> omega,by
  simp only [List.nodup_cons,List.mem_cons,List.not_mem_nil,or_false,not_or,not_false_eq_true,List.nodup_nil,and_true]
  exact d3⟩
 clear hKu hk1 hk2 c1 c2 c3 d1 d2 d3 e1 e2 hwB hsz
 refine rdC C2 [] [(0,0),(0,1),(0,2),(0,3),(0,5),(0,6),(0,7),(1,4),(1,8),(0,9),(1,10)] hB hG fun K L hN hL=>?_
 repeat first | refine gya ?_ | refine gyr ?_ | refine gna ?_ | refine gyb (by (rintro v ⟨hgu,hB,hG,-⟩ N hN;have r:=hB.r;simp only [BxR] at r;(first | obtain ⟨⟨x1,x2,x3,x4,x5⟩,⟨y1,y2,y3,y4,y5⟩,z1,z2⟩:=Hc.out v (hg0.trans hgu) | skip);go_simp;exact hN)) ?_
 refine gmd (C:=fun v ⟨hgu,hB,hG,_⟩=>Hlo.out _ (HRW.out.grow hgu) (HT.grow hG)) ?_
 refine gmd (C:=fun v ⟨hgu,hB,hG,_⟩=>Hhi.out _ (HRW.out.grow hgu) (HT.grow hG)) ?_
 refine gs ?_
 refine gx Nat (fun b=>.slice (some ⟨b,0,none⟩) 1 1) (fun b W=>Blk W b 152 (pcA lo hi va vb) ∧ B0 ≤ b) (fun b u u' hg h=>⟨h.1.grow hg,h.2⟩) rfl ?_ (fun x18=>?_)
 ·(rintro v ⟨hgu,hB,hG,-⟩ N hN;go_simp;exact hN v.heap.size _ (⟨Blk.new v 152 (pcA lo hi va vb),by have := hgu.size;have := HR.out.2.2;omega⟩) (A3.alloc _ _))
 refine okf (by simp only [Act.put,List.setIfInBounds_toArray,List.set_cons_succ,List.set_cons_zero];exact rfl) ?_
 refine geC hL ?_
 clear hB hG hL L
 rintro u ⟨⟨hgu,hB,hG,-⟩,hx18⟩
 obtain ⟨hKu,hRu,hsu⟩:=HR.out
 have hKu2:=hKu.trans (KG.ofGrow hgu)
 have hRu2:=Hrd0.out 0 _ _ hgu hRu
 have hown : u.ownsRow B0 152 12 (.slice (some ⟨x18,0,none⟩) 1 1) 1 (pcD V (lo,hi)):=by
  have h9:=hx18.1
  rw [Hv.out.1,Hv.out.2,A48] at h9
  exact B1a (xs:=pcD V (lo,hi)) h9 hx18.2
 clear HR hKu hRu hsu hx18 HRW
 clear hgu
 refine gtT ?_
 clear hN K
 refine wp_block ?_
 clear hB hG hF
 go_loopg [4] K (fun k s0 wr=>∃ (i : Nat) (st o : List (Rat × Rat)) (v : Value),i + k = K ∧ F7 V ([(lo,hi)],[]) i = (st,o) ∧ s0 = v ∧ wr.ownsRow B0 152 12 v st.length (st.reverse.flatMap (pcD V)) ∧ KG (K0 B0 bl) wE wr ∧ Rd o.length wr)
 case atStart=>exact ⟨0,[(lo,hi)],[],_,by omega,rfl,rfl,by simpa using hown,hKu2,hRu2⟩
 case round =>
  clear hown hKu2 hRu2
  obtain ⟨i,st,o,v,hik,hrun,rfl,ho,hKu,hRu⟩:=hrel
  obtain ⟨⟨c1,c2,c3⟩,⟨d1,d2,d3⟩,e1,e2⟩:=Hbb.out
  obtain ⟨hrw,-,hk2⟩:=Hold.out wr hKu
  have hGw:=Hgr.out wr hKu
  refine A9F fun u hg0=>?_
  have hG:=hGw.trans hg0
  have hB : Bx u [(b2,54,#[.slice A N c])]:=Bx.cons (hk2.grow hg0) (Bx.nil u)
  have hF : Fr w [b2]:=⟨fun b hb=>by
   simp only [List.mem_cons,List.not_mem_nil,or_false] at hb
   rw [hb];exact e2,by simp⟩
  clear hk2 c1 c2 c3 d1 d2 d3 e1 e2 hGw
  have HRW:=Lib.hid hrw
  have Hrun:=Lib.hid hrun
  have Hik:=Lib.hid hik
  have HU:=Lib.hid (And.intro hKu hRu)
  clear hrw hik hKu hRu
  cases st with
  | nil =>
   obtain ⟨A1,c1,rfl⟩:=A6r ho
   have f21 : decide ((0 : Int) > 0) = false:=rfl
   have hoL : o = L:=B5Y Hrun.out HK.out
   have HoL:=Lib.hid hoL
   clear ho hrun hoL
   simp only [List.length_nil]
   refine wp_seq ?_
   refine r0T ?_
   refine wp_cond_false (rfl) ?_
   refine wp_exit ?_
   refine D7 ?_
   refine D7 ?_
   refine G8 ?_
   go_end0
   exact ⟨⟨_,rfl⟩,.inl ⟨HU.out.1.trans (KG.ofGrow hg0),by rw [Hn.out,← HoL.out];exact Hrd0.out _ _ _ hg0 HU.out.2⟩⟩
  | cons s rr =>
   obtain ⟨a,b⟩:=s
   obtain ⟨g,cap,rfl,hgB,hcap⟩:=A3E ho (by simp)
   obtain ⟨hlen,hmid⟩:=Hst.out i (a,b) rr o Hrun.out
   have hiK:=A60 Hrun.out HK.out
   obtain ⟨m,hm⟩ : ∃ m,m = rr.length:=⟨_,rfl⟩
   obtain ⟨M,hM⟩ : ∃ M,M = ((a,b) :: rr).length:=⟨_,rfl⟩
   have hMm : M = m + 1:=by rw [hM,hm];rfl
   obtain ⟨XS,hXe⟩ : ∃ x,x = rr.reverse.flatMap (pcD V):=⟨_,rfl⟩
   have hXS : XS.length = m * 12:=by
    have h9:=ho.1
    rw [List.reverse_cons,List.flatMap_append,List.length_append,← hXe,← hM,hMm] at h9
    have h8 : ([(a,b)].flatMap (pcD V)).length = 12:=rfl
    omega
   have ho2 : wr.ownsRow B0 152 12 (.slice (some ⟨g,0,none⟩) (m + 1) cap) (m + 1) (XS ++ pcD V (a,b)):=by
    have h9:=ho
    rw [List.reverse_cons,List.flatMap_append,← hXe,← hM,hMm] at h9
    simpa using h9
   have hgw : g < wr.heap.size:=(ho2.lt g rfl).2
   obtain ⟨va,hva⟩ : ∃ x,x = V a:=⟨_,rfl⟩
   obtain ⟨vb,hvb⟩ : ∃ x,x = V b:=⟨_,rfl⟩
   have hc : ∀ v,A3 wr v → C12 v g (m * 12) (a,b) va vb:=fun v hg=>by
    rw [hva,hvb];exact B4N (F3 ho2 hg) hXS
   have Hc:=Lib.hid hc
   have HoP:=Lib.hid (B1j ho2 hXS)
   have Hm:=Lib.hid (And.intro hm (And.intro hXe (And.intro hgw hgB)))
   have hva1 : va ≤ 1000:=hva ▸ HVb.out a
   have hvb1 : vb ≤ 1000:=hvb ▸ HVb.out b
   rw [← hM]
   have hlen : m + 2 ≤ LM:=by rw [hm];exact hlen
   have hMi : (M : Int) = (m : Int) + 1:=by omega
   have f21 : decide (0 < M) = true:=decide_eq_true (by omega)
   have f25 : IntKind.i64.wrap ((M : Int) - 1) = (m : Int):=by rw [IntWalk.i64_in _ (by omega)];omega
   have hmM : (m : Int) < (M : Int):=by omega
   have hmN : m < M:=by omega
   have hmC : m ≤ cap:=by omega
   obtain ⟨D,hD⟩ : ∃ D : Int,D = (va : Int) - (vb : Int):=⟨_,rfl⟩
   have f37 : IntKind.i64.wrap ((va : Int) - (vb : Int)) = D:=by rw [IntWalk.i64_in _ (by omega),hD]
   have Hvv:=Lib.hid (And.intro hva hvb)
   have HM:=Lib.hid hMm
   have HiK:=Lib.hid hiK
   clear hm hXe hXS ho ho2 hc hgw hgB hM hMm hMi hiK hrun
   by_cases hz : V a = V b
   ·have f66 : (D == 0) = true:=by rw [beq_iff_eq];omega
    have Hz:=Lib.hid hz
    clear hz hD hmid hva hvb
    refine wp_seq ?_
    refine r0T ?_
    refine wp_cond_true (rfl) ?_
    refine wp_skip ?_
    refine A4 ?_
    refine wp_block ?_
    refine wp_seq (rsC C2 [0,0,0,0,0,0,2] hB hG fun K L hN hL=>?_)
    repeat first | refine gya ?_ | refine gyr ?_ | refine gna ?_ | refine gyb (by (rintro v ⟨hgu,hB,hG,-⟩ N hN;have r:=hB.r;simp only [BxR] at r;(first | obtain ⟨⟨x1,x2,x3,x4,x5⟩,⟨y1,y2,y3,y4,y5⟩,z1,z2⟩:=Hc.out v (hg0.trans hgu) | skip);go_simp;exact hN)) ?_
    refine gaa (A3a _ _ _ _ _) fun b5 hb5 hn5=>?_
    replace hF:=hF.n1 [] hB hG hb5 hn5
    refine geC hL ?_
    clear hB hG hL L
    rintro u ⟨⟨hgu,hB,hG,-⟩,h5⟩
    replace hB:=hB.cons' h5
    clear h5
    have hb5w : wr.heap.size ≤ b5:=Nat.le_trans hg0.size hb5
    replace hg0:=hg0.trans hgu
    clear hb5 hn5
    clear hgu
    refine gtT ?_
    clear hN K
    refine sv hB hF hG 0 0 [_,_,_,_,_,_,_,_,_,_,_,_] ?_
    intro u hu hBG
    replace hg0:=A4Q hg0 hb5w hu
    clear hB hG hu
    obtain ⟨hB,hG⟩:=hBG
    refine r0T ?_
    refine r0T ?_
    refine wp_block ?_
    refine r0T ?_
    refine wp_cond_true (rfl) ?_
    refine wp_skip ?_
    refine F0 ?_
    refine F0 ?_
    refine A4 ?_
    go_step
    go_roundg (gk - 1)
    case rel=>exact ⟨i + 1,rr,o,.slice (some ⟨g,0,none⟩) m cap,by have := Hik.out;have := HiK.out;omega,by rw [F7,Hrun.out,X6,if_pos Hz.out],rfl,by rw [← Hm.out.2.1,← Hm.out.1];exact F3 HoP.out hg0,HU.out.1.trans (KG.ofGrow hg0),Hrd0.out _ _ _ hg0 HU.out.2⟩
    case measure=>have := Hik.out;have := HiK.out;omega
   ·have f66 : (D == 0) = false:=by rw [beq_eq_false_iff_ne];omega
    by_cases ho1 : V a = V b + 1
    ·have f68 : (D == 1) = true:=by rw [beq_iff_eq];omega
     have Hso:=Lib.hid (B0V Hrun.out HK.out ho1)
     have Hz:=Lib.hid (And.intro hz ho1)
     clear hz ho1 hD hmid hva hvb
     refine wp_seq ?_
     refine r0T ?_
     refine wp_cond_true (rfl) ?_
     refine wp_skip ?_
     refine A4 ?_
     refine wp_block ?_
     refine wp_seq (rsC C2 [0,0,0,0,0,0,2] hB hG fun K L hN hL=>?_)
     repeat first | refine gya ?_ | refine gyr ?_ | refine gna ?_ | refine gyb (by (rintro v ⟨hgu,hB,hG,-⟩ N hN;have r:=hB.r;simp only [BxR] at r;(first | obtain ⟨⟨x1,x2,x3,x4,x5⟩,⟨y1,y2,y3,y4,y5⟩,z1,z2⟩:=Hc.out v (hg0.trans hgu) | skip);go_simp;exact hN)) ?_
     refine gaa (A3a _ _ _ _ _) fun b5 hb5 hn5=>?_
     replace hF:=hF.n1 [] hB hG hb5 hn5
     refine geC hL ?_
     clear hB hG hL L
     rintro u ⟨⟨hgu,hB,hG,-⟩,h5⟩
     replace hB:=hB.cons' h5
     clear h5
     have hb5w : wr.heap.size ≤ b5:=Nat.le_trans hg0.size hb5
     replace hg0:=hg0.trans hgu
     clear hb5 hn5
     clear hgu
     refine gtT ?_
     clear hN K
     refine sv hB hF hG 0 0 [_,_,_,_,_,_,_,_,_,_,_,_] ?_
     intro u hu hBG
     replace hg0:=A4Q hg0 hb5w hu
     clear hB hG hu
     obtain ⟨hB,hG⟩:=hBG
     refine r0T ?_
     refine r0T ?_
     refine wp_block ?_
     refine r0T ?_
     refine wp_cond_false (rfl) ?_
     refine r0T ?_
     refine wp_cond_true (rfl) ?_
     refine wp_seq ?_
     obtain ⟨fn,tmps,assign,body,hy,hRd3⟩:=HY.out o.length _ u (by rw [Hn.out];exact Hso.out.1) (HU.out.1.trans (KG.ofGrow hg0)) (Hrd0.out _ _ _ hg0 HU.out.2) ⟨(a,b),Hso.out.2,rfl⟩
     have r9:=hB.r
     simp only [BxR] at r9
     refine (wpIn_wide (n:=1)).1 ?_
     gi_wp2
     refine hRd3.mono ?_
     rintro e W3 (⟨rfl,hg4,hrd⟩ | ⟨rfl,hx⟩)
     ·gi_wp2
      go_wp2
      go_roundg (gk - 1)
      case rel =>
       have hKG : KG (K0 B0 bl) wE W3:=(HU.out.1.trans (KG.ofGrow hg0)).trans (hg4.weak fun k o hk _=>⟨hk.2,.inl hk.1⟩)
       refine ⟨i + 1,rr,o ++ [(a,b)],.slice (some ⟨g,0,none⟩) m cap,by have := Hik.out;have := HiK.out;omega,by rw [F7,Hrun.out,X6,if_neg Hz.out.1,if_pos Hz.out.2],rfl,?_,hKG,by simpa using hrd⟩
       rw [← Hm.out.2.1,← Hm.out.1]
       exact A6y (F3 HoP.out hg0) hg4 fun g1 cur h1 h2=>⟨by have := Hbb.out.1.2.2;omega,.inr rfl⟩
      case measure=>have := Hik.out;have := HiK.out;omega
     ·gi_wp2
      go_wp2
      refine bodyPost_ret (results_none rfl _ _ _) rfl ?_
      exact ⟨⟨_,rfl⟩,.inr hx⟩
    ·have f68 : (D == 1) = false:=by rw [beq_eq_false_iff_ne];omega
     obtain ⟨hmi,htn⟩:=hmid hz ho1
     simp only at hmi htn
     obtain ⟨Q,hQ⟩ : ∃ x,x = D6 a b:=⟨_,rfl⟩
     rw [← hQ] at hmi htn
     obtain ⟨vm,hvm⟩ : ∃ x,x = V Q:=⟨_,rfl⟩
     unfold OKT at htn
     rw [← hvm] at htn
     have Hmi:=Lib.hid hmi
     have Htn:=Lib.hid htn
     have Hz:=Lib.hid (And.intro hz ho1)
     have HQ:=Lib.hid (And.intro hQ hvm)
     clear hz ho1 hD hmid hmi htn hQ hvm hva hvb
     refine wp_seq ?_
     refine r0T ?_
     refine wp_cond_true (rfl) ?_
     refine wp_skip ?_
     refine A4 ?_
     refine wp_block ?_
     refine wp_seq (rsC C2 [0,0,0,0,0,0,2] hB hG fun K L hN hL=>?_)
     repeat first | refine gya ?_ | refine gyr ?_ | refine gna ?_ | refine gyb (by (rintro v ⟨hgu,hB,hG,-⟩ N hN;have r:=hB.r;simp only [BxR] at r;(first | obtain ⟨⟨x1,x2,x3,x4,x5⟩,⟨y1,y2,y3,y4,y5⟩,z1,z2⟩:=Hc.out v (hg0.trans hgu) | skip);go_simp;exact hN)) ?_
     refine gaa (A3a _ _ _ _ _) fun b5 hb5 hn5=>?_
     replace hF:=hF.n1 [] hB hG hb5 hn5
     refine geC hL ?_
     clear hB hG hL L
     rintro u ⟨⟨hgu,hB,hG,-⟩,h5⟩
     replace hB:=hB.cons' h5
     clear h5
     have hb5w : wr.heap.size ≤ b5:=Nat.le_trans hg0.size hb5
     replace hg0:=hg0.trans hgu
     clear hb5 hn5
     clear hgu
     refine gtT ?_
     clear hN K
     refine sv hB hF hG 0 0 [_,_,_,_,_,_,_,_,_,_,_,_] ?_
     intro u hu hBG
     replace hg0:=A4Q hg0 hb5w hu
     clear hB hG hu
     obtain ⟨hB,hG⟩:=hBG
     refine r0T ?_
     refine r0T ?_
     refine wp_block ?_
     refine r0T ?_
     refine wp_cond_false (rfl) ?_
     refine r0T ?_
     refine wp_cond_false (rfl) ?_
     refine wp_seq (rsC C2 [0,0,1,2] hB hG fun K L hN hL=>?_)
     repeat first | refine gya ?_ | refine gyr ?_ | refine gna ?_ | refine gyb (by (rintro v ⟨hgu,hB,hG,-⟩ N hN;have r:=hB.r;simp only [BxR] at r;(first | obtain ⟨⟨x1,x2,x3,x4,x5⟩,⟨y1,y2,y3,y4,y5⟩,z1,z2⟩:=Hc.out v (hg0.trans hgu) | skip);go_simp;exact hN)) ?_
     refine gmd (C:=fun v ⟨hgu,hB,hG,_⟩=>Hmi.out _ (HT.grow hG)) ?_
     refine gaa (N0 _ _ _ _ _) fun b6 hb6 hn6=>?_
     replace hF:=hF.n1 [] hB hG hb6 hn6
     refine geC hL ?_
     clear hB hG hL L
     rintro u ⟨⟨hgu,hB,hG,-⟩,h6⟩
     replace hB:=hB.cons' h6
     clear h6
     have hb6w : wr.heap.size ≤ b6:=Nat.le_trans hg0.size hb6
     replace hg0:=hg0.trans hgu
     clear hb6 hn6
     clear hgu
     refine gtT ?_
     clear hN K
     refine sv hB hF hG 0 0 [_,_,_,_,_] ?_
     intro u hu hBG
     replace hg0:=A4Q hg0 hb6w hu
     clear hB hG hu
     obtain ⟨hB,hG⟩:=hBG
     refine wp_seq (rsE C2 [0,0,1,0] hB hG fun L hL=>?_)
     repeat first | refine gya ?_ | refine gyr ?_ | refine gna ?_ | refine gyb (by (rintro v ⟨hgu,hB,hG,-⟩ N hN;have r:=hB.r;simp only [BxR] at r;(first | obtain ⟨⟨x1,x2,x3,x4,x5⟩,⟨y1,y2,y3,y4,y5⟩,z1,z2⟩:=Hc.out v (hg0.trans hgu) | skip);go_simp;exact hN)) ?_
     refine gmd (C:=fun v ⟨hgu,hB,hG,_⟩=>Htn.out _ (HRW.out.grow (hg0.trans hgu)) (HT.grow hG)) ?_
     refine gs ?_
     refine geT hL ?_
     clear hB hG hL L
     rintro u ⟨hgu,hB,hG,-⟩
     replace hg0:=hg0.trans hgu
     clear hgu
     refine A03 (w:=w) C2 20 [0,0,0,0,0,0,0,0,0,0,0,0,0,0,0,0,0,0,0,1] (by kernel_rfl) (by simp only [List.drop_succ_cons,List.drop_zero];exact rfl) (fun _=>True) noG hB hG trivial ?_
     intro K L hN hL
     simp only [List.zip_cons_cons,List.zip_nil_left]
     repeat first | refine gya ?_ | refine gyr ?_ | refine gna ?_ | refine gyb (by (rintro v ⟨hgu,hB,hG,-⟩ N hN;have r:=hB.r;simp only [BxR] at r;(first | obtain ⟨⟨x1,x2,x3,x4,x5⟩,⟨y1,y2,y3,y4,y5⟩,z1,z2⟩:=Hc.out v (hg0.trans hgu) | skip);go_simp;exact hN)) ?_
     refine gx Nat (fun b=>.slice (some ⟨b,0,none⟩) 2 2) (fun b' W=>Blk W b' 152 (pcA Q b vm vb ++ pcA a Q va vm)) (fun b u u' hg h=>h.grow hg) rfl ?_ (fun x63=>?_)
     ·(rintro v ⟨hgu,hB,hG,-⟩ N hN;go_simp;exact hN v.heap.size _ (Blk.new v 152 (pcA Q b vm vb ++ pcA a Q va vm)) (A3.alloc _ _))
     refine okf (by simp only [Act.put,List.setIfInBounds_toArray,List.set_cons_succ,List.set_cons_zero];exact rfl) ?_
     refine K8 ?_
     rintro v ⟨⟨hgu,hB1,hG1,-⟩,hx63⟩
     replace hg0:=hg0.trans hgu
     clear hB hG
     have hB:=hB1
     have hG:=hG1
     clear hB1 hG1
     refine hL _ _ ?_
     clear hL L hgu
     obtain ⟨u,rfl⟩ : ∃ x,x = v:=⟨_,rfl⟩
     have r:=hB.r
     simp only [BxR] at r
     refine B3B B0Y B0 (.slice (some ⟨g,0,none⟩) m cap) m XS x63 2 ((pcA Q b vm vb).toList ++ (pcA a Q va vm).toList) rfl rfl hx63 rfl rfl (F3 HoP.out hg0) (by omega) (by omega) (by have := Hm.out.2.2;have := hg0.size;omega) fun v' w' g1 g2 g3=>?_
     have hKw : KG (K0 B0 bl) wE w':=(HU.out.1.trans (KG.ofGrow hg0)).trans (KG.by g2 fun k o _ hp e=>by
      have e:=Option.some.inj e
      have h1 : k < B0:=hp.1
      have := Hm.out.2.2.2
      simp only at e
      omega)
     have hRw : Rd o.length w':=HRd.out _ _ _ (KG.by g2 fun k o hk hp e=>by
      obtain ⟨cs,fr,h9⟩:=A2d (F3 HoP.out hg0) e
      rw [h9] at hk
      injection hk with hk
      rcases hp with hp | hp
      ·have e:=Option.some.inj e
       have := Hm.out.2.2.2
       simp only at e
       omega
      ·rw [← hk] at hp;cases hp) (Hrd0.out _ _ _ hg0 HU.out.2)
     have hoS : w'.ownsRow B0 152 12 v' ((a,Q) :: (Q,b) :: rr).length (((a,Q) :: (Q,b) :: rr).reverse.flatMap (pcD V)):=by
      have e : ((a,Q) :: (Q,b) :: rr).reverse.flatMap (pcD V) = XS ++ ((pcA Q b vm vb).toList ++ (pcA a Q va vm).toList):=by
       rw [List.reverse_cons,List.reverse_cons,List.flatMap_append,List.flatMap_append,← Hm.out.2.1,Hvv.out.1,Hvv.out.2,HQ.out.2,A48,A48]
       simp
      rw [e]
      have e2 : ((a,Q) :: (Q,b) :: rr).length = m + 2:=by rw [Hm.out.1];rfl
      rw [e2]
      exact g1
     clear g1 g2 g3 hx63 hB hG hF hg0
     go_wp2_with fail
     clear r
     refine NoK.norm (hN _ _ ?_)
     clear hN K
     refine F0 ?_
     refine F0 ?_
     refine A4 ?_
     go_step
     go_roundg (gk - 1)
     case rel=>exact ⟨i + 1,(a,Q) :: (Q,b) :: rr,o,v',by have := Hik.out;have := HiK.out;omega,by rw [F7,Hrun.out,X6,if_neg Hz.out.1,if_neg Hz.out.2,← HQ.out.1],rfl,hoS,hKw,hRw⟩
     case measure=>have := Hik.out;have := HiK.out;omega
end Go.Proofs.YtlkniebmjdoopaaGreatDoor
