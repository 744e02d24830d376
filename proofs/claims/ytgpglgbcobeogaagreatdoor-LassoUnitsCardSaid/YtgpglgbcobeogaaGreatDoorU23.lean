/- Contracts and laws. -/
import Derived.Test.YtgpglgbcobeogaaGreatDoorU22
set_option linter.unusedSimpArgs false
set_option linter.unusedVariables false
set_option maxHeartbeats 1000000
set_option maxRecDepth 100000
namespace Go.Proofs.YtgpglgbcobeogaaGreatDoor
open Go.RowKit
def D7 (l : List Nat) : Array Value:=(l.map fun x=>Value.int .u32 (x : Nat)).toArray
theorem A2E (l : List Nat) (i : Nat) : (D7 l)[i]? = (l[i]?).map fun x=>Value.int .u32 (x : Nat):=by
 unfold D7;simp
theorem A2X (l : List Nat) (i y : Nat) : (D7 l).setIfInBounds i (.int .u32 (y : Nat)) = D7 (l.set i y):=by
 unfold D7
 rw [List.setIfInBounds_toArray,List.map_set]
def Q3 (u : World) (b : Nat) (l : List Nat) : Prop:=Blk u b 193 (D7 l)
theorem Q3.grow {u u' : World} {b : Nat} {l : List Nat} (hg : A4 u u') (h : Q3 u b l) : Q3 u' b l:=Blk.grow hg h
theorem Q3.cell {u : World} {b : Nat} {l : List Nat} (h : Q3 u b l) {i : Nat} (hi : i < l.length) : u.cell? ⟨b,i,none⟩ = some (.int .u32 (dg l i : Nat)):=by
 rw [Blk.cell h,A2E,List.getElem?_eq_getElem hi,D5 hi]
 rfl
theorem Q3.frozen {u : World} {b : Nat} {l : List Nat} (h : Q3 u b l) (i : Nat) : u.frozen? ⟨b,i,none⟩ = false:=Blk.frozen h i
theorem Q3.set {u : World} {b : Nat} {l : List Nat} (h : Q3 u b l) (i y : Nat) : Q3 (u.setCell ⟨b,i,none⟩ (.int .u32 (y : Nat))) b (l.set i y):=by
 have := Blk.set_ h i (.int .u32 (y : Nat))
 rw [A2X] at this
 exact this
theorem Q3.lim {u : World} {b : Nat} {l : List Nat} (h : Q3 u b l) : Lim u (some ⟨b,0,none⟩) l:=fun _ =>
 ⟨b,0,D7 l,(0,0),rfl,h,fun i x hi=>by rw [Nat.zero_add,A2E,hi];rfl⟩
theorem B4t : (Tryz.prog.info? 193).map (fun i=>(i.zero,i.size,i.bytes)) = some (some (.int .u32 0),1,4):=by kernel_rfl
theorem B3n (n : Nat) : madeCells (Value.int .u32 0).cells (n * 1) = D7 (List.replicate n 0):=by
 unfold D7 madeCells
 refine Array.ext (by simp) fun i h1 h2=>?_
 simp [Value.cells,Nat.mod_one]
theorem A2S (n : Nat) (hn : n ≤ 1099511627776) (x : Int) (hx : x = n) (W : World) : (Instr.makeSlice 29 (.int .i64 x) (.int .i64 x)).run Tryz.prog W =
  .ok (.slice (some ⟨W.heap.size,0,none⟩) n n) (W.alloc (.cells (D7 (List.replicate n 0)) 193)):=by
 obtain ⟨i0,hi0,hz0,hz1,hz2⟩:=info_parts B4t
 have hr:=run_make (P:=Tryz.prog) W 29 193 i0 (.int .u32 0) Tryz.underlying29 hi0 hz0 .i64 .i64 n n (by omega) (by omega) (by rw [hz2];omega) (by omega)
 rw [hx]
 rw [hr,hz1]
 simp only [Int.toNat_natCast]
 rw [B3n]
def A4C (W d : Nat) (l : List Nat) (k r : Nat) (zs : List Nat) : Prop :=
 zs.length = l.length ∧ Dig W zs ∧ r < d ∧ val W (zs.drop k) * d + r = val W (l.drop k)
theorem A4C.next {W d : Nat} {l : List Nat} {k r : Nat} {zs : List Nat} (h : A4C W d l (k + 1) r zs) (hk : k < l.length) (hd : Dig W l) (hW : 0 < W) :
  A4C W d l k ((r * W + dg l k) % d) (zs.set k ((r * W + dg l k) / d)):=by
 obtain ⟨h1,h2,h4,h5⟩:=h
 have hk' : k < zs.length:=by rw [h1];exact hk
 have hx:=C3 hW hd k
 refine ⟨by rw [List.length_set,h1],N9 h2 _ (A23 h4 hx),Nat.mod_lt _ (by omega),?_⟩
 rw [A1E (l:=zs.set k _) (by rw [List.length_set];exact hk'),A8o hk',A1E hk,K9,K9,List.drop_set_of_lt (by omega),← h5]
 have e:=Nat.div_add_mod (r * W + dg l k) d
 generalize (r * W + dg l k) / d = q at *
 generalize (r * W + dg l k) % d = m at *
 generalize val W (zs.drop (k + 1)) = V at *
 grind
theorem B1y (x : Ax) (a d : Nat) (w : World) (hx : Rn w x a) (hd0 : 0 < d) (hdW : d < W32) :
  Calls Tryz.prog 167 #[nvV x a,.int .u32 d] w fun e w'=>∃ y : Ax,e = .returned (.tuple #[nvV y (a / d),.int .u32 (a % d : Nat)]) ∧ Rn w' y (a / d) ∧ A4 w w':=by
 obtain ⟨A,c⟩:=x
 obtain ⟨n,hn⟩ : ∃ n,n = ln a:=⟨_,rfl⟩
 have hm : n ≤ 1099511627776:=by rw [hn];exact hx.2.2.2
 show Calls Tryz.prog 167 #[.slice A (ln a) c,.int .u32 d] w _
 rw [← hn]
 have Hx:=Lib.hid hx.1
 have Hn:=Lib.hid hn
 have hmk:=A2S n hm (n : Int) rfl
 clear hx hn
 unfold W32 at hdW
 go_enter Tryz.func167,Tryz.ntmps167
 go_wp2_with fail
 clear hmk
 go_loopw [7,8] (fun r i wr=>∃ (k r' : Nat) (zs : List Nat),k ≤ n ∧ i = .int .i64 ((k : Int) - 1) ∧ r = .int .u64 r' ∧ A4C W32 d (B5 W32 a) k r' zs ∧ Q3 wr w.heap.size zs ∧ A4 w wr) (fun _ i _=>(intOf i + 1).toNat)
 case atStart=>exact ⟨n,0,List.replicate n 0,Nat.le_refl _,rfl,rfl,⟨by rw [List.length_replicate];exact Hn.out,fun z hz=>(by rw [(List.mem_replicate.1 hz).2];exact E0),hd0,by rw [List.drop_of_length_le (by simp),List.drop_of_length_le (Nat.le_of_eq Hn.out.symm)];simp [val]⟩,Blk.new w 193 _,A4.alloc _ _⟩
 case round =>
  obtain ⟨k,r',zs,hk,rfl,rfl,hI,hR,hG⟩:=hrel
  have HI:=Lib.hid hI
  have HG:=Lib.hid hG
  have HR:=Lib.hid hR
  clear hI hG hR
  rcases Nat.eq_zero_or_pos k with rfl | hpos
  ·have hval : val W32 zs * d + r' = a:=by have := HI.out.2.2.2;rw [List.drop_zero,List.drop_zero,D6 D9] at this;exact this
   have hr:=HI.out.2.2.1
   have hres : a % d = r' ∧ a / d = val W32 zs:=by
    rw [← hval,Nat.mul_comm,Nat.mul_add_mod,Nat.mod_eq_of_lt hr,Nat.mul_add_div hd0,Nat.div_eq_of_lt hr]
    simp
   have hzl : zs.length = n:=by rw [HI.out.1];exact Hn.out.symm
   have htr : Calls Tryz.prog 139 #[.slice (some ⟨w.heap.size,0,none⟩) n n] wr fun e w'=>e = .returned (.slice (some ⟨w.heap.size,0,none⟩) (ln (a / d)) n) ∧ Rn w' (some ⟨w.heap.size,0,none⟩,n) (a / d) ∧ A4 w w':=by
    have h1:=A1K (some ⟨w.heap.size,0,none⟩) zs n wr HR.out.lim (Nat.le_of_eq hzl) (by omega)
    rw [hzl] at h1
    refine h1.mono fun e w' ⟨he,hg⟩=>?_
    obtain ⟨hr1,hlen⟩:=A2u (a:=a / d) (c:=n) (HR.out.lim.grow hg) HI.out.2.1 hres.2.symm (Nat.le_of_eq hzl) hm
    rw [hlen] at he
    exact ⟨he,hr1,HG.out.trans hg⟩
   have Htr:=Lib.hid htr
   have Hres:=Lib.hid hres
   clear hval hres hzl htr
   have hc : decide ((0 : Int) ≤ ((0 : Nat) : Int) - 1) = false:=by decide
   have hwr : ((r' : Int)) % 4294967296 = (r' : Int):=by omega
   go_wp2_with (go_at_call 139;((with_reducible refine (Htr.out).mono ?_);rintro e w1 ⟨rfl,hr1,hg⟩))
   go_ret2
   exact ⟨(some ⟨w.heap.size,0,none⟩,n),congrArg (fun z : Nat=>Ending.returned (.tuple #[.slice (some ⟨w.heap.size,0,none⟩) (ln (a / d)) n,.int .u32 (z : Nat)])) Hres.out.1.symm,hr1,hg⟩
  ·obtain ⟨j,rfl⟩ : ∃ j,k = j + 1:=⟨k - 1,by omega⟩
   have e1 : ((j + 1 : Nat) : Int) - 1 = (j : Nat):=by omega
   rw [e1]
   have hjl : j < (B5 W32 a).length:=by have := Hn.out;unfold ln at this;omega
   have hnx:=HI.out.next hjl (G1 D9 a) E0
   obtain ⟨b1,o1,rfl,hc1⟩:=(Hx.out.grow HG.out).cell hjl
   have hjz : j < zs.length:=by rw [HI.out.1];exact hjl
   have hc2:=HR.out.cell hjz
   have hf2:=HR.out.frozen j
   have hxl:=C3 E0 (G1 D9 a) j
   obtain ⟨p,hp⟩ : ∃ p,p = dg (B5 W32 a) j:=⟨_,rfl⟩
   rw [← hp] at hc1 hnx hxl
   have hr:=HI.out.2.2.1
   have Hp:=Lib.hid hp
   have Hnx:=Lib.hid hnx
   clear hp hnx e1
   have hc0 : decide ((0 : Int) ≤ (j : Int)) = true:=by simp
   unfold W32 at hxl
   obtain ⟨X,hX⟩ : ∃ X,X = r' * W32 + p:=⟨_,rfl⟩
   have hXl : X < 18446744073709551616:=by rw [hX];unfold W32;omega
   have hqW : X / d < 4294967296:=by rw [hX];exact A23 hr (by unfold W32;exact hxl)
   have hmW : X % d < d:=Nat.mod_lt _ hd0
   have hor : bits BinOp.or IntKind.u64 ((r' : Int) * 4294967296) (p : Int) = (X : Nat):=by
    have e2 : ((r' : Int) * 4294967296) = ((r' * 4294967296 : Nat) : Int):=by omega
    rw [e2,bits_or_u64_nat _ _ (by omega) (by omega),hX]
    unfold W32
    rw [A1r (s:=32) (by omega) (by omega)]
   have htm : ((X : Nat) : Int).tmod (d : Int) = ((X % d : Nat) : Int):=rfl
   have htd : ((X : Nat) : Int).tdiv (d : Int) = ((X / d : Nat) : Int):=rfl
   rw [← hX] at Hnx
   have HX:=Lib.hid hX
   obtain ⟨q,hq⟩ : ∃ q,q = X / d:=⟨_,rfl⟩
   obtain ⟨m,hm'⟩ : ∃ q,q = X % d:=⟨_,rfl⟩
   rw [← hq] at Hnx htd hqW
   rw [← hm'] at Hnx htm hmW
   clear hX hq hm'
   have hwq : ((q : Int)) % 4294967296 = (q : Int):=by omega
   go_wp2_with fail
   exact ⟨⟨j,m,zs.set j q,by omega,rfl,rfl,Hnx.out,HR.out.set j q,HG.out.setCell (p:=⟨w.heap.size,j,none⟩) (Nat.le_refl _) _⟩,by simp [intOf]⟩
theorem B35 {b : Nat} (h0 : b ≠ 0) (h : b < W32) : ln b = 1 ∧ B5 W32 b = [b]:=by
 have e : B5 W32 b = [b]:=by
  rw [A0o D9 h0,Nat.mod_eq_of_lt h,Nat.div_eq_of_lt h];rfl
 exact ⟨by unfold ln;rw [e];rfl,e⟩
theorem Rn.nil (u : World) : Rn u (none,0) 0:=⟨Lim.nil _ _,Nat.le_refl _,by omega,by decide⟩
theorem Ret.nn {a b : Nat} {w : World} {P : Program} {f : FuncId} {args : Array Value} {W : World} (h : Calls P f args W (Ret (nnR a b) w)) : Calls P f args W fun e w'=>∃ x y : Ax,e = .returned (.tuple #[.slice x.1 (ln a) x.2,.slice y.1 (ln b) y.2]) ∧ Rn w' x a ∧ Rn w' y b ∧ A4 w w' :=
 h.mono fun _ _ ⟨x,he,ht,hg⟩=>⟨x.1,x.2,he,ht.1,ht.2,hg⟩
theorem A82 (x y : Ax) (a b : Nat) (w : World) (hx : Rn w x a) (hy : Rn w y b) (hlt : a < b) : Calls Tryz.prog 138 #[nvV x a,nvV y b] w (Ret (nnR (a / b) (a % b)) w):=by
 have hcmp:=A3Z x y a b w hx hy
 rw [P8 hlt] at hcmp
 have Hcmp:=Lib.hid hcmp
 have Hx:=Lib.hid hx
 clear hcmp hx hy
 rw [Nat.div_eq_of_lt hlt,Nat.mod_eq_of_lt hlt]
 go_enter Tryz.func138,Tryz.ntmps138
 go_wp2_with (go_at_call 101;((with_reducible refine (Hcmp.out).mono ?_);rintro e w1 ⟨rfl,hg⟩))
 go_ret2
 exact ⟨((none,0),x),rfl,⟨Rn.nil _,Hx.out.grow hg⟩,hg⟩
theorem B0e (x y : Ax) (a b : Nat) (w : World) (hx : Rn w x a) (hy : Rn w y b) (h0 : b ≠ 0) (hs : b < W32) : Calls Tryz.prog 138 #[nvV x a,nvV y b] w (Ret (nnR (a / b) (a % b)) w):=by
 by_cases hlt : a < b
 ·exact A82 x y a b w hx hy hlt
 ·have hcmp:=A3Z x y a b w hx hy
  have hcz : decide (F7 a b < 0) = false:=by unfold F7;rw [if_neg hlt];split <;> rfl
  obtain ⟨hl1,hdg⟩:=B35 h0 hs
  obtain ⟨A2,c2⟩:=y
  have hcell:=hy.1.cell (i:=0) (by rw [hdg];simp)
  rw [hdg] at hcell
  obtain ⟨b2,o2,rfl,hc2⟩:=hcell
  have hc2' : ∀ W,A4 w W → W.cell? ⟨b2,o2,none⟩ = some (.int .u32 (b : Nat)):=fun W hg=>by
   have h1:=(hy.1.grow hg).cell (i:=0) (by rw [hdg];simp)
   rw [hdg] at h1
   obtain ⟨b3,o3,e3,h3⟩:=h1
   injection e3 with e3
   injection e3 with e4 e5
   subst e4;subst e5
   exact h3
  have hone : ∀ W,A4 w W → Calls Tryz.prog 167 #[nvV x a,.int .u32 b] W fun e w'=>∃ y : Ax,e = .returned (.tuple #[nvV y (a / b),.int .u32 (a % b : Nat)]) ∧ Rn w' y (a / b) ∧ A4 W w':=fun W hg=>B1y x a b W (hx.grow hg) (Nat.pos_of_ne_zero h0) hs
  have hmod : a % b < W64:=Nat.lt_of_lt_of_le (Nat.mod_lt _ (Nat.pos_of_ne_zero h0)) (Nat.le_of_lt (Nat.lt_of_lt_of_le hs (by unfold W32 W64;omega)))
  have hof:=A28 (a % b) hmod
  obtain ⟨m,hme⟩ : ∃ m,m = a % b:=⟨_,rfl⟩
  rw [← hme] at hone hof hmod ⊢
  unfold W64 at hmod
  show Calls Tryz.prog 138 #[nvV x a,.slice (some ⟨b2,o2,none⟩) (ln b) c2] w _
  rw [hl1]
  have hcmp' : Calls Tryz.prog 101 #[nvV x a,.slice (some ⟨b2,o2,none⟩) 1 c2] w fun e w'=>e = .returned (.int .i64 (F7 a b)) ∧ A4 w w':=by
   rw [← hl1];exact hcmp
  have Hcmp:=Lib.hid hcmp'
  have Hone:=Lib.hid hone
  have Hof:=Lib.hid hof
  have Hc2:=Lib.hid hc2'
  clear hcmp hcmp' hone hof hc2' hc2 hy hx hdg hl1 hs hme
  go_enter Tryz.func138,Tryz.ntmps138
  go_wp2_with (first
   | (go_at_call 101;((with_reducible refine (Hcmp.out).mono ?_);rintro e w1 ⟨rfl,hg1⟩;have hcc:=Hc2.out w1 hg1))
   | (go_at_call 167;((with_reducible refine (Hone.out w1 hg1).mono ?_);rintro e w2 ⟨y2,rfl,hy2,hg2⟩))
   | (go_at_call 109;((with_reducible refine (Hof.out _).mono ?_);rintro e w3 ⟨y3,rfl,hy3,hg3⟩)))
  go_ret2
  exact ⟨(y2,y3),rfl,⟨hy2.grow hg3,hy3⟩,hg1.trans (hg2.trans hg3)⟩
theorem A1W (a : Nat) : ln a ≤ bl a / 32 + 1:=by
 refine A2W D9 (Nat.lt_of_lt_of_le (A0M a) ?_)
 rw [show W32 = 2 ^ 32 from rfl,← Nat.pow_mul]
 exact Nat.pow_le_pow_right (by omega) (by omega)
theorem dgl (a k : Nat) : dg (B5 W32 a) k < 4294967296:=C3 E0 (G1 D9 a) k
theorem A6N (x : Ax) (a i : Nat) (w : World) (hx : Rn w x a) : Calls Tryz.prog 196 #[nvV x a,.int .i64 i] w fun e w'=>e = .returned (.int .u64 (dg (B5 W32 a) i : Nat)) ∧ A4 w w':=by
 obtain ⟨A,c⟩:=x
 obtain ⟨n,hn⟩ : ∃ n,n = ln a:=⟨_,rfl⟩
 show Calls Tryz.prog 196 #[.slice A (ln a) c,.int .i64 i] w _
 rw [← hn]
 rcases Nat.lt_or_ge i n with h | h
 ·obtain ⟨b,off,rfl,hc⟩:=hx.1.cell (i:=i) (by rw [hn] at h;exact h)
  have hl:=dgl a i
  generalize dg (B5 W32 a) i = p at *
  have hp : ((p : Int)) % 18446744073709551616 = (p : Int):=by omega
  clear hx hn
  go_enter Tryz.func196,Tryz.ntmps196
  go_wp2_with fail
  go_ret
  exact ⟨rfl,A4.refl _⟩
 ·rw [A0V (l:=B5 W32 a) (by rw [hn] at h;exact h)]
  have h' : ¬ i < n:=by omega
  clear hx hn
  go_enter Tryz.func196,Tryz.ntmps196
  go_wp2_with fail
  go_ret
  exact ⟨rfl,A4.refl _⟩
def AdI (W N : Nat) (la lb : List Nat) (k c : Nat) (zs : List Nat) : Prop:=zs.length = N ∧ Dig W zs ∧ c ≤ 1 ∧ val W (zs.take k) + c * W ^ k = val W (la.take k) + val W (lb.take k)
theorem AdI.start {W : Nat} (N : Nat) (la lb : List Nat) (hW : 0 < W) : AdI W N la lb 0 0 (List.replicate N 0) :=
 ⟨by simp,fun z hz=>by rw [(List.mem_replicate.1 hz).2];exact hW,by omega,by simp [val]⟩
theorem AdI.next {W N : Nat} {la lb zs : List Nat} {k c : Nat} (h : AdI W N la lb k c zs) (hW : 2 ≤ W) (ha : Dig W la) (hb : Dig W lb) (hk : k < N) :
  AdI W N la lb (k + 1) ((dg la k + dg lb k + c) / W) (zs.set k ((dg la k + dg lb k + c) % W)):=by
 obtain ⟨h1,h2,h3,h4⟩:=h
 have e1:=C3 (by omega) ha k
 have e2:=C3 (by omega) hb k
 refine ⟨by rw [List.length_set];exact h1,N9 h2 _ (Nat.mod_lt _ (by omega)),?_,?_⟩
 ·have : (dg la k + dg lb k + c) / W < 2:=Nat.div_lt_of_lt_mul (by omega)
  omega
 ·rw [A4u (by omega)]
  exact A6u (by rw [List.length_take];omega) h4
theorem AdI.done {W N : Nat} {la lb zs : List Nat} {c : Nat} (h : AdI W N la lb N c zs) (hW : 2 ≤ W) (ha : Dig W la) (hb : Dig W lb) (hla : la.length < N) (hlb : lb.length < N) : val W zs = val W la + val W lb:=by
 obtain ⟨h1,h2,h3,h4⟩:=h
 rw [List.take_of_length_le (by omega),List.take_of_length_le (by omega),List.take_of_length_le (by omega)] at h4
 have e1:=Nat.lt_of_lt_of_le (H9 ha) (Nat.pow_le_pow_right (by omega) (show la.length ≤ N - 1 by omega))
 have e2:=Nat.lt_of_lt_of_le (H9 hb) (Nat.pow_le_pow_right (by omega) (show lb.length ≤ N - 1 by omega))
 have e3 : 2 * W ^ (N - 1) ≤ W ^ N:=by
  obtain ⟨m,rfl⟩ : ∃ m,N = m + 1:=⟨N - 1,by omega⟩
  rw [Nat.add_sub_cancel,Nat.pow_succ,Nat.mul_comm]
  exact Nat.mul_le_mul_left _ hW
 rcases Nat.eq_zero_or_pos c with rfl | hc
 ·omega
 ·obtain rfl : c = 1:=by omega
  omega
theorem A8V {w u : World} {b N a : Nat} {zs : List Nat} (hG : A4 w u) (hR : Blk u b 193 (D7 zs)) (hl : zs.length = N) (hd : Dig W32 zs) (hv : val W32 zs = a) (hN : N ≤ 1099511627776) :
  ∀ W,A4 u W → Calls Tryz.prog 139 #[.slice (some ⟨b,0,none⟩) N N] W fun e w'=>e = .returned (.slice (some ⟨b,0,none⟩) (ln a) N) ∧ A4 W w':=fun W hg=>by
 have hL : Lim W (some ⟨b,0,none⟩) zs:=(Q3.lim hR).grow hg
 have h1:=A1K (some ⟨b,0,none⟩) zs N W hL (Nat.le_of_eq hl) (by omega)
 obtain ⟨-,hlen⟩:=A2u (a:=a) (c:=N) hL hd hv (Nat.le_of_eq hl) hN
 rw [hl,hlen] at h1
 exact h1
theorem A6G {u : World} {b N a : Nat} {zs : List Nat} (hR : Blk u b 193 (D7 zs)) (hl : zs.length = N) (hd : Dig W32 zs) (hv : val W32 zs = a) (hN : N ≤ 1099511627776) : Rn u (some ⟨b,0,none⟩,N) a :=
 (A2u (a:=a) (c:=N) (Q3.lim hR) hd hv (Nat.le_of_eq hl) hN).1
def SdI (W N : Nat) (la lb : List Nat) (k br : Nat) (zs : List Nat) : Prop:=zs.length = N ∧ Dig W zs ∧ br ≤ 1 ∧ val W (zs.take k) + val W (lb.take k) = val W (la.take k) + br * W ^ k
theorem SdI.start {W : Nat} (N : Nat) (la lb : List Nat) (hW : 0 < W) : SdI W N la lb 0 0 (List.replicate N 0) :=
 ⟨by simp,fun z hz=>by rw [(List.mem_replicate.1 hz).2];exact hW,by omega,by simp [val]⟩
theorem SdI.next {W N : Nat} {la lb zs : List Nat} {k br : Nat} (h : SdI W N la lb k br zs) (hW : 0 < W) (ha : Dig W la) (hb : Dig W lb) (hk : k < N) :
  SdI W N la lb (k + 1) (if dg la k < dg lb k + br then 1 else 0) (zs.set k ((dg la k + W - dg lb k - br) % W)):=by
 obtain ⟨h1,h2,h3,h4⟩:=h
 refine ⟨by rw [List.length_set];exact h1,N9 h2 _ (Nat.mod_lt _ hW),by split <;> omega,?_⟩
 rw [A4u (by omega)]
 exact A5H h3 (C3 hW ha k) (C3 hW hb k) (by rw [List.length_take];omega) h4
theorem SdI.done {W N : Nat} {la lb zs : List Nat} {br : Nat} (h : SdI W N la lb N br zs) (hla : la.length = N) (hlb : lb.length ≤ N) (hle : val W lb ≤ val W la) : val W zs = val W la - val W lb:=by
 obtain ⟨h1,h2,h3,h4⟩:=h
 rw [List.take_of_length_le (by omega),List.take_of_length_le (by omega),List.take_of_length_le (by omega)] at h4
 have h6:=H9 h2
 rw [h1] at h6
 rcases Nat.eq_zero_or_pos br with rfl | hc
 ·omega
 ·obtain rfl : br = 1:=by omega
  omega
def MlI (W N : Nat) (l1 l2 : List Nat) (i : Nat) (zs : List Nat) : Prop :=
 zs.length = N ∧ Dig W zs ∧ val W zs = val W (l1.take i) * val W l2 ∧ ∀ t,i + l2.length ≤ t → dg zs t = 0
def MlJ (W N : Nat) (l1 l2 : List Nat) (i j c : Nat) (zs : List Nat) : Prop :=
 zs.length = N ∧ Dig W zs ∧ c < W ∧ val W zs + c * W ^ (i + j) = val W (l1.take i) * val W l2 + W ^ i * (dg l1 i * val W (l2.take j)) ∧ ∀ t,i + l2.length ≤ t → dg zs t = 0
theorem MlI.start {W : Nat} (N : Nat) (l1 l2 : List Nat) (hW : 0 < W) : MlI W N l1 l2 0 (List.replicate N 0) :=
 ⟨by simp,fun z hz=>by rw [(List.mem_replicate.1 hz).2];exact hW,by simp [A0v,val],fun t _=>by unfold dg;rw [List.getElem?_replicate];split <;> rfl⟩
theorem MlI.inner {W N : Nat} {l1 l2 : List Nat} {i : Nat} {zs : List Nat} (h : MlI W N l1 l2 i zs) (hW : 0 < W) : MlJ W N l1 l2 i 0 0 zs :=
 ⟨h.1,h.2.1,hW,by rw [h.2.2.1];simp [val],h.2.2.2⟩
theorem MlJ.next {W N : Nat} {l1 l2 : List Nat} {i j c : Nat} {zs : List Nat} (h : MlJ W N l1 l2 i j c zs) (hN : N = l1.length + l2.length) (h1 : Dig W l1) (h2 : Dig W l2) (hW : 0 < W) (hi : i < l1.length) (hj : j < l2.length) :
  MlJ W N l1 l2 i (j + 1) ((dg l1 i * dg l2 j + dg zs (i + j) + c) / W) (zs.set (i + j) ((dg l1 i * dg l2 j + dg zs (i + j) + c) % W)):=by
 obtain ⟨hl,hd,hc,hv,hz⟩:=h
 refine ⟨by rw [List.length_set,hl],N9 hd _ (Nat.mod_lt _ hW),(A5V (C3 hW h1 i) (C3 hW h2 j) (C3 hW hd _) hc).2.2,?_,fun t ht=>?_⟩
 ·rw [← Nat.add_assoc]
  exact A7U (by rw [hl];omega) hv
 ·rw [M4 _ _ (by omega)]
  exact hz t ht
theorem MlJ.outer {W N : Nat} {l1 l2 : List Nat} {i c : Nat} {zs : List Nat} (h : MlJ W N l1 l2 i l2.length c zs) (hN : N = l1.length + l2.length) (hi : i < l1.length) : MlI W N l1 l2 (i + 1) (zs.set (i + l2.length) c):=by
 obtain ⟨hl,hd,hc,hv,hz⟩:=h
 have hlt : i + l2.length < zs.length:=by rw [hl];omega
 refine ⟨by rw [List.length_set,hl],N9 hd _ hc,?_,fun t ht=>?_⟩
 ·have h1:=V6 W zs (i + l2.length) c hlt
  rw [hz _ (Nat.le_refl _),Nat.mul_zero,Nat.add_zero] at h1
  rw [Y0 W l2 _ (Nat.le_refl _)] at hv
  rw [h1,J8,Nat.add_mul,Nat.mul_comm (W ^ (i + l2.length)) c,hv]
  grind
 ·rw [M4 _ _ (by omega)]
  exact hz t (by omega)
theorem A8h (x y : Ax) (a b : Nat) (w : World) (hx : Rn w x a) (hy : Rn w y b) (ha : bl a ≤ 1099511627776) (hb : bl b ≤ 1099511627776) : Calls Tryz.prog 80 #[nvV x a,nvV y b] w (Ret (M9 (a * b)) w):=by
 obtain ⟨p,hp⟩ : ∃ n,n = ln a:=⟨_,rfl⟩
 obtain ⟨q,hq⟩ : ∃ n,n = ln b:=⟨_,rfl⟩
 obtain ⟨A1,c1⟩:=x
 obtain ⟨A2,c2⟩:=y
 have hpl:=A1W a
 have hql:=A1W b
 rw [← hp] at hpl
 rw [← hq] at hql
 obtain ⟨N,hN⟩ : ∃ N,N = p + q:=⟨_,rfl⟩
 have fN : (p : Int) + (q : Int) = (N : Int):=by omega
 have fN2 : IntKind.i64.wrap ((p : Int) + (q : Int)) = (N : Int):=by rw [fN];exact IntWalk.i64_in _ (by omega)
 have hmk:=A2S N (by omega) (N : Int) rfl
 have hpb : p ≤ 34359738400:=by omega
 have hqb : q ≤ 34359738400:=by omega
 have hN1 : N ≤ p + q:=by omega
 have hN2 : p + q ≤ N:=by omega
 have hNl : N = (B5 W32 a).length + (B5 W32 b).length:=by rw [hN,hp,hq];rfl
 show Calls Tryz.prog 80 #[.slice A1 (ln a) c1,.slice A2 (ln b) c2] w _
 rw [← hp,← hq]
 have Hx:=Lib.hid hx.1
 have Hy:=Lib.hid hy.1
 have Hp:=Lib.hid hp
 have Hq:=Lib.hid hq
 have HNl:=Lib.hid hNl
 clear hp hq hx hy hN hpl hql ha hb hNl
 go_enter Tryz.func80,Tryz.ntmps80
 refine en0 ?_
 intro u hG hB hF
 refine r0T ?_
 have hbo:=Blk.new u 193 (D7 (List.replicate N 0))
 have hF3:=Fr.new (tk:=[]) hF hB hG (Nat.le_refl u.heap.size) (by simp)
 have hB3:=Bx.cons hbo (hB.grow (A4.alloc u (.cells (D7 (List.replicate N 0)) 193)))
 have hG3:=hG.trans (A4.alloc u (.cells (D7 (List.replicate N 0)) 193))
 simp only [List.cons_append,List.nil_append,List.map_cons,List.map_nil] at hF3
 clear hB hF hG hbo
 generalize World.alloc u _ = v at  hB3 hG3 ⊢
 generalize u.heap.size = b5 at hB3 hF3 ⊢
 have hB:=hB3
 have hF:=hF3
 have hG:=hG3
 clear hB3 hF3 hG3
 obtain ⟨u,rfl⟩ : ∃ x,x = v:=⟨_,rfl⟩
 refine wp_seq ?_
 refine r0T ?_
 refine wp_block ?_
 go_loopw [6] (fun s0 wr=>∃ (i : Nat) (zs : List Nat),i ≤ p ∧ s0 = .int .i64 i ∧ (MlI W32 N (B5 W32 a) (B5 W32 b) i zs) ∧ Bx wr [(b5,193,D7 zs)] ∧ A4 w wr) (fun s0 _=>p - (intOf s0).toNat)
 case atStart=>exact ⟨0,List.replicate N 0,Nat.zero_le _,rfl,MlI.start N _ _ E0,hB,hG⟩
 case round =>
  clear hB hG
  obtain ⟨i,zs,hi,rfl,hrel0,hB,hG⟩:=hrel
  obtain ⟨u,rfl⟩ : ∃ x,x = wr:=⟨_,rfl⟩
  have H0:=Lib.hid hrel0
  clear hrel0
  rcases Nat.lt_or_ge i p with hlt0 | hge0
  ·have hdec : decide ((i : Int) < (p : Int)) = true:=by simp;omega
   have hil : i < (B5 W32 a).length:=by rw [show (B5 W32 a).length = p from Hp.out.symm];exact hlt0
   obtain ⟨ba,oa,hAe,-⟩:=Hx.out.cell hil
   have hcl : ∀ W,A4 w W → W.cell? ⟨ba,oa + i,none⟩ = some (.int .u32 (dg (B5 W32 a) i : Nat)):=fun W hg=>by
    obtain ⟨b',o',e,hc⟩:=(Hx.out.grow hg).cell hil
    rw [hAe] at e
    cases e
    exact hc
   have e1:=dgl a i
   obtain ⟨X,hX⟩ : ∃ X,X = dg (B5 W32 a) i:=⟨_,rfl⟩
   rw [← hX] at e1
   simp only [← hX] at hcl
   have Hcl:=Lib.hid hcl
   have HX:=Lib.hid hX
   have Hil:=Lib.hid hil
   subst hAe
   clear hcl hX hil
   refine wp_seq ?_
   refine r0T ?_
   refine wp_cond_true (rfl) ?_
   refine wp_skip ?_
   refine A6 ?_
   refine wp_seq ?_
   refine wp_block ?_
   refine r0T ?_
   refine wp_seq ?_
   refine r0T ?_
   refine wp_block ?_
   go_loopw [8,7] (fun s0 s1 wr=>∃ (j : Nat) (c : Nat) (zs : List Nat),j ≤ q ∧ s0 = .int .i64 j ∧ s1 = .int .u64 (c : Nat) ∧ (MlJ W32 N (B5 W32 a) (B5 W32 b) i j c zs) ∧ Bx wr [(b5,193,D7 zs)] ∧ A4 w wr) (fun s0 _ _=>q - (intOf s0).toNat)
   case atStart=>exact ⟨0,0,zs,Nat.zero_le _,rfl,rfl,H0.out.inner E0,hB,hG⟩
   case round =>
    clear hB hG
    obtain ⟨j,c,zs,hj,rfl,rfl,hrel0,hB,hG⟩:=hrel
    obtain ⟨u,rfl⟩ : ∃ x,x = wr:=⟨_,rfl⟩
    have H1:=Lib.hid hrel0
    clear hrel0
    rcases Nat.lt_or_ge j q with hlt1 | hge1
    ·have hdec : decide ((j : Int) < (q : Int)) = true:=by simp;omega
     have hjl : j < (B5 W32 b).length:=by rw [show (B5 W32 b).length = q from Hq.out.symm];exact hlt1
     obtain ⟨bb,ob,hBe,-⟩:=Hy.out.cell hjl
     have hcl2 : ∀ W,A4 w W → W.cell? ⟨bb,ob + j,none⟩ = some (.int .u32 (dg (B5 W32 b) j : Nat)):=fun W hg=>by
      obtain ⟨b',o',e,hc⟩:=(Hy.out.grow hg).cell hjl
      rw [hBe] at e
      cases e
      exact hc
     have e2:=dgl b j
     have hnx:=H1.out.next HNl.out (G1 D9 a) (G1 D9 b) E0 Hil.out hjl
     have hz:=H1.out.1
     have hcW : c < 4294967296:=H1.out.2.2.1
     obtain ⟨t,ht⟩ : ∃ t,t = i + j:=⟨_,rfl⟩
     have htN : t < N:=by omega
     have htz : t < zs.length:=by rw [hz];exact htN
     have e3 : dg zs t < 4294967296:=C3 E0 H1.out.2.1 t
     obtain ⟨Y,hY⟩ : ∃ X,X = dg (B5 W32 b) j:=⟨_,rfl⟩
     obtain ⟨Z,hZ⟩ : ∃ X,X = dg zs t:=⟨_,rfl⟩
     rw [← ht,← HX.out,← hY,← hZ] at hnx
     rw [← hY] at e2
     rw [← hZ] at e3
     simp only [← hY] at hcl2
     obtain ⟨m,hm⟩ : ∃ m,m = X * Y:=⟨_,rfl⟩
     have hmb : m ≤ 4294967295 * 4294967295:=by rw [hm];exact Nat.mul_le_mul (by omega) (by omega)
     obtain ⟨s1,hs1⟩ : ∃ s,s = c + Z:=⟨_,rfl⟩
     obtain ⟨s2,hs2⟩ : ∃ s,s = c + Z + m:=⟨_,rfl⟩
     obtain ⟨d,hd⟩ : ∃ d,d = s2 % 4294967296:=⟨_,rfl⟩
     obtain ⟨c',hc'⟩ : ∃ d,d = s2 / 4294967296:=⟨_,rfl⟩
     have hnx2 : MlJ W32 N (B5 W32 a) (B5 W32 b) i (j + 1) c' (zs.set t d):=by
      rw [hc',hd,hs2,show c + Z + m = m + Z + c by omega,hm]
      exact hnx
     have f0 : (i : Int) + (j : Int) = (t : Int):=by omega
     have f0' : IntKind.i64.wrap ((i : Int) + (j : Int)) = (t : Int):=by rw [f0];exact IntWalk.i64_in _ (by omega)
     have f0w : IntKind.i64.wrap (t : Int) = (t : Int):=IntWalk.i64_in _ (by omega)
     have f1 : IntKind.u64.wrap ((c : Int) + (Z : Int)) = (s1 : Int):=by rw [show (c : Int) + (Z : Int) = ((s1 : Nat) : Int) by omega];exact C6 (by omega)
     have fm : IntKind.u64.wrap ((X : Int) * (Y : Int)) = (m : Int):=by rw [show (X : Int) * (Y : Int) = ((m : Nat) : Int) by rw [hm];simp];exact C6 (by omega)
     have f2 : IntKind.u64.wrap ((s1 : Int) + (m : Int)) = (s2 : Int):=by rw [show (s1 : Int) + (m : Int) = ((s2 : Nat) : Int) by omega];exact C6 (by omega)
     have f3 : (s2 : Int) % 4294967296 = (d : Int):=by omega
     have f3' : IntKind.u32.wrap (s2 : Int) = (d : Int):=by rw [← f3];simp [IntKind.wrap,IntKind.signed,IntKind.bits]
     have f4 : (s2 : Int) / 4294967296 = (c' : Int):=by omega
     have f5' : IntKind.u64.wrap (X : Int) = (X : Int):=C6 (by omega)
     have f6' : IntKind.u64.wrap (Y : Int) = (Y : Int):=C6 (by omega)
     have f7' : IntKind.u64.wrap (Z : Int) = (Z : Int):=C6 (by omega)
     have g1 : (D7 zs)[t]? = some (.int .u32 (Z : Nat)):=by rw [A2E,List.getElem?_eq_getElem htz,hZ,D5 htz];rfl
     have G2:=Lib.hid (A2X zs t d)
     have Hcl2:=Lib.hid hcl2
     have Hnx:=Lib.hid hnx2
     subst hBe
     clear hnx hnx2 hcl2 hY hZ hs1 hs2 hd hc' hz hcW htz hjl hm ht
     refine wp_seq ?_
     refine r0T ?_
     refine wp_cond_true (rfl) ?_
     refine wp_skip ?_
     refine A6 ?_
     refine wp_seq ?_
     refine wp_block ?_
     refine wp_seq (rdC A8 [] [(0,0),(0,1),(0,2),(0,3),(0,4),(0,5),(0,6),(0,7),(0,8),(0,9),(0,10),(0,11),(0,12),(0,13),(0,14),(0,15),(0,16),(0,17),(0,18),(0,19),(0,20)] hB hG fun K L hN hL=>?_)
     repeat first | refine gya ?_ | refine gyr ?_ | refine gna ?_ | refine gyb (by (rintro v ⟨hgu,hB,hG,-⟩ N hN;have r:=hB.r;simp only [BxR] at r;have hcb:=Hcl2.out v hG;have hcb2:=Hcl.out v hG;go_simp;exact hN)) ?_
     refine geC hL ?_
     clear hB hG hL L
     rintro u ⟨-,hB,hG,-⟩
     refine gtT ?_
     clear hN K
     refine r0T ?_
     generalize hu0 : World.setCell u _ _ = u0
     have hBG:=hB.over hF hG 0 rfl t [_] hu0
     clear hB hG
     simp only [List.modify_succ_cons,List.modify_zero_cons,H3,G2.out] at hBG
     obtain ⟨hB,hG⟩:=hBG
     clear hu0
     obtain ⟨u,rfl⟩ : ∃ x,x = u0:=⟨_,rfl⟩
     refine r0E ?_
     refine E3 ?_
     refine A6 ?_
     refine r0E ?_
     refine A6 ?_
     go_roundw
     case rel=>exact ⟨j + 1,c',zs.set t d,by omega,by go_num,rfl,Hnx.out,hB,hG⟩
     case measure=>simp [intOf];try omega
    ·obtain rfl : q = j:=by omega
     have hdec : decide ((q : Int) < (q : Int)) = false:=by simp
     have hou : MlI W32 N (B5 W32 a) (B5 W32 b) (i + 1) (zs.set (i + q) c):=by
      have := H1.out
      rw [show q = (B5 W32 b).length from Hq.out] at this ⊢
      exact this.outer HNl.out Hil.out
     have hcW : c < 4294967296:=H1.out.2.2.1
     obtain ⟨t,ht⟩ : ∃ t,t = i + q:=⟨_,rfl⟩
     rw [← ht] at hou
     have htN : t < N:=by omega
     have f0 : (i : Int) + (q : Int) = (t : Int):=by omega
     have f0' : IntKind.i64.wrap ((i : Int) + (q : Int)) = (t : Int):=by rw [f0];exact IntWalk.i64_in _ (by omega)
     have f0w : IntKind.i64.wrap (t : Int) = (t : Int):=IntWalk.i64_in _ (by omega)
     have f3 : (c : Int) % 4294967296 = (c : Int):=by omega
     have f3' : IntKind.u32.wrap (c : Int) = (c : Int):=by rw [← f3];simp [IntKind.wrap,IntKind.signed,IntKind.bits]
     have g1 : ∃ old,(D7 zs)[t]? = some old:=by rw [A2E,List.getElem?_eq_getElem (by rw [H1.out.1];exact htN)];exact ⟨_,rfl⟩
     obtain ⟨old,g1⟩:=g1
     have G3:=Lib.hid (A2X zs t c)
     have Hou:=Lib.hid hou
     clear hou ht
     refine wp_seq ?_
     refine r0T ?_
     refine wp_cond_false (rfl) ?_
     refine wp_exit ?_
     refine B9 ?_
     refine B9 ?_
     refine E9 ?_
     refine A6 ?_
     refine r0E ?_
     generalize hu0 : World.setCell u _ _ = u0
     have hBG:=hB.over hF hG 0 rfl t [_] hu0
     clear hB hG
     simp only [List.modify_succ_cons,List.modify_zero_cons,H3,G3.out] at hBG
     obtain ⟨hB,hG⟩:=hBG
     clear hu0
     obtain ⟨u,rfl⟩ : ∃ x,x = u0:=⟨_,rfl⟩
     refine E3 ?_
     refine A6 ?_
     refine r0E ?_
     refine A6 ?_
     go_roundw
     case rel=>exact ⟨i + 1,zs.set t c,by omega,by go_num,Hou.out,hB,hG⟩
     case measure=>simp [intOf];try omega
  ·obtain rfl : p = i:=by omega
   have hdec : decide ((p : Int) < (p : Int)) = false:=by simp
   have hvv:=H0.out.2.2.1
   rw [Y0 W32 (B5 W32 a) p (Nat.le_of_eq Hp.out.symm),D6 D9,D6 D9] at hvv
   have Htr:=Lib.hid (A8V hG hB.head H0.out.1 H0.out.2.1 hvv (by omega))
   have Hvv:=Lib.hid hvv
   clear hvv
   refine wp_seq ?_
   refine r0T ?_
   refine wp_cond_false (rfl) ?_
   refine wp_exit ?_
   refine B9 ?_
   refine B9 ?_
   refine E9 ?_
   refine A6 ?_
   refine wp_seq ?_
   obtain ⟨V,hV⟩ : ∃ V,V = a * b:=⟨_,rfl⟩
   rw [← hV] at Htr
   have HV:=Lib.hid hV
   clear hV
   refine rsE A8 [0,1,0] hB hG fun L hL=>?_
   refine gs ?_
   refine gmd (C:=fun v ⟨hgu,hB,hG,_⟩=>Htr.out _ hgu) ?_
   refine gs ?_
   refine geT hL ?_
   clear hB hG hL L
   rintro u ⟨-,hB,hG,-⟩
   refine rt Tryz.results80 ?_
   exact ⟨(some ⟨b5,0,none⟩,N),by rw [← HV.out];rfl,A6G hB.head H0.out.1 H0.out.2.1 Hvv.out (by omega),hG⟩
end Go.Proofs.YtgpglgbcobeogaaGreatDoor
