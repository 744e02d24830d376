/- Contracts and laws. -/
import Derived.Test.YtlkniebmjdoopaaGreatDoorR20
import Derived.Maps.AppendAt
set_option linter.unusedSimpArgs false
set_option linter.unusedVariables false
set_option maxHeartbeats 1000000
set_option maxRecDepth 100000
namespace Go.Proofs.YtlkniebmjdoopaaGreatDoor
open Go.RowKit
def C2 (l : List Nat) : Array Value:=(l.map fun x=>Value.int .u32 (x : Nat)).toArray
theorem A0r (l : List Nat) (i : Nat) : (C2 l)[i]? = (l[i]?).map fun x=>Value.int .u32 (x : Nat):=by
 unfold C2;simp
theorem A1P (l : List Nat) (i y : Nat) : (C2 l).setIfInBounds i (.int .u32 (y : Nat)) = C2 (l.set i y):=by
 unfold C2
 rw [List.setIfInBounds_toArray,List.map_set]
def O8 (u : World) (b : Nat) (l : List Nat) : Prop:=Blk u b 176 (C2 l)
theorem O8.grow {u u' : World} {b : Nat} {l : List Nat} (hg : A3 u u') (h : O8 u b l) : O8 u' b l:=Blk.grow hg h
theorem O8.cell {u : World} {b : Nat} {l : List Nat} (h : O8 u b l) {i : Nat} (hi : i < l.length) : u.cell? ⟨b,i,none⟩ = some (.int .u32 (dg l i : Nat)):=by
 rw [Blk.cell h,A0r,List.getElem?_eq_getElem hi,D1 hi]
 rfl
theorem O8.frozen {u : World} {b : Nat} {l : List Nat} (h : O8 u b l) (i : Nat) : u.frozen? ⟨b,i,none⟩ = false:=Blk.frozen h i
theorem O8.set {u : World} {b : Nat} {l : List Nat} (h : O8 u b l) (i y : Nat) : O8 (u.setCell ⟨b,i,none⟩ (.int .u32 (y : Nat))) b (l.set i y):=by
 have := Blk.set_ h i (.int .u32 (y : Nat))
 rw [A1P] at this
 exact this
theorem O8.lim {u : World} {b : Nat} {l : List Nat} (h : O8 u b l) : Lim u (some ⟨b,0,none⟩) l:=fun _ =>
 ⟨b,0,C2 l,(0,0),rfl,h,fun i x hi=>by rw [Nat.zero_add,A0r,hi];rfl⟩
theorem B4P : (Tryz.prog.info? 176).map (fun i=>(i.zero,i.size,i.bytes)) = some (some (.int .u32 0),1,4):=by kernel_rfl
theorem B5D (n : Nat) : madeCells (Value.int .u32 0).cells (n * 1) = C2 (List.replicate n 0):=by
 unfold C2 madeCells
 refine Array.ext (by simp) fun i h1 h2=>?_
 simp [Value.cells,Nat.mod_one]
theorem A1K (n : Nat) (hn : n ≤ 1099511627776) (x : Int) (hx : x = n) (W : World) : (Instr.makeSlice 62 (.int .i64 x) (.int .i64 x)).run Tryz.prog W =
  .ok (.slice (some ⟨W.heap.size,0,none⟩) n n) (W.alloc (.cells (C2 (List.replicate n 0)) 176)):=by
 obtain ⟨i0,hi0,hz0,hz1,hz2⟩:=info_parts B4P
 have hr:=run_make (P:=Tryz.prog) W 62 176 i0 (.int .u32 0) Tryz.underlying62 hi0 hz0 .i64 .i64 n n (by omega) (by omega) (by rw [hz2];omega) (by omega)
 rw [hx]
 rw [hr,hz1]
 simp only [Int.toNat_natCast]
 rw [B5D]
def A4O (W d : Nat) (l : List Nat) (k r : Nat) (zs : List Nat) : Prop :=
 zs.length = l.length ∧ Dig W zs ∧ r < d ∧ val W (zs.drop k) * d + r = val W (l.drop k)
theorem A4O.next {W d : Nat} {l : List Nat} {k r : Nat} {zs : List Nat} (h : A4O W d l (k + 1) r zs) (hk : k < l.length) (hd : Dig W l) (hW : 0 < W) :
  A4O W d l k ((r * W + dg l k) % d) (zs.set k ((r * W + dg l k) / d)):=by
 obtain ⟨h1,h2,h4,h5⟩:=h
 have hk' : k < zs.length:=by rw [h1];exact hk
 have hx:=B8 hW hd k
 refine ⟨by rw [List.length_set,h1],N4 h2 _ (A2Y h4 hx),Nat.mod_lt _ (by omega),?_⟩
 rw [A0j (l:=zs.set k _) (by rw [List.length_set];exact hk'),A9F hk',A0j hk,M4,M4,List.drop_set_of_lt (by omega),← h5]
 have e:=Nat.div_add_mod (r * W + dg l k) d
 generalize (r * W + dg l k) / d = q at *
 generalize (r * W + dg l k) % d = m at *
 generalize val W (zs.drop (k + 1)) = V at *
 grind
theorem B7U (x : Ax) (a d : Nat) (w : World) (hx : Rn w x a) (hd0 : 0 < d) (hdW : d < W32) :
  Calls Tryz.prog 177 #[nvV x a,.int .u32 d] w fun e w'=>∃ y : Ax,e = .returned (.tuple #[nvV y (a / d),.int .u32 (a % d : Nat)]) ∧ Rn w' y (a / d) ∧ A3 w w':=by
 obtain ⟨A,c⟩:=x
 obtain ⟨n,hn⟩ : ∃ n,n = ln a:=⟨_,rfl⟩
 have hm : n ≤ 1099511627776:=by rw [hn];exact hx.2.2.2
 show Calls Tryz.prog 177 #[.slice A (ln a) c,.int .u32 d] w _
 rw [← hn]
 have Hx:=Lib.hid hx.1
 have Hn:=Lib.hid hn
 have hmk:=A1K n hm (n : Int) rfl
 clear hx hn
 unfold W32 at hdW
 go_enter Tryz.func177,Tryz.ntmps177
 go_wp2_with fail
 clear hmk
 go_loopw [7,8] (fun r i wr=>∃ (k r' : Nat) (zs : List Nat),k ≤ n ∧ i = .int .i64 ((k : Int) - 1) ∧ r = .int .u64 r' ∧ A4O W32 d (A6 W32 a) k r' zs ∧ O8 wr w.heap.size zs ∧ A3 w wr) (fun _ i _=>(intOf i + 1).toNat)
 case atStart=>exact ⟨n,0,List.replicate n 0,Nat.le_refl _,rfl,rfl,⟨by rw [List.length_replicate];exact Hn.out,fun z hz=>(by rw [(List.mem_replicate.1 hz).2];exact D4),hd0,by rw [List.drop_of_length_le (by simp),List.drop_of_length_le (Nat.le_of_eq Hn.out.symm)];simp [val]⟩,Blk.new w 176 _,A3.alloc _ _⟩
 case round =>
  obtain ⟨k,r',zs,hk,rfl,rfl,hI,hR,hG⟩:=hrel
  have HI:=Lib.hid hI
  have HG:=Lib.hid hG
  have HR:=Lib.hid hR
  clear hI hG hR
  rcases Nat.eq_zero_or_pos k with rfl | hpos
  ·have hval : val W32 zs * d + r' = a:=by have := HI.out.2.2.2;rw [List.drop_zero,List.drop_zero,C7 C3] at this;exact this
   have hr:=HI.out.2.2.1
   have hres : a % d = r' ∧ a / d = val W32 zs:=by
    rw [← hval,Nat.mul_comm,Nat.mul_add_mod,Nat.mod_eq_of_lt hr,Nat.mul_add_div hd0,Nat.div_eq_of_lt hr]
    simp
   have hzl : zs.length = n:=by rw [HI.out.1];exact Hn.out.symm
   have htr : Calls Tryz.prog 142 #[.slice (some ⟨w.heap.size,0,none⟩) n n] wr fun e w'=>e = .returned (.slice (some ⟨w.heap.size,0,none⟩) (ln (a / d)) n) ∧ Rn w' (some ⟨w.heap.size,0,none⟩,n) (a / d) ∧ A3 w w':=by
    have h1:=A1Q (some ⟨w.heap.size,0,none⟩) zs n wr HR.out.lim (Nat.le_of_eq hzl) (by omega)
    rw [hzl] at h1
    refine h1.mono fun e w' ⟨he,hg⟩=>?_
    obtain ⟨hr1,hlen⟩:=A3D (a:=a / d) (c:=n) (HR.out.lim.grow hg) HI.out.2.1 hres.2.symm (Nat.le_of_eq hzl) hm
    rw [hlen] at he
    exact ⟨he,hr1,HG.out.trans hg⟩
   have Htr:=Lib.hid htr
   have Hres:=Lib.hid hres
   clear hval hres hzl htr
   have hc : decide ((0 : Int) ≤ ((0 : Nat) : Int) - 1) = false:=by decide
   have hwr : ((r' : Int)) % 4294967296 = (r' : Int):=by omega
   go_wp2_with (go_at_call 142;((with_reducible refine (Htr.out).mono ?_);rintro e w1 ⟨rfl,hr1,hg⟩))
   go_ret2
   exact ⟨(some ⟨w.heap.size,0,none⟩,n),congrArg (fun z : Nat=>Ending.returned (.tuple #[.slice (some ⟨w.heap.size,0,none⟩) (ln (a / d)) n,.int .u32 (z : Nat)])) Hres.out.1.symm,hr1,hg⟩
  ·obtain ⟨j,rfl⟩ : ∃ j,k = j + 1:=⟨k - 1,by omega⟩
   have e1 : ((j + 1 : Nat) : Int) - 1 = (j : Nat):=by omega
   rw [e1]
   have hjl : j < (A6 W32 a).length:=by have := Hn.out;unfold ln at this;omega
   have hnx:=HI.out.next hjl (E7 C3 a) D4
   obtain ⟨b1,o1,rfl,hc1⟩:=(Hx.out.grow HG.out).cell hjl
   have hjz : j < zs.length:=by rw [HI.out.1];exact hjl
   have hc2:=HR.out.cell hjz
   have hf2:=HR.out.frozen j
   have hxl:=B8 D4 (E7 C3 a) j
   obtain ⟨p,hp⟩ : ∃ p,p = dg (A6 W32 a) j:=⟨_,rfl⟩
   rw [← hp] at hc1 hnx hxl
   have hr:=HI.out.2.2.1
   have Hp:=Lib.hid hp
   have Hnx:=Lib.hid hnx
   clear hp hnx e1
   have hc0 : decide ((0 : Int) ≤ (j : Int)) = true:=by simp
   unfold W32 at hxl
   obtain ⟨X,hX⟩ : ∃ X,X = r' * W32 + p:=⟨_,rfl⟩
   have hXl : X < 18446744073709551616:=by rw [hX];unfold W32;omega
   have hqW : X / d < 4294967296:=by rw [hX];exact A2Y hr (by unfold W32;exact hxl)
   have hmW : X % d < d:=Nat.mod_lt _ hd0
   have hor : bits BinOp.or IntKind.u64 ((r' : Int) * 4294967296) (p : Int) = (X : Nat):=by
    have e2 : ((r' : Int) * 4294967296) = ((r' * 4294967296 : Nat) : Int):=by omega
    rw [e2,bits_or_u64_nat _ _ (by omega) (by omega),hX]
    unfold W32
    rw [A11 (s:=32) (by omega) (by omega)]
   have htm : ((X : Nat) : Int).tmod (d : Int) = ((X % d : Nat) : Int):=rfl
   have htd : ((X : Nat) : Int).tdiv (d : Int) = ((X / d : Nat) : Int):=rfl
   rw [← hX] at Hnx
   have HX:=Lib.hid hX
   obtain ⟨q,hq⟩ : ∃ q,q = X / d:=⟨_,rfl⟩
   obtain ⟨m,hm'⟩ : ∃ q,q = X % d:=⟨_,rfl⟩
   rw [← hq] at Hnx htd hqW
   rw [← hm'] at Hnx htm hmW
   clear hX hq hm'
   have hwq : ((q : Int)) % 4294967296 = (q : Int):=by omega
   go_wp2_with fail
   exact ⟨⟨j,m,zs.set j q,by omega,rfl,rfl,Hnx.out,HR.out.set j q,HG.out.setCell (p:=⟨w.heap.size,j,none⟩) (Nat.le_refl _) _⟩,by simp [intOf]⟩
theorem B2C {b : Nat} (h0 : b ≠ 0) (h : b < W32) : ln b = 1 ∧ A6 W32 b = [b]:=by
 have e : A6 W32 b = [b]:=by
  rw [A0J C3 h0,Nat.mod_eq_of_lt h,Nat.div_eq_of_lt h];rfl
 exact ⟨by unfold ln;rw [e];rfl,e⟩
theorem Rn.nil (u : World) : Rn u (none,0) 0:=⟨Lim.nil _ _,Nat.le_refl _,by omega,by decide⟩
theorem Ret.nn {a b : Nat} {w : World} {P : Program} {f : FuncId} {args : Array Value} {W : World} (h : Calls P f args W (Ret (nnR a b) w)) : Calls P f args W fun e w'=>∃ x y : Ax,e = .returned (.tuple #[.slice x.1 (ln a) x.2,.slice y.1 (ln b) y.2]) ∧ Rn w' x a ∧ Rn w' y b ∧ A3 w w' :=
 h.mono fun _ _ ⟨x,he,ht,hg⟩=>⟨x.1,x.2,he,ht.1,ht.2,hg⟩
theorem B0I (x y : Ax) (a b : Nat) (w : World) (hx : Rn w x a) (hy : Rn w y b) (hlt : a < b) : Calls Tryz.prog 141 #[nvV x a,nvV y b] w (Ret (nnR (a / b) (a % b)) w):=by
 have hcmp:=A2r x y a b w hx hy
 rw [P8 hlt] at hcmp
 have Hcmp:=Lib.hid hcmp
 have Hx:=Lib.hid hx
 clear hcmp hx hy
 rw [Nat.div_eq_of_lt hlt,Nat.mod_eq_of_lt hlt]
 go_enter Tryz.func141,Tryz.ntmps141
 go_wp2_with (go_at_call 87;((with_reducible refine (Hcmp.out).mono ?_);rintro e w1 ⟨rfl,hg⟩))
 go_ret2
 exact ⟨((none,0),x),rfl,⟨Rn.nil _,Hx.out.grow hg⟩,hg⟩
theorem B4q (x y : Ax) (a b : Nat) (w : World) (hx : Rn w x a) (hy : Rn w y b) (h0 : b ≠ 0) (hs : b < W32) : Calls Tryz.prog 141 #[nvV x a,nvV y b] w (Ret (nnR (a / b) (a % b)) w):=by
 by_cases hlt : a < b
 ·exact B0I x y a b w hx hy hlt
 ·have hcmp:=A2r x y a b w hx hy
  have hcz : decide (E3 a b < 0) = false:=by unfold E3;rw [if_neg hlt];split <;> rfl
  obtain ⟨hl1,hdg⟩:=B2C h0 hs
  obtain ⟨A2,c2⟩:=y
  have hcell:=hy.1.cell (i:=0) (by rw [hdg];simp)
  rw [hdg] at hcell
  obtain ⟨b2,o2,rfl,hc2⟩:=hcell
  have hc2' : ∀ W,A3 w W → W.cell? ⟨b2,o2,none⟩ = some (.int .u32 (b : Nat)):=fun W hg=>by
   have h1:=(hy.1.grow hg).cell (i:=0) (by rw [hdg];simp)
   rw [hdg] at h1
   obtain ⟨b3,o3,e3,h3⟩:=h1
   injection e3 with e3
   injection e3 with e4 e5
   subst e4;subst e5
   exact h3
  have hone : ∀ W,A3 w W → Calls Tryz.prog 177 #[nvV x a,.int .u32 b] W fun e w'=>∃ y : Ax,e = .returned (.tuple #[nvV y (a / b),.int .u32 (a % b : Nat)]) ∧ Rn w' y (a / b) ∧ A3 W w':=fun W hg=>B7U x a b W (hx.grow hg) (Nat.pos_of_ne_zero h0) hs
  have hmod : a % b < W64:=Nat.lt_of_lt_of_le (Nat.mod_lt _ (Nat.pos_of_ne_zero h0)) (Nat.le_of_lt (Nat.lt_of_lt_of_le hs (by unfold W32 W64;omega)))
  have hof:=A4n (a % b) hmod
  obtain ⟨m,hme⟩ : ∃ m,m = a % b:=⟨_,rfl⟩
  rw [← hme] at hone hof hmod ⊢
  unfold W64 at hmod
  show Calls Tryz.prog 141 #[nvV x a,.slice (some ⟨b2,o2,none⟩) (ln b) c2] w _
  rw [hl1]
  have hcmp' : Calls Tryz.prog 87 #[nvV x a,.slice (some ⟨b2,o2,none⟩) 1 c2] w fun e w'=>e = .returned (.int .i64 (E3 a b)) ∧ A3 w w':=by
   rw [← hl1];exact hcmp
  have Hcmp:=Lib.hid hcmp'
  have Hone:=Lib.hid hone
  have Hof:=Lib.hid hof
  have Hc2:=Lib.hid hc2'
  clear hcmp hcmp' hone hof hc2' hc2 hy hx hdg hl1 hs hme
  go_enter Tryz.func141,Tryz.ntmps141
  go_wp2_with (first
   | (go_at_call 87;((with_reducible refine (Hcmp.out).mono ?_);rintro e w1 ⟨rfl,hg1⟩;have hcc:=Hc2.out w1 hg1))
   | (go_at_call 177;((with_reducible refine (Hone.out w1 hg1).mono ?_);rintro e w2 ⟨y2,rfl,hy2,hg2⟩))
   | (go_at_call 92;((with_reducible refine (Hof.out _).mono ?_);rintro e w3 ⟨y3,rfl,hy3,hg3⟩)))
  go_ret2
  exact ⟨(y2,y3),rfl,⟨hy2.grow hg3,hy3⟩,hg1.trans (hg2.trans hg3)⟩
theorem Z3 (a : Nat) : ln a ≤ bl a / 32 + 1:=by
 refine A3F C3 (Nat.lt_of_lt_of_le (W8 a) ?_)
 rw [show W32 = 2 ^ 32 from rfl,← Nat.pow_mul]
 exact Nat.pow_le_pow_right (by omega) (by omega)
theorem dgl (a k : Nat) : dg (A6 W32 a) k < 4294967296:=B8 D4 (E7 C3 a) k
theorem A3G (x : Ax) (a i : Nat) (w : World) (hx : Rn w x a) : Calls Tryz.prog 199 #[nvV x a,.int .i64 i] w fun e w'=>e = .returned (.int .u64 (dg (A6 W32 a) i : Nat)) ∧ A3 w w':=by
 obtain ⟨A,c⟩:=x
 obtain ⟨n,hn⟩ : ∃ n,n = ln a:=⟨_,rfl⟩
 show Calls Tryz.prog 199 #[.slice A (ln a) c,.int .i64 i] w _
 rw [← hn]
 rcases Nat.lt_or_ge i n with h | h
 ·obtain ⟨b,off,rfl,hc⟩:=hx.1.cell (i:=i) (by rw [hn] at h;exact h)
  have hl:=dgl a i
  generalize dg (A6 W32 a) i = p at *
  have hp : ((p : Int)) % 18446744073709551616 = (p : Int):=by omega
  clear hx hn
  go_enter Tryz.func199,Tryz.ntmps199
  go_wp2_with fail
  go_ret
  exact ⟨rfl,A3.refl _⟩
 ·rw [Z8 (l:=A6 W32 a) (by rw [hn] at h;exact h)]
  have h' : ¬ i < n:=by omega
  clear hx hn
  go_enter Tryz.func199,Tryz.ntmps199
  go_wp2_with fail
  go_ret
  exact ⟨rfl,A3.refl _⟩
def AdI (W N : Nat) (la lb : List Nat) (k c : Nat) (zs : List Nat) : Prop:=zs.length = N ∧ Dig W zs ∧ c ≤ 1 ∧ val W (zs.take k) + c * W ^ k = val W (la.take k) + val W (lb.take k)
theorem AdI.start {W : Nat} (N : Nat) (la lb : List Nat) (hW : 0 < W) : AdI W N la lb 0 0 (List.replicate N 0) :=
 ⟨by simp,fun z hz=>by rw [(List.mem_replicate.1 hz).2];exact hW,by omega,by simp [val]⟩
theorem AdI.next {W N : Nat} {la lb zs : List Nat} {k c : Nat} (h : AdI W N la lb k c zs) (hW : 2 ≤ W) (ha : Dig W la) (hb : Dig W lb) (hk : k < N) :
  AdI W N la lb (k + 1) ((dg la k + dg lb k + c) / W) (zs.set k ((dg la k + dg lb k + c) % W)):=by
 obtain ⟨h1,h2,h3,h4⟩:=h
 have e1:=B8 (by omega) ha k
 have e2:=B8 (by omega) hb k
 refine ⟨by rw [List.length_set];exact h1,N4 h2 _ (Nat.mod_lt _ (by omega)),?_,?_⟩
 ·have : (dg la k + dg lb k + c) / W < 2:=Nat.div_lt_of_lt_mul (by omega)
  omega
 ·rw [A5g (by omega)]
  exact A9j (by rw [List.length_take];omega) h4
theorem AdI.done {W N : Nat} {la lb zs : List Nat} {c : Nat} (h : AdI W N la lb N c zs) (hW : 2 ≤ W) (ha : Dig W la) (hb : Dig W lb) (hla : la.length < N) (hlb : lb.length < N) : val W zs = val W la + val W lb:=by
 obtain ⟨h1,h2,h3,h4⟩:=h
 rw [List.take_of_length_le (by omega),List.take_of_length_le (by omega),List.take_of_length_le (by omega)] at h4
 have e1:=Nat.lt_of_lt_of_le (I2 ha) (Nat.pow_le_pow_right (by omega) (show la.length ≤ N - 1 by omega))
 have e2:=Nat.lt_of_lt_of_le (I2 hb) (Nat.pow_le_pow_right (by omega) (show lb.length ≤ N - 1 by omega))
 have e3 : 2 * W ^ (N - 1) ≤ W ^ N:=by
  obtain ⟨m,rfl⟩ : ∃ m,N = m + 1:=⟨N - 1,by omega⟩
  rw [Nat.add_sub_cancel,Nat.pow_succ,Nat.mul_comm]
  exact Nat.mul_le_mul_left _ hW
 rcases Nat.eq_zero_or_pos c with rfl | hc
 ·omega
 ·obtain rfl : c = 1:=by omega
  omega
theorem A3c {w u : World} {b N a : Nat} {zs : List Nat} (hG : A3 w u) (hR : Blk u b 176 (C2 zs)) (hl : zs.length = N) (hd : Dig W32 zs) (hv : val W32 zs = a) (hN : N ≤ 1099511627776) :
  ∀ W,A3 u W → Calls Tryz.prog 142 #[.slice (some ⟨b,0,none⟩) N N] W fun e w'=>e = .returned (.slice (some ⟨b,0,none⟩) (ln a) N) ∧ A3 W w':=fun W hg=>by
 have hL : Lim W (some ⟨b,0,none⟩) zs:=(O8.lim hR).grow hg
 have h1:=A1Q (some ⟨b,0,none⟩) zs N W hL (Nat.le_of_eq hl) (by omega)
 obtain ⟨-,hlen⟩:=A3D (a:=a) (c:=N) hL hd hv (Nat.le_of_eq hl) hN
 rw [hl,hlen] at h1
 exact h1
theorem A4b {u : World} {b N a : Nat} {zs : List Nat} (hR : Blk u b 176 (C2 zs)) (hl : zs.length = N) (hd : Dig W32 zs) (hv : val W32 zs = a) (hN : N ≤ 1099511627776) : Rn u (some ⟨b,0,none⟩,N) a :=
 (A3D (a:=a) (c:=N) (O8.lim hR) hd hv (Nat.le_of_eq hl) hN).1
theorem B60 (x y : Ax) (a b : Nat) (w : World) (hx : Rn w x a) (hy : Rn w y b) (ha : bl a ≤ 1099511627776) (hb : bl b ≤ 1099511627776) : Calls Tryz.prog 173 #[nvV x a,nvV y b] w (Ret (I8 (a + b)) w):=by
 have hat1 : ∀ i W,A3 w W → Calls Tryz.prog 199 #[nvV x a,.int .i64 (i : Nat)] W fun e w'=>e = .returned (.int .u64 (dg (A6 W32 a) i : Nat)) ∧ A3 W w':=fun i W hg=>A3G x a i W (hx.grow hg)
 have hat2 : ∀ i W,A3 w W → Calls Tryz.prog 199 #[nvV y b,.int .i64 (i : Nat)] W fun e w'=>e = .returned (.int .u64 (dg (A6 W32 b) i : Nat)) ∧ A3 W w':=fun i W hg=>A3G y b i W (hy.grow hg)
 obtain ⟨p,hp⟩ : ∃ n,n = ln a:=⟨_,rfl⟩
 obtain ⟨q,hq⟩ : ∃ n,n = ln b:=⟨_,rfl⟩
 obtain ⟨A1,c1⟩:=x
 obtain ⟨A2,c2⟩:=y
 have hpl:=Z3 a
 have hql:=Z3 b
 rw [← hp] at hpl
 rw [← hq] at hql
 obtain ⟨n,hn⟩ : ∃ n,n = max p q:=⟨_,rfl⟩
 have f0 : max (p : Int) (q : Int) = (n : Int):=by omega
 obtain ⟨N,hN⟩ : ∃ N,N = n + 1:=⟨_,rfl⟩
 have fN : (n : Int) + 1 = (N : Int):=by omega
 have fN2 : IntKind.i64.wrap ((n : Int) + 1) = (N : Int):=by rw [fN];exact IntWalk.i64_in _ (by omega)
 have hmk:=A1K N (by omega) (N : Int) rfl
 have hNb : N ≤ 34359738400:=by omega
 have hpN : p < N:=by omega
 have hqN : q < N:=by omega
 have hnN1 : n + 1 ≤ N:=by omega
 have hnN2 : N ≤ n + 1:=by omega
 show Calls Tryz.prog 173 #[.slice A1 (ln a) c1,.slice A2 (ln b) c2] w _
 rw [← hp,← hq]
 change ∀ i W,A3 w W → Calls Tryz.prog 199 #[.slice A1 (ln a) c1,.int .i64 (i : Nat)] W _ at hat1
 change ∀ i W,A3 w W → Calls Tryz.prog 199 #[.slice A2 (ln b) c2,.int .i64 (i : Nat)] W _ at hat2
 rw [← hp] at hat1
 rw [← hq] at hat2
 have Hat1:=Lib.hid hat1
 have Hat2:=Lib.hid hat2
 have Hp:=Lib.hid hp
 have Hq:=Lib.hid hq
 clear hat1 hat2 hp hq hx hy hn hN hpl hql ha hb
 go_enter Tryz.func173,Tryz.ntmps173
 refine en0 ?_
 intro u hG hB hF
 refine r0T ?_
 refine r0T ?_
 have hbo:=Blk.new u 176 (C2 (List.replicate N 0))
 have hF3:=Fr.new (tk:=[]) hF hB hG (Nat.le_refl u.heap.size) (by simp)
 have hB3:=Bx.cons hbo (hB.grow (A3.alloc u (.cells (C2 (List.replicate N 0)) 176)))
 have hG3:=hG.trans (A3.alloc u (.cells (C2 (List.replicate N 0)) 176))
 simp only [List.cons_append,List.nil_append,List.map_cons,List.map_nil] at hF3
 clear hB hF hG hbo
 generalize World.alloc u _ = v at  hB3 hG3 ⊢
 generalize u.heap.size = b6 at hB3 hF3 ⊢
 have hB:=hB3
 have hF:=hF3
 have hG:=hG3
 clear hB3 hF3 hG3
 obtain ⟨u,rfl⟩ : ∃ x,x = v:=⟨_,rfl⟩
 refine r0T ?_
 refine wp_seq ?_
 refine r0T ?_
 refine wp_block ?_
 go_loopw [8,7] (fun s0 s1 wr=>∃ (i : Nat) (c : Nat) (zs : List Nat),i ≤ N ∧ s0 = .int .i64 i ∧ s1 = .int .u64 (c : Nat) ∧ (AdI W32 N (A6 W32 a) (A6 W32 b) i c zs) ∧ Bx wr [(b6,176,C2 zs)] ∧ A3 w wr) (fun s0 _ _=>N - (intOf s0).toNat)
 case atStart=>exact ⟨0,0,List.replicate N 0,Nat.zero_le _,rfl,rfl,AdI.start N _ _ D4,hB,hG⟩
 case round =>
  clear hB hG
  obtain ⟨i,c,zs,hi,rfl,rfl,hrel0,hB,hG⟩:=hrel
  obtain ⟨u,rfl⟩ : ∃ x,x = wr:=⟨_,rfl⟩
  have H0:=Lib.hid hrel0
  clear hrel0
  rcases Nat.lt_or_ge i N with hlt0 | hge0
  ·have hdec : decide ((i : Int) < (N : Int)) = true:=by simp;omega
   have hin : i ≤ n:=by omega
   have hc1:=H0.out.2.2.1
   have hnx:=H0.out.next C3 (E7 C3 a) (E7 C3 b) hlt0
   have hz:=H0.out.1
   have e1:=dgl a i
   have e2:=dgl b i
   have ha1:=Hat1.out i
   have ha2:=Hat2.out i
   obtain ⟨X,hX⟩ : ∃ X,X = dg (A6 W32 a) i:=⟨_,rfl⟩
   obtain ⟨Y,hY⟩ : ∃ X,X = dg (A6 W32 b) i:=⟨_,rfl⟩
   rw [← hX] at e1 hnx
   rw [← hY] at e2 hnx
   simp only [← hX] at ha1
   simp only [← hY] at ha2
   obtain ⟨s1,hs1⟩ : ∃ s,s = c + X:=⟨_,rfl⟩
   obtain ⟨s2,hs2⟩ : ∃ s,s = c + X + Y:=⟨_,rfl⟩
   obtain ⟨d,hd⟩ : ∃ d,d = s2 % 4294967296:=⟨_,rfl⟩
   obtain ⟨c',hc'⟩ : ∃ d,d = s2 / 4294967296:=⟨_,rfl⟩
   have hnx2 : AdI W32 N (A6 W32 a) (A6 W32 b) (i + 1) c' (zs.set i d):=by
    rw [hc',hd,hs2,show c + X + Y = X + Y + c by omega]
    exact hnx
   have f1 : IntKind.u64.wrap ((c : Int) + (X : Int)) = (s1 : Int):=by rw [show (c : Int) + (X : Int) = ((s1 : Nat) : Int) by omega];exact C1 (by omega)
   have f2 : IntKind.u64.wrap ((s1 : Int) + (Y : Int)) = (s2 : Int):=by rw [show (s1 : Int) + (Y : Int) = ((s2 : Nat) : Int) by omega];exact C1 (by omega)
   have f3 : (s2 : Int) % 4294967296 = (d : Int):=by omega
   have f3' : IntKind.u32.wrap (s2 : Int) = (d : Int):=by rw [← f3];simp [IntKind.wrap,IntKind.signed,IntKind.bits]
   have f4 : (s2 : Int) / 4294967296 = (c' : Int):=by omega
   have g1 : ∃ old,(C2 zs)[i]? = some old:=by rw [A0r,List.getElem?_eq_getElem (by rw [hz];exact hlt0)];exact ⟨_,rfl⟩
   obtain ⟨old,g1⟩:=g1
   have G2:=Lib.hid (A1P zs i d)
   have Ha1:=Lib.hid ha1
   have Ha2:=Lib.hid ha2
   have Hnx:=Lib.hid hnx2
   clear hnx hnx2 ha1 ha2 hX hY hs1 hs2 hd hc' hz hc1
   refine wp_seq ?_
   refine r0T ?_
   refine wp_cond_true (rfl) ?_
   refine wp_skip ?_
   refine A4 ?_
   refine wp_seq ?_
   refine wp_block ?_
   refine wp_seq (rsE A5 [0,0,0,1,0,0,0,1,0,0] hB hG fun L hL=>?_)
   refine gs ?_
   refine gmd (C:=fun v ⟨hgu,hB,hG,_⟩=>Ha1.out _ hG) ?_
   refine gs ?_
   refine gmd (C:=fun v ⟨hgu,hB,hG,_⟩=>Ha2.out _ hG) ?_
   refine gs ?_
   refine geT hL ?_
   clear hB hG hL L
   rintro u ⟨-,hB,hG,-⟩
   refine r0T ?_
   generalize hu0 : World.setCell u _ _ = u0
   have hBG:=hB.over hF hG 0 rfl i [_] hu0
   clear hB hG
   simp only [List.modify_succ_cons,List.modify_zero_cons,G5,G2.out] at hBG
   obtain ⟨hB,hG⟩:=hBG
   clear hu0
   obtain ⟨u,rfl⟩ : ∃ x,x = u0:=⟨_,rfl⟩
   refine r0E ?_
   refine D5 ?_
   refine A4 ?_
   refine r0E ?_
   refine A4 ?_
   go_roundw
   case rel=>exact ⟨i + 1,c',zs.set i d,by omega,by go_num,rfl,Hnx.out,hB,hG⟩
   case measure=>simp [intOf];try omega
  ·obtain rfl : N = i:=by omega
   have hdec : decide ((N : Int) < (N : Int)) = false:=by simp
   have hnin : ¬ (N ≤ n):=by omega
   have hvv:=H0.out.done C3 (E7 C3 a) (E7 C3 b) (by rw [show (A6 W32 a).length = p from Hp.out.symm];exact hpN) (by rw [show (A6 W32 b).length = q from Hq.out.symm];exact hqN)
   rw [C7 C3,C7 C3] at hvv
   have Htr:=Lib.hid (A3c hG hB.head H0.out.1 H0.out.2.1 hvv (by omega))
   have Hvv:=Lib.hid hvv
   clear hvv
   refine wp_seq ?_
   refine r0T ?_
   refine wp_cond_false (rfl) ?_
   refine wp_exit ?_
   refine B4 ?_
   refine B4 ?_
   refine E1 ?_
   refine A4 ?_
   refine wp_seq ?_
   obtain ⟨V,hV⟩ : ∃ V,V = a + b:=⟨_,rfl⟩
   rw [← hV] at Htr
   have HV:=Lib.hid hV
   clear hV
   refine rsE A5 [0,1,0] hB hG fun L hL=>?_
   refine gs ?_
   refine gmd (C:=fun v ⟨hgu,hB,hG,_⟩=>Htr.out _ hgu) ?_
   refine gs ?_
   refine geT hL ?_
   clear hB hG hL L
   rintro u ⟨-,hB,hG,-⟩
   refine rt Tryz.results173 ?_
   exact ⟨(some ⟨b6,0,none⟩,N),by rw [← HV.out];rfl,A4b hB.head H0.out.1 H0.out.2.1 Hvv.out (by omega),hG⟩
structure EI (T e : TypeId) (size bytes : Nat) : Prop where
 und : Tryz.prog.underlying T = some (.slice e)
 ex : ∃ i z,Tryz.prog.info? e = some i ∧ i.zero = some z ∧ i.size = size ∧ i.bytes = bytes ∧ z.cells.size = size
 pos : 0 < size
theorem A1j {T e : TypeId} {size bytes : Nat} (h1 : Tryz.prog.underlying T = some (.slice e)) (h2 : (Tryz.prog.info? e).map (fun i=>(i.zero.map fun z=>z.cells.size,i.size,i.bytes)) = some (some size,size,bytes)) (h3 : 0 < size) : EI T e size bytes:=by
 refine ⟨h1,?_,h3⟩
 cases hi : Tryz.prog.info? e with
 | none=>rw [hi] at h2;cases h2
 | some i =>
  rw [hi] at h2
  simp only [Option.map_some,Option.some.injEq,Prod.mk.injEq] at h2
  obtain ⟨h4,h5,h6⟩:=h2
  cases hz : i.zero with
  | none=>rw [hz] at h4;cases h4
  | some z =>
   rw [hz] at h4
   simp only [Option.map_some,Option.some.injEq] at h4
   exact ⟨i,z,rfl,hz,h5,h6,h4⟩
theorem B1k {P : Program} {o : Oper} {a : Act} {w w' : World} {K : Act → World → Prop} {Q : Exit → Act → World → Prop} {v : Value} (h : (execOp a.eval o).run P w = .ok (.value v) w') (hk : K (a.put o.dst v) w') : o.wp P a w K Q:=by
 unfold Oper.wp
 rw [h]
 exact hk
theorem B6j {P : Program} {a : Act} {w w' : World} {d : Option Tmp} {T : TypeId} {n : Nat} {x : Operand} {t : TypeId} {p : String} {f : Array Edge} {v : Value} (h : (Instr.buildSlice T n #[(0,a.eval x)]).run P w = .ok v w') : (execOp a.eval ⟨d,.buildSlice T n #[(0,x)],t,p,f,none⟩).run P w = .ok (.value v) w':=by
 unfold execOp
 simp only [List.map_toArray,List.map_cons,List.map_nil,Sem.run_bind]
 rw [h]
 rfl
theorem A1O {ops : Array Oper} {a : Act} {u : World} {K : Act → World → Prop} {d1 d2 d3 : Option Nat} {x s z q : Operand} {t1 t2 t3 : TypeId} {p1 p2 p3 : String} {f1 f2 f3 : Array Edge} {T e : TypeId} {size bytes : Nat} (hE : EI T e size bytes)
  (B : Nat) (v : Value) (n : Nat) (xs : List Value) (xv : Value) (ys : List Value) (hy : ys.length = size) (h1 : (ys.all fun y=>y.oneCell') = true) (hb : (Instr.buildSlice T 1 #[(0,xv)]).run Tryz.prog u = .ok (.slice (some ⟨u.heap.size,0,none⟩) 1 1) (u.alloc (.cells ys.toArray e)))
  (hx : a.eval x = xv) (hs : ∀ p,(a.put d1 p).eval s = v) (hz : ∀ p,(a.put d1 p).eval z = p) (hq : ∀ p p',((a.put d1 p).put d2 p').eval q = p')
  (hown : u.ownsRow B e size v n xs) (hl : n + 1 ≤ 1099511627776) (hl2 : (n + 1) * bytes ≤ 140737488355328) (hB : B ≤ u.heap.size)
  (h : ∀ p v' w',w'.ownsRow B e size v' (n + 1) (xs ++ ys) → (u.alloc (.cells ys.toArray e)).grownBy w' v.ownBlock → (v'.ownBlock = v.ownBlock ∨ v'.ownBlock = some (u.heap.size + 1)) → NoK K .normal (((a.put d1 p).put d2 v').put d3 v') w') :
  wpList Tryz.prog ops (NoK K) [⟨d1,.buildSlice T 1 #[(0,x)],t1,p1,f1,none⟩,⟨d2,.call { callee:=.builtin .append,args:=#[s,z],argTypes:=#[T,T] },t2,p2,f2,none⟩,⟨d3,.assign q,t3,p3,f3,none⟩] a u:=by
 obtain ⟨hund,⟨i0,z0,hi0,hz0,hz1,hz2,hz3⟩,hpos⟩:=hE
 refine wpList_plain rfl fun K1 hK1=>?_
 have hb1 : (Instr.buildSlice T 1 #[(0,a.eval x)]).run Tryz.prog u = .ok (.slice (some ⟨u.heap.size,0,none⟩) 1 1) (u.alloc (.cells ys.toArray e)):=by rw [hx];exact hb
 have hb2:=B6j (d:=d1) (t:=t1) (p:=p1) (f:=f1) hb1
 unfold Oper.wp
 rw [hb2]
 refine hK1 _ _ ?_
 show wpList Tryz.prog ops (NoK K) _ (a.put d1 _) _
 have hs1:=hs (.slice (some ⟨u.heap.size,0,none⟩) 1 1)
 have hz1':=hz (.slice (some ⟨u.heap.size,0,none⟩) 1 1)
 have hq1:=hq (.slice (some ⟨u.heap.size,0,none⟩) 1 1)
 have hh:=h (.slice (some ⟨u.heap.size,0,none⟩) 1 1)
 have ho:=hown.alloc (.cells ys.toArray e)
 generalize a.put d1 (.slice (some ⟨u.heap.size,0,none⟩) 1 1) = a1 at hs1 hz1' hq1 hh
 refine wpList_append_own_at (u.alloc (.cells ys.toArray e)) (a:=a1) (Q:=NoK K) rfl s z T rfl B e i0 z0 size bytes hund hi0 hz0 hz1 hz2 hz3 hpos v n xs hs1 ho ⟨u.heap.size,0,none⟩ 1 1 ys hz1' (by rw [hy];omega) ?_ (fun y hy=>List.all_eq_true.1 h1 y hy) (by unfold maxLen;omega) hl2 (by rw [I4];omega) fun v' w' g1 g2 _ g4=>?_
 ·intro j y hj
  rw [Go.WideShapes.add_plain,Nat.zero_add,Blk.cell (Blk.new u e ys.toArray) j,List.getElem?_toArray]
  exact hj
 ·rw [I4] at g4
  refine wpList_plain rfl fun K2 hK2=>?_
  refine B1k (v:=v') (w':=w') ?_ (hK2 _ _ (wpList_nil ?_))
  ·have e1 : (execOp ((a1.put d2 v').eval) ⟨d3,.assign q,t3,p3,f3,none⟩).run Tryz.prog w' = .ok (.value ((a1.put d2 v').eval q)) w':=rfl
   rw [hq1] at e1
   exact e1
  ·exact hh v' w' g1 g2 g4
theorem A03 {w u w' : World} {e : TypeId} {size n : Nat} {v : Value} {xs : List Value} {o : Obj} (h : u.ownsRow w.heap.size e size v n xs) (hG : A3 w u) (hg : (u.alloc o).grownBy w' v.ownBlock) : A3 w w' :=
 (hG.trans (A3.alloc u o)).grown hg fun k hk=>(h.lt k hk).1
theorem F4 {u u' : World} {B : Nat} {e : TypeId} {s : Nat} {v : Value} {n : Nat} {xs : List Value} (h : u.ownsRow B e s v n xs) (hg : A3 u u') : u'.ownsRow B e s v n xs:=by
 obtain ⟨h0,h | ⟨g,cap,cur,rfl,hb,hh,hn,hc,hs,ht⟩⟩:=h
 ·exact ⟨h0,.inl h⟩
 ·exact ⟨h0,.inr ⟨g,cap,cur,rfl,hb,(hg.block g (R6 hh)).trans hh,hn,hc,hs,ht⟩⟩
theorem Lim.own {u w' : World} {B : Nat} {e : TypeId} {size n : Nat} {v : Value} {xs : List Value} {o : Obj} {A : Option Addr} {l : List Nat} (hl : Lim u A l) (h : u.ownsRow B e size v n xs) (ht : e ≠ 176) (hg : (u.alloc o).grownBy w' v.ownBlock) : Lim w' A l:=fun hne=>by
 obtain ⟨b,off,cs,fr,e1,hb,hc⟩:=hl hne
 refine ⟨b,off,cs,fr,e1,?_,hc⟩
 have hlt:=R6 hb
 have h2 : (u.alloc o).heap[b]? = u.heap[b]?:=(A3.alloc u o).block b hlt
 refine (hg.block b (by rw [I4];omega) fun hxe=>?_).trans (h2.trans hb)
 obtain ⟨_,h | ⟨g,cap,cur,rfl,hb',hh,hn,hc',hs,ht2⟩⟩:=h
 ·rw [h.1] at hxe;cases hxe
 ·have h1 : b = g:=Option.some.inj hxe
  rw [h1,hh] at hb
  injection hb with hb
  injection hb with _ h3 _
  exact ht h3
theorem Rn.own {u w' : World} {B : Nat} {e : TypeId} {size n : Nat} {v : Value} {xs : List Value} {o : Obj} {x : Ax} {a : Nat} (hl : Rn u x a) (h : u.ownsRow B e size v n xs) (ht : e ≠ 176) (hg : (u.alloc o).grownBy w' v.ownBlock) : Rn w' x a:=⟨hl.1.own h ht hg,hl.2⟩
theorem A7z (y : Int) (w : World) : (Instr.buildSlice 62 1 #[(0,.int .u32 y)]).run Tryz.prog w = .ok (.slice (some ⟨w.heap.size,0,none⟩) 1 1) (w.alloc (.cells #[.int .u32 y] 176)):=by
 go_simp
theorem A8u (q : Rat) (w : World) : (Instr.buildSlice 23 1 #[(0,qV q)]).run Tryz.prog w = .ok (.slice (some ⟨w.heap.size,0,none⟩) 1 1) (w.alloc (.cells #[.bool (D2 q.num),.int .u64 (B3 q.num.natAbs),.string (A8 q.num.natAbs),.int .u64 (B3 (H9 q.den)),.string (A8 (H9 q.den))] 39)):=by
 go_simp
theorem A7U (x y : Ax) (q : Rat) (w : World) : (Instr.buildSlice 25 1 #[(0,rqV x y q)]).run Tryz.prog w = .ok (.slice (some ⟨w.heap.size,0,none⟩) 1 1) (w.alloc (.cells #[.bool (D2 q.num),.slice x.1 (ln q.num.natAbs) x.2,.slice y.1 (ln q.den) y.2] 66)):=by
 go_simp
abbrev A0I (l : List Nat) : List Value:=l.map fun x=>Value.int .u32 (x : Nat)
theorem B68 {u : World} {B b : Nat} {l : List Nat} (h : Blk u b 176 (C2 l)) (hb : B ≤ b) (hl : l.length ≤ maxLen) : u.ownsRow B 176 1 (.slice (some ⟨b,0,none⟩) l.length l.length) l.length (A0I l) :=
 ⟨by simp,.inr ⟨b,l.length,C2 l,rfl,hb,h,Nat.le_refl _,hl,by unfold C2;simp,by unfold C2;rw [Nat.mul_one,List.take_of_length_le (by simp)]⟩⟩
theorem A8A {u : World} {B n : Nat} {v : Value} {l : List Nat} (h : u.ownsRow B 176 1 v n (A0I l)) : ∃ A c,v = .slice A n c ∧ n ≤ c ∧ c ≤ maxLen ∧ Lim u A l ∧ n = l.length:=by
 have hn : n = l.length:=by have := h.1;simp at this;omega
 obtain ⟨_,h | ⟨g,cap,cur,rfl,hb,hh,hn',hc,hs,ht⟩⟩:=h
 ·obtain ⟨rfl,h0⟩:=h
  exact ⟨none,0,by rw [h0],by omega,by unfold maxLen;omega,fun hne=>absurd (List.eq_nil_of_length_eq_zero (by omega)) hne,hn⟩
 ·refine ⟨_,cap,rfl,hn',hc,fun _=>⟨g,0,cur,(0,0),rfl,hh,fun i x hi=>?_⟩,hn⟩
  have hil : i < l.length:=(List.getElem?_eq_some_iff.1 hi).1
  have h1 : (cur.toList.take (n * 1))[i]? = some (.int .u32 (x : Nat)):=by rw [ht,List.getElem?_map,hi];rfl
  rw [List.getElem?_take,if_pos (by omega)] at h1
  rw [Nat.zero_add]
  simpa using h1
theorem A5F : EI 62 176 1 4:=A1j (by kernel_rfl) (by kernel_rfl) (by omega)
theorem A5Y : EI 23 39 5 56:=A1j (by kernel_rfl) (by kernel_rfl) (by omega)
theorem A4s : EI 25 66 3 56:=A1j (by kernel_rfl) (by kernel_rfl) (by omega)
end Go.Proofs.YtlkniebmjdoopaaGreatDoor
