/- Contracts and laws. -/
import Derived.Test.YtlkniebmjdoopaaGreatDoorK25
import Derived.Deep.CutBlock
import Derived.Deep.DeepCutAuto
import Derived.Deep.LoopGhost
set_option linter.unusedSimpArgs false
set_option linter.unusedVariables false
set_option maxHeartbeats 4000000
set_option maxRecDepth 100000
namespace Go.Proofs.YtlkniebmjdoopaaGreatDoor
open Go.RowKit
theorem B0u (w : World) : (Instr.buildSlice 62 0 #[]).run Tryz.prog w = .ok (.slice (some ⟨w.heap.size,0,none⟩) 0 0) (w.alloc (.cells #[] 176)):=by
 go_simp
theorem B1h (w : World) : (Instr.buildSlice 62 2 #[(0,.int .u32 0),(1,.int .u32 0)]).run Tryz.prog w = .ok (.slice (some ⟨w.heap.size,0,none⟩) 2 2) (w.alloc (.cells #[.int .u32 0,.int .u32 0] 176)):=by
 go_simp
theorem A7X {P : Program} {ops : Array Oper} {rest : List Oper} {o : Oper} {a : Act} {w w' : World} {Q : Exit → Act → World → Prop} {v x y : Value} (hgd : o.guard = none) (s z : Operand) (t : TypeId)
  (ho : o.op = .call { callee:=.builtin .append,args:=#[s,z],argTypes:=#[t,t] }) (hs : a.eval s = x) (hz : a.eval z = y) (hr : (Builtin.append_ #[t,t] o.type #[x,y]).run P w = .ok v w') (h : wpList P ops Q rest (a.put o.dst v) w') : wpList P ops Q (o :: rest) a w:=by
 refine wpList_plain hgd fun K hK=>?_
 unfold Oper.wp execOp
 simp only [ho,resolve,invoke,builtin,Sem.run_bind,Sem.run_pure,Result.andThen_ok,List.map_toArray,List.map_cons,List.map_nil,hs,hz,hr]
 exact hK _ _ h
theorem A8E (l : List Nat) : (D8 l).size = l.length:=by unfold D8;simp
theorem B30 (zs : List Nat) (J : Array Value) (i y : Nat) (hi : i < zs.length) : (D8 zs ++ J).setIfInBounds i (.int .u32 (y : Nat)) = D8 (zs.set i y) ++ J:=by
 rw [← A5y,Array.setIfInBounds_append,if_pos (by rw [A8E];exact hi)]
theorem A7x (zs : List Nat) (J : Array Value) (i : Nat) (hi : i < zs.length) : (D8 zs ++ J)[i]? = some (.int .u32 (dg zs i : Nat)):=by
 rw [Array.getElem?_append_left (by rw [A8E];exact hi),A3s,List.getElem?_eq_getElem hi,D3 hi]
 rfl
theorem A2t {w u : World} {g b4 : Nat} {zs qs : List Nat} {J : Array Value} (hB : Bx u [(g,176,D8 zs ++ J),(b4,176,D8 qs)]) (hF : Fr w [g,b4]) (hG : A3 w u) (i y : Nat) (hi : i < zs.length) :
  Bx (u.setCell ⟨g,i,none⟩ (.int .u32 (y : Nat))) [(g,176,D8 (zs.set i y) ++ J),(b4,176,D8 qs)] ∧ A3 w (u.setCell ⟨g,i,none⟩ (.int .u32 (y : Nat))):=by
 have hBG:=hB.over hF hG 0 rfl i [.int .u32 (y : Nat)] rfl
 simp only [List.modify_zero_cons,G6,B30 zs J i y hi] at hBG
 exact hBG
theorem A7M {w u : World} {g b4 : Nat} {zs qs : List Nat} {J : Array Value} (hB : Bx u [(g,176,D8 zs ++ J),(b4,176,D8 qs)]) (hF : Fr w [g,b4]) (hG : A3 w u) (i y : Nat) :
  Bx (u.setCell ⟨b4,i,none⟩ (.int .u32 (y : Nat))) [(g,176,D8 zs ++ J),(b4,176,D8 (qs.set i y))] ∧ A3 w (u.setCell ⟨b4,i,none⟩ (.int .u32 (y : Nat))):=by
 have hBG:=hB.over hF hG 1 rfl i [.int .u32 (y : Nat)] rfl
 simp only [List.modify_succ_cons,List.modify_zero_cons,G6,A5y] at hBG
 exact hBG
theorem A0X {u : World} {g : Nat} {zs : List Nat} {J : Array Value} {l : List (Nat × TypeId × Array Value)} (hB : Bx u ((g,176,D8 zs ++ J) :: l)) {i : Nat} (hi : i < zs.length) : u.cell? ⟨g,i,none⟩ = some (.int .u32 (dg zs i : Nat)) ∧ u.frozen? ⟨g,i,none⟩ = false :=
 ⟨by rw [hB.head.cell,A7x zs J i hi],hB.head.frozen i⟩
theorem B0I {u : World} {g b4 : Nat} {zs qs : List Nat} {J : Array Value} (hB : Bx u [(g,176,D8 zs ++ J),(b4,176,D8 qs)]) {i : Nat} (hi : i < qs.length) : u.cell? ⟨b4,i,none⟩ = some (.int .u32 (dg qs i : Nat)) ∧ u.frozen? ⟨b4,i,none⟩ = false:=by
 have hb : Blk u b4 176 (D8 qs):=hB.tail.head
 refine ⟨?_,hb.frozen i⟩
 rw [hb.cell,A3s,List.getElem?_eq_getElem hi,D3 hi]
 rfl
theorem B4I {u : World} {x : Ax} {a : Nat} (hx : Rn u x a) (h0 : a ≠ 0) : ∃ b o,x.1 = some ⟨b,o,none⟩ ∧ b < u.heap.size ∧ ∀ W,A3 u W → ∀ i,i < ln a → W.cell? ⟨b,o + i,none⟩ = some (.int .u32 (dg (A7 W32 a) i : Nat)):=by
 have hl:=A0s.2 h0
 obtain ⟨b,o,cs,fr,e,hb,hc⟩:=hx.1 (fun e=>by unfold ln at hl;rw [e] at hl;cases hl)
 refine ⟨b,o,e,Q8 hb,fun W hg i hi=>?_⟩
 obtain ⟨b',o',e',h⟩:=(hx.grow hg).1.cell (i:=i) hi
 rw [e] at e'
 cases e'
 exact h
theorem A77 {W n : Nat} {l : List Nat} (hW : 0 < W) (hv : Dig W l) (h : l.length ≤ n) : val W (l.take n) = val W l:=by rw [List.take_of_length_le h]
theorem B1y (x y : Ax) (a b : Nat) (w : World) (hx : Rn w x a) (hy : Rn w y b) (hle : b ≤ a) (h2 : 2 ≤ ln b) (ha : bl a ≤ 1099511627520) : Calls Tryz.prog 141 #[nvV x a,nvV y b] w (Ret (nnR (a / b) (a % b)) w):=by
 have hcmp:=A4X x y a b w hx hy
 have hcz : decide (E6 a b < 0) = false:=by unfold E6;rw [if_neg (by omega)];split <;> rfl
 have hb : bl b ≤ 1099511627520:=Nat.le_trans (N8 hle) ha
 obtain ⟨n1,hn1⟩ : ∃ n1,ln b = n1 + 1:=⟨ln b - 1,by omega⟩
 obtain ⟨n2,hn2⟩ : ∃ n2,n1 = n2 + 1:=⟨n1 - 1,by omega⟩
 obtain ⟨s,hs⟩ : ∃ s,s = 32 * ln b - bl b:=⟨_,rfl⟩
 obtain ⟨s32,hbs,hlV,hVlt,hVge,hVtop⟩:=B4n hn1 hs
 obtain ⟨V,hV⟩ : ∃ V,V = b * 2 ^ s:=⟨_,rfl⟩
 obtain ⟨X,hX⟩ : ∃ X,X = a * 2 ^ s:=⟨_,rfl⟩
 rw [← hV] at hlV hVlt hVge hVtop
 have hb0 : b ≠ 0:=by intro e;rw [e,A5W] at h2;omega
 have hX0 : X ≠ 0:=by rw [hX];exact Nat.ne_of_gt (Nat.mul_pos (by omega) (Nat.two_pow_pos _))
 have hV0 : V ≠ 0:=by rw [hV];exact Nat.ne_of_gt (Nat.mul_pos (by omega) (Nat.two_pow_pos _))
 have hXb : bl X ≤ 1099511627552:=by
  rw [hX]
  have h1:=P5 a (2 ^ s)
  have h3 : bl (2 ^ s) ≤ s + 1:=J9.2 (by rw [Nat.pow_succ];have := Nat.two_pow_pos s;omega)
  omega
 have hXl:=A2N X
 have hVX : V ≤ X:=by rw [hV,hX];exact Nat.mul_le_mul_right _ hle
 have hVXl:=A7C hVX
 rw [hlV] at hVXl
 have hlb:=A2N b
 obtain ⟨m,hm⟩ : ∃ m,m = ln X:=⟨_,rfl⟩
 obtain ⟨p,hp⟩ : ∃ p,p = ln a:=⟨_,rfl⟩
 obtain ⟨n,hn⟩ : ∃ n,n = n1 + 1:=⟨_,rfl⟩
 obtain ⟨B,hB⟩ : ∃ B,B = bl b:=⟨_,rfl⟩
 obtain ⟨V1,hV1⟩ : ∃ v,v = dg (A7 W32 V) n1:=⟨_,rfl⟩
 obtain ⟨V0,hV0e⟩ : ∃ v,v = dg (A7 W32 V) n2:=⟨_,rfl⟩
 have v1W : V1 < 4294967296:=by rw [hV1];exact dgl V n1
 have v0W : V0 < 4294967296:=by rw [hV0e];exact dgl V n2
 rw [← hV1] at hVtop
 rw [← hn] at hn1 hlV hVlt hVXl
 rw [← hm] at hVXl hXl
 obtain ⟨A1,c1⟩:=x
 obtain ⟨A2,c2⟩:=y
 have hbits : ∀ W,A3 w W → Calls Tryz.prog 178 #[.slice A2 n c2] W fun e w'=>e = .returned (.int .i64 B) ∧ A3 W w':=fun W hg=>by
  rw [← hn1,hB];exact A78 (A2,c2) b W (hy.grow hg) (by omega)
 have hsh1 : ∀ W,A3 w W → Calls Tryz.prog 179 #[.slice A2 n c2,.int .i64 s] W fun e w'=>∃ by_ oy cy : Nat,e = .returned (.slice (some ⟨by_,oy,none⟩) n cy) ∧ (∀ W',A3 w' W' → ∀ i,i < n → W'.cell? ⟨by_,oy + i,none⟩ = some (.int .u32 (dg (A7 W32 V) i : Nat))) ∧ A3 W w':=fun W hg=>by
  have := A5u (A2,c2) b s W (hy.grow hg) (by omega) (by omega)
  rw [← hV] at this
  rw [← hn1]
  refine this.mono fun e w' ⟨z,he,h1,h2⟩=>?_
  have h1 : Rn w' z V:=h1
  obtain ⟨b',o',e1,_,hc⟩:=B4I h1 hV0
  refine ⟨b',o',z.2,?_,fun W' hg' i hi=>hc W' hg' i (by omega),h2⟩
  rw [he,hn1,← hlV,← e1];rfl
 have hsh2 : ∀ W,A3 w W → Calls Tryz.prog 179 #[.slice A1 p c1,.int .i64 s] W fun e w'=>∃ z : Ax,e = .returned (.slice z.1 m z.2) ∧ Rn w' z X ∧ A3 W w':=fun W hg=>by
  have := A5u (A1,c1) a s W (hx.grow hg) (by omega) (by omega)
  rw [← hX] at this
  rw [hp]
  refine this.mono fun e w' ⟨z,he,h1,h2⟩=>⟨z,?_,h1,h2⟩
  rw [he,hm];rfl
 obtain ⟨M,hM⟩ : ∃ k,k = m + 2:=⟨_,rfl⟩
 obtain ⟨k0,hk0⟩ : ∃ k,k = M - n:=⟨_,rfl⟩
 have hmk:=A31 k0 (by omega) (k0 : Int) rfl
 have fk' : (M : Int) - (n : Int) = (k0 : Nat):=by omega
 have fk : IntKind.i64.wrap ((M : Int) - (n : Int)) = (k0 : Nat):=by rw [fk'];exact IntWalk.i64_in _ (by omega)
 have fk0 : IntKind.i64.wrap (k0 : Int) = (k0 : Int):=IntWalk.i64_in _ (by omega)
 have hk0b : k0 ≤ 34359738600:=by omega
 have fk1 : IntKind.i64.wrap ((k0 : Int) - 1) = (k0 : Int) - 1:=IntWalk.i64_in _ (by omega)
 have hcmp' : Calls Tryz.prog 87 #[.slice A1 p c1,.slice A2 n c2] w fun e w'=>e = .returned (.int .i64 (E6 a b)) ∧ A3 w w':=by
  rw [hp,← hn1];exact hcmp
 show Calls Tryz.prog 141 #[.slice A1 (ln a) c1,.slice A2 (ln b) c2] w _
 rw [← hp,hn1]
 obtain ⟨nn,hnn⟩ : ∃ nn,nn = 32 * n:=⟨_,rfl⟩
 have f1 : IntKind.i64.wrap (32 * (n : Int)) = (nn : Nat):=by rw [show 32 * (n : Int) = ((nn : Nat) : Int) by omega];exact IntWalk.i64_in _ (by omega)
 have f1' : 32 * (n : Int) = (nn : Nat):=by omega
 have f1'' : IntKind.i64.wrap (nn : Int) = (nn : Nat):=IntWalk.i64_in _ (by omega)
 have f2 : (nn : Int) - (B : Int) = (s : Nat):=by omega
 have f3 : IntKind.i64.wrap (s : Int) = (s : Nat):=IntWalk.i64_in _ (by omega)
 have fa : IntKind.i64.wrap ((n : Int) - 1) = (n1 : Nat):=by rw [show ((n : Int) - 1) = (n1 : Nat) by omega];exact IntWalk.i64_in _ (by omega)
 have fb : IntKind.i64.wrap ((n : Int) - 2) = (n2 : Nat):=by rw [show ((n : Int) - 2) = (n2 : Nat) by omega];exact IntWalk.i64_in _ (by omega)
 have hn1n : n1 < n:=by omega
 have hn2n : n2 < n:=by omega
 have hn1b : ((n : Int) == 1) = false:=by simp;omega
 have hapw:=fun (w1 w2 : World) (z : Ax) h1 h2 h3=>B4l (w:=w) (w1:=w1) (w2:=w2) (x:=z) (X:=X) hX0 h1 h2 h3 (by omega)
 rw [← hm] at hapw
 simp only [← hM] at hapw
 have hsd : ∀ (W : World) (z : Ax),Rn W z (a % b * 2 ^ s) → Calls Tryz.prog 179 #[.slice z.1 (ln (a % b * 2 ^ s)) z.2,.int .i64 (-(s : Int))] W (Ret (P4 (a % b)) W):=fun W z hz=>by
  have hbb : bl (a % b * 2 ^ s) ≤ 1099511627776:=by
   have h1:=P5 (a % b) (2 ^ s)
   have h3 : bl (2 ^ s) ≤ s + 1:=J9.2 (by rw [Nat.pow_succ];have := Nat.two_pow_pos s;omega)
   have h4:=N8 (Nat.mod_le a b)
   omega
  rcases Nat.eq_zero_or_pos s with h0 | h0
  ·rw [h0,Nat.pow_zero,Nat.mul_one] at hz hbb ⊢
   have := A5u z (a % b) 0 W hz hbb (by omega)
   rw [Nat.pow_zero,Nat.mul_one] at this
   exact this
  ·have := B6i z (a % b * 2 ^ s) s W hz hbb h0 s32
   rw [Nat.mul_div_cancel _ (Nat.two_pow_pos s)] at this
   exact this
 have Hsd:=Lib.hid hsd
 have Hapw:=Lib.hid hapw
 have Hcmp:=Lib.hid hcmp'
 have Hbits:=Lib.hid hbits
 have Hsh1:=Lib.hid hsh1
 have Hsh2:=Lib.hid hsh2
 have Hnum:=Lib.hid (And.intro hVlt (And.intro hVge (And.intro hV (And.intro hX hb0))))
 have HlV:=Lib.hid hlV
 have HV1:=Lib.hid hV1
 have HV0:=Lib.hid hV0e
 have Hm:=Lib.hid hm
 have HM:=Lib.hid hM
 have Hk0:=Lib.hid hk0
 have Hn:=Lib.hid hn
 have Hn2:=Lib.hid hn2
 have HMb : Hid (M ≤ 34359738600):=Lib.hid (by omega)
 have hnM : n + 2 ≤ M:=by omega
 clear hapw hcmp hcmp' hbits hsh1 hsh2 hVlt hVge hlV hV hX hm hk0 hn hs hbs hp hnn hn1 hX0 hXb hVX ha hb hx hy hB h2 hlb hle hV1 hV0e hV0 hb0 hM hn2 hsd hVXl hXl
 have hbs0:=B0u
 have hbs2:=B1h
 go_enter Tryz.func141,Tryz.ntmps141
 go_wp2_with (first
  | (at_builtin;refine A7X rfl (.tmp 54) (.tmp 57) 62 rfl rfl rfl hap1 ?_)
  | (at_builtin;refine A7X rfl (.tmp 58) (.tmp 59) 62 rfl rfl rfl hap2 ?_)
  | (go_at_call 87;((with_reducible refine (Hcmp.out).mono ?_);rintro e wa ⟨rfl,hga⟩;have HGa:=Lib.hid hga;clear hga))
  | (go_at_call 178;((with_reducible refine (Hbits.out _ HGa.out).mono ?_);rintro e wb ⟨rfl,hgb⟩;have HGb:=Lib.hid (HGa.out.trans hgb);clear hgb))
  | (go_at_call 179;first
    | ((with_reducible refine (Hsh1.out _ HGb.out).mono ?_);rintro e w1 ⟨by_,oy,cy,rfl,hy,hg1⟩;have Hy:=Lib.hid hy;have HG1:=Lib.hid (HGb.out.trans hg1);clear hy hg1)
    | ((with_reducible refine (Hsh2.out _ (HG1.out.trans (A3.alloc _ _))).mono ?_);rintro e w2 ⟨z,rfl,hz,hg2⟩;obtain ⟨v1,w3,hap1,g,cap,J,w4,hap2,hcap,hcap2,hJ,hG4,hg1b,hg4b,hG14⟩:=Hapw.out w1 w2 z HG1.out hg2 hz;have HJ:=Lib.hid hJ;have HG14:=Lib.hid hG14;have hcy1:=Hy.out w4 HG14.out n1 hn1n;have hcy2:=Hy.out w4 HG14.out n2 hn2n;rw [← HV1.out] at hcy1;rw [← HV0.out] at hcy2;clear hz hg2 hJ hG4 hG14)))
 clear hmk hap1 hap2 hcy1 hcy2
 have hst : DvI W32 V X k0 (A7 W32 X ++ [0,0]) (List.replicate k0 0):=B3f (n1:=n1) (by have := Hnum.out.2.1;have h1 : W32 ^ n1 * 1 ≤ W32 ^ n1 * 2147483648:=Nat.mul_le_mul_left _ (by omega);omega) (by have := Hm.out;have := HM.out;have := Hk0.out;have := Hn.out;omega)
 have hB3 : Bx (w4.alloc (.cells (D8 (List.replicate k0 0)) 176)) [(g,176,D8 (A7 W32 X ++ [0,0]) ++ J),(w4.heap.size,176,D8 (List.replicate k0 0))] :=
  Bx.cons (Blk.grow (A3.alloc _ _) HJ.out) (Bx.cons (Blk.new w4 176 _) (Bx.nil _))
 have hz4:=HG14.out.size
 have hF : Fr w1 [g,w4.heap.size]:=⟨fun b hb=>by
  simp only [List.mem_cons,List.not_mem_nil,or_false] at hb
  rcases hb with rfl | rfl <;> omega,by
  simp only [List.nodup_cons,List.mem_cons,List.not_mem_nil,or_false,not_or,not_false_eq_true,List.nodup_nil,and_true]
  omega⟩
 have hG3:=HG14.out.trans (A3.alloc w4 (.cells (D8 (List.replicate k0 0)) 176))
 have hlx : (A7 W32 X ++ [0,0]).length = M:=by rw [List.length_append,show (A7 W32 X).length = m from Hm.out.symm,HM.out];rfl
 have Hst:=Lib.hid (And.intro hst (And.intro hlx (And.intro (List.length_replicate (n:=k0) (a:=0)) (And.intro hB3 hG3))))
 clear hst hB3 hG3 hlx HJ HG14 Hapw Hsh1 Hsh2 Hbits Hcmp hbs0 hbs2 HGa HGb hz4 hg1b hg4b
 generalize w4.alloc _ = wq at Hst ⊢
 generalize w4.heap.size = b4 at Hst hF ⊢
 have hVd : Dig W32 (A7 W32 V):=F2 D9 V
 have HVd:=Lib.hid hVd
 clear hVd
 go_loopg [15] k0 (fun k i wr=>∃ (us qs : List Nat),k ≤ k0 ∧ i = .int .i64 ((k : Int) - 1) ∧ DvI W32 V X k us qs ∧ us.length = M ∧ qs.length = k0 ∧ Bx wr [(g,176,D8 us ++ J),(b4,176,D8 qs)] ∧ A3 w1 wr)
 case atStart=>exact ⟨_,_,Nat.le_refl _,rfl,Hst.out⟩
 case round =>
  clear Hst
  obtain ⟨us,qs,hk,rfl,hI,hul,hql,hB,hG⟩:=hrel
  obtain ⟨u,rfl⟩ : ∃ x,x = wr:=⟨_,rfl⟩
  have HI:=Lib.hid hI
  have Hul:=Lib.hid hul
  have Hql:=Lib.hid hql
  clear hI hul hql
  rcases Nat.eq_zero_or_pos gk with h0 | h0
  ·subst h0
   obtain ⟨-,-,hVe,hXe,hb0⟩:=Hnum.out
   have hp2 : 0 < 2 ^ s:=Nat.two_pow_pos _
   have hVp : 0 < V:=by rw [hVe];exact Nat.mul_pos (Nat.pos_of_ne_zero hb0) hp2
   obtain ⟨dn1,dn2⟩:=HI.out.done hVp
   rw [hXe,hVe] at dn1 dn2
   rw [Nat.mul_div_mul_right _ _ hp2] at dn1
   rw [Nat.mul_mod_mul_right] at dn2
   have hsd:=Hsd.out
   obtain ⟨R,hR⟩ : ∃ R,R = a % b * 2 ^ s:=⟨_,rfl⟩
   rw [← hR] at dn2 hsd
   have hMb:=HMb.out
   have htq:=B2j hG hB.tail.head Hql.out HI.out.2.1 dn1 (by omega)
   have hrq:=B3x hB.tail.head Hql.out HI.out.2.1 dn1 (by omega)
   have hL : Lim u (some ⟨g,0,none⟩) us:=fun _=>⟨g,0,D8 us ++ J,(0,0),rfl,hB.head,fun i x hi=>by
    have hil : i < us.length:=(List.getElem?_eq_some_iff.1 hi).1
    rw [Nat.zero_add,A7x us J i hil]
    unfold dg
    rw [hi]
    rfl⟩
   have htx : ∀ W,A3 u W → Calls Tryz.prog 142 #[.slice (some ⟨g,0,none⟩) M cap] W fun e w'=>e = .returned (.slice (some ⟨g,0,none⟩) (ln R) cap) ∧ Rn w' (some ⟨g,0,none⟩,cap) R ∧ A3 W w':=fun W hg=>by
    have h1:=A1I (some ⟨g,0,none⟩) us cap W (hL.grow hg) (by rw [Hul.out];exact hcap) (by unfold maxLen at hcap2;omega)
    rw [Hul.out] at h1
    refine h1.mono fun e w' ⟨he,hg'⟩=>?_
    obtain ⟨hr,hlen⟩:=A4U (A:=some ⟨g,0,none⟩) (c:=cap) (hL.grow (hg.trans hg')) HI.out.1 dn2 (by rw [Hul.out];exact hcap) (by unfold maxLen at hcap2;omega) (by rw [Hul.out];omega)
    rw [hlen] at he
    exact ⟨he,hr,hg'⟩
   obtain ⟨Q,hQ⟩ : ∃ Q,Q = a / b:=⟨_,rfl⟩
   rw [← hQ] at htq hrq
   have fneg : IntKind.i64.wrap (-(s : Int)) = -(s : Int):=IntWalk.i64_in _ (by omega)
   have Htq:=Lib.hid htq
   have Htx:=Lib.hid htx
   have Hrq:=Lib.hid hrq
   have HG:=Lib.hid hG
   have Hsd':=Lib.hid (fun W h=>hsd W (some ⟨g,0,none⟩,cap) h)
   have HQ:=Lib.hid hQ
   clear htq htx hrq hG hsd dn1 dn2 hR hQ hXe hVe hb0 hVp hL hp2 hB Hsd
   have hc : decide ((0 : Int) ≤ ((0 : Nat) : Int) - 1) = false:=by decide
   go_wp2_with (first
    | (go_at_call 142;first
      | ((with_reducible refine (Htq.out _ (A3.refl _)).mono ?_);rintro e w5 ⟨rfl,hg5⟩)
      | ((with_reducible refine (Htx.out _ hg5).mono ?_);rintro e w6 ⟨rfl,hr6,hg6⟩))
    | (go_at_call 179;((with_reducible refine (Hsd'.out _ hr6).mono ?_);rintro e w7 ⟨z7,rfl,hz7,hg7⟩)))
   go_ret2
   exact ⟨((some ⟨b4,0,none⟩,k0),z7),by rw [← HQ.out];rfl,⟨by rw [← HQ.out];exact Hrq.out.grow (hg5.trans (hg6.trans hg7)),hz7⟩,HG1.out.trans (HG.out.trans (hg5.trans (hg6.trans hg7)))⟩
  ·obtain ⟨j,hj⟩ : ∃ j,gk = j + 1:=⟨gk - 1,by omega⟩
   subst hj
   have hVd:=HVd.out
   have hI' : DvI W32 (val W32 (A7 W32 V)) X (j + 1) us qs:=by rw [D5 D9];exact HI.out
   have hvW : val W32 (A7 W32 V) < W32 ^ (n2 + 2):=by
    rw [D5 D9]
    have := Hnum.out.1
    rw [Hn.out,Hn2.out] at this
    exact this
   obtain ⟨d1,d2,d3,d4,d5⟩:=DvI.top' E0 hI' hVd hvW
   have hpre:=A8o E0 d1 hVd d2 d3 d4
   have hv1p : 0 < dg (A7 W32 V) (n2 + 1):=by rw [← Hn2.out,← HV1.out];omega
   have hgok:=fun g=>A9A (g:=g) E0 d1 hVd d2 d3 hv1p d4
   rw [← A2m E0 HI.out.1] at hgok
   rw [D5 D9] at hgok
   simp only [A0L] at hpre hgok
   have hkk : j + n < M:=by have := Hk0.out;omega
   obtain ⟨J2,hJ2⟩ : ∃ J,J = j + (n2 + 2):=⟨_,rfl⟩
   obtain ⟨J1,hJ1⟩ : ∃ J,J = j + (n2 + 1):=⟨_,rfl⟩
   obtain ⟨J0,hJ0⟩ : ∃ J,J = j + n2:=⟨_,rfl⟩
   have hJn : J2 = j + n:=by rw [hJ2,Hn.out,Hn2.out]
   have hJn1 : J1 + 1 = j + n:=by rw [hJ1,Hn.out,Hn2.out];omega
   have hJn0 : J0 + 2 = j + n:=by rw [hJ0,Hn.out,Hn2.out];omega
   rw [← hJ2] at hpre
   simp only [← hJ2,← hJ1,← hJ0] at hgok
   rw [← Hn2.out] at hpre hgok
   simp only [← HV1.out,← HV0.out] at hpre hgok
   have g2:=(A0X hB (i:=J2) (by rw [Hul.out];omega)).1
   have g1:=(A0X hB (i:=J1) (by rw [Hul.out];omega)).1
   have g0:=(A0X hB (i:=J0) (by rw [Hul.out];omega)).1
   have u2W:=B9 E0 HI.out.1 J2
   have u1W:=B9 E0 HI.out.1 J1
   have u0W:=B9 E0 HI.out.1 J0
   obtain ⟨U2,hU2⟩ : ∃ x,x = dg us J2:=⟨_,rfl⟩
   obtain ⟨U1,hU1⟩ : ∃ x,x = dg us J1:=⟨_,rfl⟩
   obtain ⟨U0,hU0⟩ : ∃ x,x = dg us J0:=⟨_,rfl⟩
   rw [← hU2] at g2 u2W hpre
   rw [← hU1] at g1 u1W
   rw [← hU0] at g0 u0W
   simp only [← hU2,← hU1,← hU0] at hgok
   have hgj:=GJ.start (W:=W32) (u2:=U2) (u1:=U1) (u0:=U0) (v1:=V1) (v0:=V0) E0 hpre (by unfold W32;omega) v1W u1W u0W
   unfold W32 at u2W u1W u0W
   obtain ⟨M2,hM2⟩ : ∃ m,m = U2 * 4294967296:=⟨_,rfl⟩
   obtain ⟨X2,hX2⟩ : ∃ m,m = M2 + U1:=⟨_,rfl⟩
   have hX2e : U2 * W32 + U1 = X2:=by rw [hX2,hM2];rfl
   rw [hX2e] at hgj
   have e1 : IntKind.u64.wrap ((U2 : Int) * 4294967296) = (M2 : Int):=by rw [show (U2 : Int) * 4294967296 = ((M2 : Nat) : Int) by omega];exact C5 (by omega)
   have e1b : (U2 : Int) * 4294967296 = (M2 : Int):=by omega
   have e1c : IntKind.u64.wrap (M2 : Int) = (M2 : Int):=C5 (by omega)
   have e2 : bits BinOp.or IntKind.u64 (M2 : Int) (U1 : Int) = (X2 : Nat):=by rw [u64_or_nat M2 U1 (by omega) (by omega),A1z (s:=32) (by omega) (by rw [hM2];exact Nat.dvd_mul_left _ _),hX2]
   obtain ⟨q0,hq0⟩ : ∃ q,q = X2 / V1:=⟨_,rfl⟩
   obtain ⟨r0,hr0⟩ : ∃ q,q = X2 % V1:=⟨_,rfl⟩
   rw [← hq0,← hr0] at hgj
   have e3 : ((X2 : Nat) : Int).tdiv (V1 : Int) = ((q0 : Nat) : Int):=by rw [hq0];rfl
   have e4 : ((X2 : Nat) : Int).tmod (V1 : Int) = ((r0 : Nat) : Int):=by rw [hr0];rfl
   have e3' : ((X2 : Nat) : Int) / (V1 : Int) = ((q0 : Nat) : Int):=by rw [hq0];rfl
   have e4' : ((X2 : Nat) : Int) % (V1 : Int) = ((r0 : Nat) : Int):=by rw [hr0];rfl
   have hq0W : q0 ≤ 4294967297:=hgj.1
   have hr0W : r0 < 4294967296:=hgj.2.1
   have e5 : IntKind.u64.wrap (q0 : Int) = (q0 : Int):=C5 (by omega)
   have e6 : IntKind.u64.wrap (r0 : Int) = (r0 : Int):=C5 (by omega)
   have a2 : (j : Int) + (n : Int) = (J2 : Int):=by omega
   have a1 : (J2 : Int) - 1 = (J1 : Int):=by omega
   have a0 : (J2 : Int) - 2 = (J0 : Int):=by omega
   have b2' : IntKind.i64.wrap (J2 : Int) = (J2 : Int):=IntWalk.i64_in _ (by have := HMb.out;omega)
   have b1 : IntKind.i64.wrap (J1 : Int) = (J1 : Int):=IntWalk.i64_in _ (by have := HMb.out;omega)
   have b0 : IntKind.i64.wrap (J0 : Int) = (J0 : Int):=IntWalk.i64_in _ (by have := HMb.out;omega)
   have hb2 : J2 < M:=by omega
   have hb1 : J1 < M:=by omega
   have hb0 : J0 < M:=by omega
   have hv1pos : 0 < V1:=by omega
   have HJ2:=Lib.hid hJn
   have Hgok:=Lib.hid hgok
   have Hgj:=Lib.hid hgj
   have Hd5:=Lib.hid d5
   have HB:=Lib.hid hB
   have HG:=Lib.hid hG
   have ej : ((j + 1 : Nat) : Int) - 1 = (j : Nat):=by omega
   rw [ej]
   have hj0 : decide ((0 : Int) ≤ (j : Int)) = true:=by simp
   have hg0all : ∀ W,A3 u W → W.cell? ⟨g,J0,none⟩ = some (.int .u32 (U0 : Nat)):=fun W hg=>(hg.cell (p:=⟨g,J0,none⟩) hB.head.lt).trans g0
   have Hg0:=Lib.hid hg0all
   have Hpre:=Lib.hid hpre
   clear hg0all hgok hgj d1 d2 d3 d4 d5 hpre hJ2 hJ1 hJ0 hJn hJn1 hJn0 hU2 hU1 hU0 hM2 hX2 hX2e hq0 hr0 hVd hI' hvW hv1p hB hG ej
   go_wp2_with fail
   go_quiet (fail)
   go_upto_block 2 with fail
   have hB1:=HB.out.grow (O1 u nq)
   have hG1:=HG.out.trans (O1 u nq)
   have hg0:=Hg0.out _ (O1 u nq)
   generalize u.drewN nq = u1 at hB1 hG1 hg0 ⊢
   clear HB HG Hg0 g2 g1 g0 e1 e1b e1c e2 e3 e4 e3' e4' e5 e6
   have HB:=Lib.hid hB1
   have HG:=Lib.hid hG1
   clear hB1 hG1
   go_cut [17,18] (fun s17 s18 wx=>∃ g' : Nat,s17 = .int .u64 g' ∧ GW W32 U2 U1 U0 V1 V0 g' ∧ wx = u1)
   case first =>
    go_wp2_with fail
    go_loopg [17,18] q0 (fun k s17 s18 wr=>∃ r : Nat,s17 = .int .u64 k ∧ s18 = .int .u64 r ∧ GJ W32 U2 U1 U0 V1 V0 k r ∧ wr = u1)
    case atStart=>exact ⟨r0,rfl,rfl,Hgj.out,rfl⟩
    case round =>
     obtain ⟨r,rfl,rfl,hgj,rfl⟩:=hrel
     have hgle : gk ≤ 4294967297:=hgj.1
     have hrW : r < 4294967296:=hgj.2.1
     obtain ⟨r2,hr2⟩ : ∃ x,x = r + V1:=⟨_,rfl⟩
     have fr : IntKind.u64.wrap ((r : Int) + (V1 : Int)) = (r2 : Int):=by rw [show (r : Int) + (V1 : Int) = ((r2 : Nat) : Int) by omega];exact C5 (by omega)
     by_cases hbig : 4294967296 ≤ gk
     ·have hgb:=hgj.big hbig Hpre.out u1W v0W E0
      rw [← hr2] at hgb
      obtain ⟨k,hk⟩ : ∃ k,gk = k + 1:=⟨gk - 1,by omega⟩
      subst hk
      rw [Nat.add_sub_cancel] at hgb
      have Hgb:=Lib.hid hgb
      have c1 : decide ((4294967296 : Int) ≤ ((k + 1 : Nat) : Int)) = true:=by simp;omega
      have fg : IntKind.u64.wrap (((k + 1 : Nat) : Int) - 1) = (k : Int):=by rw [show ((k + 1 : Nat) : Int) - 1 = ((k : Nat) : Int) by omega];exact C5 (by omega)
      generalize hK : k + 1 = K at *
      have HK:=Lib.hid hK
      clear hgb hgj hr2 hK
      by_cases hov : 4294967296 ≤ r2
      ·have c2 : decide ((4294967296 : Int) ≤ (r2 : Int)) = true:=by simp;omega
       go_wp2_with fail
       go_meet
       exact ⟨k,rfl,Hgb.out.1 hov,rfl⟩
      ·have c2 : decide ((4294967296 : Int) ≤ (r2 : Int)) = false:=by simp;omega
       go_wp2_with fail
       go_roundg k
       case rel=>exact ⟨r2,rfl,rfl,Hgb.out.2 (Nat.not_le.1 hov),rfl⟩
       case measure=>have := HK.out;omega
     ·have hgW : gk < 4294967296:=Nat.not_le.1 hbig
      have c1 : decide ((4294967296 : Int) ≤ (gk : Int)) = false:=by simp;omega
      have c2 : decide ((r : Int) < 4294967296) = true:=by simp;omega
      obtain ⟨P,hP⟩ : ∃ m,m = gk * V0:=⟨_,rfl⟩
      have hPb : P ≤ 4294967295 * 4294967295:=by rw [hP];exact Nat.mul_le_mul (by omega) (by omega)
      have fm : IntKind.u64.wrap ((gk : Int) * (V0 : Int)) = (P : Int):=by rw [show (gk : Int) * (V0 : Int) = ((P : Nat) : Int) by rw [hP];simp];exact C5 (by omega)
      obtain ⟨S0,hS0⟩ : ∃ m,m = r * 4294967296:=⟨_,rfl⟩
      obtain ⟨S,hS⟩ : ∃ m,m = S0 + U0:=⟨_,rfl⟩
      have fs : IntKind.u64.wrap ((r : Int) * 4294967296) = (S0 : Int):=by rw [show (r : Int) * 4294967296 = ((S0 : Nat) : Int) by omega];exact C5 (by omega)
      have fsb : (r : Int) * 4294967296 = (S0 : Int):=by omega
      have fsc : IntKind.u64.wrap (S0 : Int) = (S0 : Int):=C5 (by omega)
      have fo : bits BinOp.or IntKind.u64 (S0 : Int) (U0 : Int) = (S : Nat):=by rw [u64_or_nat S0 U0 (by omega) (by omega),A1z (s:=32) (by omega) (by rw [hS0];exact Nat.dvd_mul_left _ _),hS]
      have hSe : r * W32 + U0 = S:=by rw [hS,hS0];rfl
      by_cases hst : gk * V0 ≤ r * W32 + U0
      ·have hfin:=hgj.stop hgW hst
       rw [← hP,hSe] at hst
       have c3 : decide (S < P) = false:=by simp;omega
       have Hfin:=Lib.hid hfin
       clear hfin hgj hP hPb hS0 hS hSe hr2
       go_wp2_with fail
       go_meet
       exact ⟨gk,rfl,Hfin.out,rfl⟩
      ·obtain ⟨hgp,hgb⟩:=hgj.less hgW hst v0W
       rw [← hP,hSe] at hst
       rw [← hr2] at hgb
       obtain ⟨k,hk⟩ : ∃ k,k = gk - 1:=⟨_,rfl⟩
       have fg : IntKind.u64.wrap ((gk : Int) - 1) = (k : Int):=by rw [show (gk : Int) - 1 = ((k : Nat) : Int) by omega];exact C5 (by omega)
       rw [← hk] at hgb
       have hkg : k < gk:=by omega
       have c3 : decide (S < P) = true:=by simp;omega
       have Hgb:=Lib.hid hgb
       clear hgb hgj hP hPb hS0 hS hSe hr2 hk
       by_cases hov : 4294967296 ≤ r2
       ·have c4 : decide ((4294967296 : Int) ≤ (r2 : Int)) = true:=by simp;omega
        go_wp2_with fail
        go_meet
        exact ⟨k,rfl,Hgb.out.1 hov,rfl⟩
       ·have c4 : decide ((4294967296 : Int) ≤ (r2 : Int)) = false:=by simp;omega
        go_wp2_with fail
        go_roundg k
        case rel=>exact ⟨r2,rfl,rfl,Hgb.out.2 (Nat.not_le.1 hov),rfl⟩
        case measure=>exact hkg
   case rest =>
    obtain ⟨g',rfl,hgw,rfl⟩:=hcut
    have hgW : g' < 4294967296:=hgw.1
    have hcase:=Hgok.out g' hgw
    have Hcase:=Lib.hid hcase
    clear hcase hgw Hgok Hgj Hpre hg0
    go_wp2_with fail
    have hnb : n ≤ 34359738600:=by have := HMb.out;omega
    go_loopw [19,20,21] (fun x y t wr=>∃ (i cy br : Nat) (zs : List Nat),i ≤ n ∧ t = .int .i64 i ∧ x = .int .u64 cy ∧ y = .int .u64 br ∧ DvM W32 j g' (A7 W32 V) us i cy br zs ∧ Bx wr [(g,176,D8 zs ++ J),(b4,176,D8 qs)] ∧ A3 w1 wr) (fun _ _ t _=>n - (intOf t).toNat)
    case atStart=>exact ⟨0,0,0,us,Nat.zero_le _,rfl,rfl,rfl,DvM.start E0 HI.out.1,HB.out,HG.out⟩
    case round =>
     clear HB HG
     obtain ⟨i,cy,br,zs,hi,rfl,rfl,rfl,hM,hB,hG⟩:=hrel
     obtain ⟨u2,rfl⟩ : ∃ x,x = wr:=⟨_,rfl⟩
     have hcyW : cy < 4294967296:=hM.2.2.2.2.1
     have hbr : br ≤ 1:=hM.2.2.2.2.2
     have hzl:=hM.1
     rw [Hul.out] at hzl
     have HDm:=Lib.hid hM
     have HB:=Lib.hid hB
     have HG:=Lib.hid hG
     clear hM
     rcases Nat.lt_or_ge i n with hin | hin
     ·have hJI : j + i < M:=by omega
      obtain ⟨q1,q2⟩:=A0X hB (i:=j + i) (by omega)
      have q3:=Hy.out u2 hG i hin
      rw [HDm.out.2.2.1 (j + i) (Nat.le_refl _)] at q1
      have hnx:=HDm.out.next E0 hgW HVd.out HI.out.1 (by rw [Hul.out];exact hJI)
      have hxW:=dgl V i
      have huW : dg us (j + i) < 4294967296:=B9 E0 HI.out.1 (j + i)
      obtain ⟨x,hx⟩ : ∃ x,x = dg (A7 W32 V) i:=⟨_,rfl⟩
      obtain ⟨uu,huu⟩ : ∃ x,x = dg us (j + i):=⟨_,rfl⟩
      rw [← hx] at q3 hnx hxW
      rw [← huu] at q1 hnx huW
      obtain ⟨mw1,mw2⟩:=B3V (g:=g') (x:=x) (cy:=cy) E0
      rw [mw1,mw2] at hnx
      obtain ⟨P,hP⟩ : ∃ m,m = g' * x:=⟨_,rfl⟩
      have hPb : P ≤ 4294967295 * 4294967295:=by rw [hP];exact Nat.mul_le_mul (by omega) (by omega)
      obtain ⟨S,hS⟩ : ∃ s,s = cy + P:=⟨_,rfl⟩
      rw [← hP,← hS] at hnx
      obtain ⟨lo,hlo⟩ : ∃ s,s = S % W32:=⟨_,rfl⟩
      obtain ⟨cy',hcy'⟩ : ∃ s,s = S / W32:=⟨_,rfl⟩
      rw [← hlo,← hcy'] at hnx
      unfold W32 at hlo hcy'
      obtain ⟨br',hbr'⟩ : ∃ q : Nat,q = (if uu < lo + br then 1 else 0):=⟨_,rfl⟩
      obtain ⟨z,hz⟩ : ∃ q,q = (uu + W32 - lo - br) % W32:=⟨_,rfl⟩
      rw [← hbr',← hz] at hnx
      unfold W32 at hz
      obtain ⟨s1,hs1⟩ : ∃ s : Nat,(s : Int) = ((uu : Int) - (lo : Int)) % 18446744073709551616:=⟨(((uu : Int) - (lo : Int)) % 18446744073709551616).toNat,by omega⟩
      obtain ⟨s2,hs2⟩ : ∃ s : Nat,(s : Int) = ((s1 : Int) - (br : Int)) % 18446744073709551616:=⟨(((s1 : Int) - (br : Int)) % 18446744073709551616).toNat,by omega⟩
      have hz2 : s2 % 4294967296 = z:=by omega
      have hb2' : s2 / 9223372036854775808 = br':=by rw [hbr'];split <;> omega
      have fm : IntKind.u64.wrap ((g' : Int) * (x : Int)) = (P : Int):=by rw [show (g' : Int) * (x : Int) = ((P : Nat) : Int) by rw [hP];simp];exact C5 (by omega)
      have fS : IntKind.u64.wrap ((cy : Int) + (P : Int)) = (S : Int):=by rw [show (cy : Int) + (P : Int) = ((S : Nat) : Int) by omega];exact C5 (by omega)
      have fl : bits BinOp.and IntKind.u64 (S : Int) 4294967295 = (lo : Nat):=by
       rw [show (4294967295 : Int) = ((4294967295 : Nat) : Int) from rfl,u64_and_nat _ _ (by omega) (by omega),hlo]
       exact congrArg _ (Nat.and_two_pow_sub_one_eq_mod S 32)
      have f1 : IntKind.u64.wrap ((uu : Int) - (lo : Int)) = (s1 : Int):=by rw [IntKind.wrap_u64];exact hs1.symm
      have f2 : IntKind.u64.wrap ((s1 : Int) - (br : Int)) = (s2 : Int):=by rw [IntKind.wrap_u64];exact hs2.symm
      have f3 : (s2 : Int) % 4294967296 = (z : Int):=by omega
      have f3' : IntKind.u32.wrap (s2 : Int) = (z : Int):=by rw [← f3];simp [IntKind.wrap,IntKind.signed,IntKind.bits]
      have f4 : (s2 : Int) / 9223372036854775808 = (br' : Int):=by omega
      have f5 : (S : Int) / 4294967296 = (cy' : Int):=by omega
      have f6 : IntKind.u64.wrap (uu : Int) = (uu : Int):=C5 (by omega)
      have f7 : IntKind.u64.wrap (x : Int) = (x : Int):=C5 (by omega)
      obtain ⟨JI,hJe⟩ : ∃ J,J = j + i:=⟨_,rfl⟩
      rw [← hJe] at q1 q2 hJI hnx
      have fJ0 : (j : Int) + (i : Int) = (JI : Int):=by omega
      have fJ : IntKind.i64.wrap ((j : Int) + (i : Int)) = (JI : Int):=by rw [fJ0];exact IntWalk.i64_in _ (by have := HMb.out;omega)
      have fJw : IntKind.i64.wrap (JI : Int) = (JI : Int):=IntWalk.i64_in _ (by have := HMb.out;omega)
      have Hnx:=Lib.hid hnx
      have hJz : JI < zs.length:=by omega
      have hbx:=Lib.hid (A2t hB hF hG JI z hJz)
      have hdi : decide ((i : Int) < (n : Int)) = true:=by simp;omega
      have Hin:=Lib.hid hin
      clear hnx hx huu mw1 mw2 hP hPb hS hlo hcy' hbr' hz hs1 hs2 hz2 hb2' hJe hB hG HB HG hJz
      go_wp2_with fail
      go_roundw
      case rel=>exact ⟨i + 1,cy',br',zs.set JI z,Hin.out,by go_num,rfl,rfl,Hnx.out,hbx.out.1,hbx.out.2⟩
      case measure=>have := Hin.out;simp [intOf];omega
     ·obtain rfl : i = n:=by omega
      have hJ : j + i < us.length:=by rw [Hul.out];exact hkk
      have hvn : val W32 ((A7 W32 V).take i) = val W32 (A7 W32 V):=A77 E0 HVd.out (Nat.le_of_eq HlV.out)
      have hls:=HDm.out.last E0 HI.out.1 hJ hvn
      rw [D5 D9] at hls
      obtain ⟨q1,q2⟩:=A0X hB (i:=j + i) (by omega)
      rw [HDm.out.2.2.1 (j + i) (Nat.le_refl _)] at q1
      have huW : dg us (j + i) < 4294967296:=B9 E0 HI.out.1 (j + i)
      obtain ⟨uu,huu⟩ : ∃ x,x = dg us (j + i):=⟨_,rfl⟩
      rw [← huu] at q1 hls huW
      obtain ⟨z,hz⟩ : ∃ q,q = (uu + W32 - cy - br) % W32:=⟨_,rfl⟩
      rw [← hz] at hls
      unfold W32 at hz
      rw [← HJ2.out] at q1 q2 hls
      obtain ⟨s1,hs1⟩ : ∃ s : Nat,(s : Int) = ((uu : Int) - (cy : Int)) % 18446744073709551616:=⟨(((uu : Int) - (cy : Int)) % 18446744073709551616).toNat,by omega⟩
      obtain ⟨s2,hs2⟩ : ∃ s : Nat,(s : Int) = ((s1 : Int) - (br : Int)) % 18446744073709551616:=⟨(((s1 : Int) - (br : Int)) % 18446744073709551616).toNat,by omega⟩
      have f1 : IntKind.u64.wrap ((uu : Int) - (cy : Int)) = (s1 : Int):=by rw [IntKind.wrap_u64];exact hs1.symm
      have f2 : IntKind.u64.wrap ((s1 : Int) - (br : Int)) = (s2 : Int):=by rw [IntKind.wrap_u64];exact hs2.symm
      have f3 : (s2 : Int) % 4294967296 = (z : Int):=by omega
      have f3' : IntKind.u32.wrap (s2 : Int) = (z : Int):=by rw [← f3];simp [IntKind.wrap,IntKind.signed,IntKind.bits]
      have f6 : IntKind.u64.wrap (uu : Int) = (uu : Int):=C5 (by omega)
      have hJ2z : J2 < zs.length:=by omega
      have hb:=A2t hB hF hG J2 z hJ2z
      obtain ⟨ys,hys⟩ : ∃ y,y = zs.set J2 z:=⟨_,rfl⟩
      rw [← hys] at hls hb
      obtain ⟨y1,y2,y3,y4⟩:=hls
      have hjk : j < qs.length:=by rw [Hql.out];omega
      obtain ⟨q5,q6⟩:=B0I hb.1 (i:=j) hjk
      have hV0 : 0 < V:=by
       obtain ⟨-,-,hVe,-,hb0'⟩:=Hnum.out
       rw [hVe]
       exact Nat.mul_pos (Nat.pos_of_ne_zero hb0') (Nat.two_pow_pos _)
      have hdi : decide ((i : Int) < (i : Int)) = false:=by simp
      have hjk0 : j < k0:=by omega
      have Hy3:=Lib.hid (And.intro y1 (And.intro y2 y3))
      have Hb:=Lib.hid hb
      have hylen : ys.length = M:=by rw [y1];exact Hul.out
      by_cases huc : uu < cy + br
      ·rw [if_pos huc] at y4
       have f4 : (s2 : Int) / 9223372036854775808 = 1:=by omega
       have hd5n : ∀ t,j + i + 1 ≤ t → dg us t = 0:=fun t ht=>Hd5.out t (by have := Hn.out;have := Hn2.out;omega)
       have hylt : val W32 ys < W32 ^ (j + i + 1):=A1W E0 y2 fun t ht=>by
        rw [y3 t (by rw [HJ2.out];exact ht)]
        exact hd5n t ht
       have hgp:=A89 hylt (by rw [← HJ2.out];exact y4)
       obtain ⟨g1,hg1⟩ : ∃ q,g' = q + 1:=⟨g' - 1,by omega⟩
       have fg : IntKind.u64.wrap ((g' : Int) - 1) = (g1 : Nat):=by rw [show ((g' : Int) - 1) = (g1 : Nat) by omega];exact C5 (by omega)
       have hg1W : g1 < 4294967296:=by omega
       have fg1 : IntKind.u32.wrap (g1 : Int) = (g1 : Int):=by simp [IntKind.wrap,IntKind.signed,IntKind.bits];omega
       have fg1' : (g1 : Int) % 4294967296 = (g1 : Int):=by omega
       have Hylt:=Lib.hid hylt
       have Hy4:=Lib.hid y4
       have HV0p:=Lib.hid hV0
       have Hg1:=Lib.hid hg1
       have Hd5n:=Lib.hid hd5n
       clear hd5n hylt hgp hg1 y1 y2 y3 y4 hb hys hz hs1 hs2 huu hvn hB hG HB HG HDm hJ hV0 hbr hJ2z hcyW
       go_wp2_with fail
       clear q1 q2 q5 q6 f1 f2 f3 f3' f4 f6 huc
       go_loopw [19,24] (fun x t wr=>∃ (p c : Nat) (zs : List Nat),p ≤ i ∧ t = .int .i64 p ∧ x = .int .u64 c ∧ DvA W32 j (A7 W32 V) ys p c zs ∧ Bx wr [(g,176,D8 zs ++ J),(b4,176,D8 qs)] ∧ A3 w1 wr) (fun _ t _=>i - (intOf t).toNat)
       case atStart=>exact ⟨0,0,ys,Nat.zero_le _,rfl,rfl,DvA.start Hy3.out.2.1,Hb.out.1,Hb.out.2⟩
       case round =>
        clear Hb u2
        obtain ⟨p,c,zs,hp,rfl,rfl,hA,hB,hG⟩:=hrel
        obtain ⟨u3,rfl⟩ : ∃ x,x = wr:=⟨_,rfl⟩
        have hc1 : c ≤ 1:=hA.2.2.2.2
        have hzl:=hA.1
        rw [hylen] at hzl
        have HA:=Lib.hid hA
        have HB:=Lib.hid hB
        have HG:=Lib.hid hG
        clear hA
        rcases Nat.lt_or_ge p i with hpi | hpi
        ·have hJP : j + p < M:=by omega
         obtain ⟨q1,q2⟩:=A0X hB (i:=j + p) (by omega)
         have q3:=Hy.out u3 hG p hpi
         rw [HA.out.2.2.1 (j + p) (Nat.le_refl _)] at q1
         have hnx:=HA.out.next E0 HVd.out Hy3.out.2.1 (by rw [hylen];exact hJP)
         have hxW:=dgl V p
         have hyW : dg ys (j + p) < 4294967296:=B9 E0 Hy3.out.2.1 (j + p)
         obtain ⟨x,hx⟩ : ∃ x,x = dg (A7 W32 V) p:=⟨_,rfl⟩
         obtain ⟨yy,hyy⟩ : ∃ x,x = dg ys (j + p):=⟨_,rfl⟩
         rw [← hx] at q3 hnx hxW
         rw [← hyy] at q1 hnx hyW
         obtain ⟨S1,hS1⟩ : ∃ s,s = c + yy:=⟨_,rfl⟩
         obtain ⟨S,hS⟩ : ∃ s,s = yy + x + c:=⟨_,rfl⟩
         rw [← hS] at hnx
         obtain ⟨z3,hz3⟩ : ∃ q,q = S % W32:=⟨_,rfl⟩
         obtain ⟨c3,hc3⟩ : ∃ q,q = S / W32:=⟨_,rfl⟩
         rw [← hz3,← hc3] at hnx
         unfold W32 at hz3 hc3
         have f1 : IntKind.u64.wrap ((c : Int) + (yy : Int)) = (S1 : Int):=by rw [show (c : Int) + (yy : Int) = ((S1 : Nat) : Int) by omega];exact C5 (by omega)
         have f2 : IntKind.u64.wrap ((S1 : Int) + (x : Int)) = (S : Int):=by rw [show (S1 : Int) + (x : Int) = ((S : Nat) : Int) by omega];exact C5 (by omega)
         have f3 : (S : Int) % 4294967296 = (z3 : Int):=by omega
         have f3' : IntKind.u32.wrap (S : Int) = (z3 : Int):=by rw [← f3];simp [IntKind.wrap,IntKind.signed,IntKind.bits]
         have f5 : (S : Int) / 4294967296 = (c3 : Int):=by omega
         have f6 : IntKind.u64.wrap (yy : Int) = (yy : Int):=C5 (by omega)
         have f7 : IntKind.u64.wrap (x : Int) = (x : Int):=C5 (by omega)
         obtain ⟨JP,hJe⟩ : ∃ J,J = j + p:=⟨_,rfl⟩
         rw [← hJe] at q1 q2 hJP hnx
         have fJ0 : (j : Int) + (p : Int) = (JP : Int):=by omega
         have fJ : IntKind.i64.wrap ((j : Int) + (p : Int)) = (JP : Int):=by rw [fJ0];exact IntWalk.i64_in _ (by have := HMb.out;omega)
         have fJw : IntKind.i64.wrap (JP : Int) = (JP : Int):=IntWalk.i64_in _ (by have := HMb.out;omega)
         have Hnx:=Lib.hid hnx
         have hJz : JP < zs.length:=by omega
         have hbx:=Lib.hid (A2t hB hF hG JP z3 hJz)
         have hdp : decide ((p : Int) < (i : Int)) = true:=by simp;omega
         have Hpi:=Lib.hid hpi
         clear hnx hx hyy hS1 hS hz3 hc3 hJe HB HG
         go_wp2_with fail
         go_quiet (fail)
         have hB1:=hB.grow (O1 u3 nq)
         have hG1:=hG.trans (O1 u3 nq)
         clear q1 q2 q3 hB hG hbx
         generalize u3.drewN nq = u4 at hB1 hG1 ⊢
         obtain ⟨q1,q2⟩:=A0X hB1 (i:=JP) hJz
         have hbx:=Lib.hid (A2t hB1 hF hG1 JP z3 hJz)
         clear hB1 hG1
         go_wp2_with fail
         go_roundw
         case rel=>exact ⟨p + 1,c3,zs.set JP z3,Hpi.out,by go_num,rfl,Hnx.out,hbx.out.1,hbx.out.2⟩
         case measure=>have := Hpi.out;simp [intOf];omega
        ·obtain rfl : p = i:=by omega
         have hJ : j + p < ys.length:=by rw [hylen];exact hkk
         have hla:=HA.out.last E0 hJ (A77 E0 HVd.out (Nat.le_of_eq HlV.out))
         rw [D5 D9] at hla
         obtain ⟨q1,q2⟩:=A0X hB (i:=j + p) (by omega)
         rw [HA.out.2.2.1 (j + p) (Nat.le_refl _)] at q1
         have hyW : dg ys (j + p) < 4294967296:=B9 E0 Hy3.out.2.1 (j + p)
         obtain ⟨yy,hyy⟩ : ∃ x,x = dg ys (j + p):=⟨_,rfl⟩
         rw [← hyy] at q1 hla hyW
         obtain ⟨S4,hS4⟩ : ∃ s,s = yy + c:=⟨_,rfl⟩
         rw [← hS4] at hla
         obtain ⟨z4,hz4⟩ : ∃ q,q = S4 % W32:=⟨_,rfl⟩
         rw [← hz4,← HJ2.out] at hla
         unfold W32 at hz4
         rw [← HJ2.out] at q1 q2
         have f1 : IntKind.u64.wrap ((yy : Int) + (c : Int)) = (S4 : Int):=by rw [show (yy : Int) + (c : Int) = ((S4 : Nat) : Int) by omega];exact C5 (by omega)
         have f3 : (S4 : Int) % 4294967296 = (z4 : Int):=by omega
         have f3' : IntKind.u32.wrap (S4 : Int) = (z4 : Int):=by rw [← f3];simp [IntKind.wrap,IntKind.signed,IntKind.bits]
         have f6 : IntKind.u64.wrap (yy : Int) = (yy : Int):=C5 (by omega)
         have hJ2z : J2 < zs.length:=by omega
         have hb:=A2t hB hF hG J2 z4 hJ2z
         obtain ⟨xs,hxs⟩ : ∃ y,y = zs.set J2 z4:=⟨_,rfl⟩
         rw [← hxs] at hla hb
         obtain ⟨x1,x2,x3,x4⟩:=hla
         have hjk : j < qs.length:=by rw [Hql.out];omega
         obtain ⟨q5,q6⟩:=B0I hb.1 (i:=j) hjk
         have hxlt : val W32 xs < W32 ^ (j + p + 1):=A1W E0 x2 fun t ht=>by
          rw [x3 t (by rw [HJ2.out];exact ht),Hy3.out.2.2 t (by rw [HJ2.out];exact ht)]
          exact Hd5n.out t ht
         have hVM : V * W32 ^ j ≤ W32 ^ (j + p + 1):=by
          refine Nat.le_trans (Nat.mul_le_mul_right _ (Nat.le_of_lt Hnum.out.1)) ?_
          rw [← Nat.pow_add]
          exact Nat.pow_le_pow_right E0 (by omega)
         have hv4:=Hy4.out
         rw [HJ2.out] at hv4 x4
         have hbk:=HI.out.back (n:=p) E0 HV0p.out hgW hjk Hcase.out hVM Hylt.out hv4 x2 hxlt x4
         have hbk2:=hbk.2
         rw [show g' - 1 = g1 by have := Hg1.out;omega] at hbk2
         have Hbk:=Lib.hid hbk2
         have Hb:=Lib.hid hb
         have Hx1:=Lib.hid x1
         have hdp : decide ((p : Int) < (p : Int)) = false:=by simp
         clear hbk hbk2 hv4 hVM hxlt x1 x2 x3 x4 hb hxs hS4 hz4 hyy hB hG HB HG hJ HA hJ2z
         go_wp2_with fail
         go_roundg j
         case rel =>
          have hb2:=A7M Hb.out.1 hF Hb.out.2 j g1
          exact ⟨xs,qs.set j g1,by omega,rfl,Hbk.out,by rw [Hx1.out];exact hylen,by rw [List.length_set];exact Hql.out,hb2.1,hb2.2⟩
         case measure=>omega
      ·rw [if_neg huc] at y4
       have f4 : (s2 : Int) / 9223372036854775808 = 0:=by omega
       have hfit:=HI.out.fit E0 hV0 hgW hjk Hcase.out y2 (by rw [y4,Nat.zero_mul,Nat.add_zero])
       have Hfit:=Lib.hid hfit
       have fg1 : IntKind.u32.wrap (g' : Int) = (g' : Int):=by simp [IntKind.wrap,IntKind.signed,IntKind.bits];omega
       have fg1' : (g' : Int) % 4294967296 = (g' : Int):=by omega
       clear hfit y1 y2 y3 y4 hb hys hz hs1 hs2 huu hvn hB hG HB HG HDm hJ hV0 hbr hJ2z hcyW
       go_wp2_with fail
       go_roundg j
       case rel =>
        have hb2:=A7M Hb.out.1 hF Hb.out.2 j g'
        exact ⟨ys,qs.set j g',by omega,rfl,Hfit.out,hylen,by rw [List.length_set];exact Hql.out,hb2.1,hb2.2⟩
       case measure=>omega
end Go.Proofs.YtlkniebmjdoopaaGreatDoor
