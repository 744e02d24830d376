/- Contracts and laws. -/
import Derived.Test.YtlkniebmjdoopaaGreatDoorK6
import Derived.Shelf.Spec.BitsCarry
set_option linter.unusedSimpArgs false
set_option linter.unusedVariables false
set_option maxHeartbeats 2000000
set_option maxRecDepth 100000
namespace Go.Proofs.YtlkniebmjdoopaaGreatDoor
open Go.RowKit
theorem B6j (x y c : Nat) (hc : c ≤ 1) (w : World) :
  (callFunc 169 #[.int .u64 x,.int .u64 y,.int .u64 c]).run Tryz.prog w =
   .ok (.value (.tuple #[.int .u64 (((x + y + c) % 18446744073709551616 : Nat) : Int),.int .u64 (((x + y + c) / 18446744073709551616 : Nat) : Int)])) w:=by
 rw [run_callFunc_extern Tryz.func169 (by kernel_rfl) (by kernel_rfl) (by kernel_rfl) (e:=add64Entry) (by kernel_rfl),run_add64 x y c (by omega) (by omega) (by omega) (by omega)]
 simp only [Result.andThen]
 congr 5 <;> omega
theorem B6B (x y b : Nat) (hb : b ≤ 1) (w : World) :
  (callFunc 189 #[.int .u64 x,.int .u64 y,.int .u64 b]).run Tryz.prog w =
   .ok (.value (.tuple #[.int .u64 (((x + 18446744073709551616 - y - b) % 18446744073709551616 : Nat) : Int),.int .u64 ((if x < y + b then 1 else 0 : Nat) : Int)])) w:=by
 rw [run_callFunc_extern Tryz.func189 (by kernel_rfl) (by kernel_rfl) (by kernel_rfl) (e:=sub64Entry) (by kernel_rfl),run_sub64 x y b hb]
 rfl
theorem Q5 {a : Nat} (h : a < W64) : A6 a = .agg #[.int .u64 (a : Int),.string ⟨#[]⟩]:=by
 rw [A6,J6 h,A1U h]
theorem R4 (x y c : Nat) (hc : c ≤ 1) (xi yi ci : Int) (hx : xi = x) (hy : yi = y) (hci : ci = c) (w : World) :
  (callFunc 169 #[.int .u64 xi,.int .u64 yi,.int .u64 ci]).run Tryz.prog w =
   .ok (.value (.tuple #[.int .u64 (((x + y + c) % 18446744073709551616 : Nat) : Int),.int .u64 (((x + y + c) / 18446744073709551616 : Nat) : Int)])) w:=by
 subst hx;subst hy;subst hci;exact B6j x y c hc w
theorem A1M (x y c : Nat) (hc : c ≤ 1) (xi yi ci : Int) (hx : xi = x) (hy : yi = y) (hci : ci = c) (w : World) :
  (callFunc 189 #[.int .u64 xi,.int .u64 yi,.int .u64 ci]).run Tryz.prog w =
   .ok (.value (.tuple #[.int .u64 (((x + 18446744073709551616 - y - c) % 18446744073709551616 : Nat) : Int),.int .u64 ((if x < y + c then 1 else 0 : Nat) : Int)])) w:=by
 subst hx;subst hy;subst hci;exact B6B x y c hc w
theorem B5k (a b : Nat) (hs : a + b < W64) (w : World) : Calls Tryz.prog 151 #[A6 a,A6 b] w fun e w'=>e = .returned (A6 (a + b)) ∧ A3 w w':=by
 rw [Q5 (show a < W64 by omega),Q5 (show b < W64 by omega),Q5 hs]
 unfold W64 at hs
 have hadd:=R4 a b 0 (by omega) (a : Int) (b : Int) 0 rfl rfl rfl
 rw [show (a + b + 0) % 18446744073709551616 = a + b by omega,show (a + b + 0) / 18446744073709551616 = 0 by omega] at hadd
 clear hs
 go_enter Tryz.func151,Tryz.ntmps151
 go_wp2
 exact bodyPost_ret (v:=.agg #[.int .u64 ((a + b : Nat) : Int),.string ⟨#[]⟩]) (by simp [results,Tryz.results151,go_sem]) rfl ⟨rfl,((A3.alloc _ _).trans (A3.alloc _ _)).trans (A3.alloc _ _)⟩
theorem B3p (a b : Nat) (ha : a < W64) (hb : b < W64) (hs : W64 ≤ a + b) (w : World) : Calls Tryz.prog 151 #[A6 a,A6 b] w fun e w'=>e = .returned (A6 (a + b)) ∧ A3 w w':=by
 rw [Q5 ha,Q5 hb]
 have hv : val W64 [a + b - W64,1] = a + b:=by rw [K3,K3,A5s,Nat.mul_zero,Nat.add_zero,Nat.mul_one];omega
 have hd : Dig W64 [a + b - W64,1]:=by
  intro x hx
  simp only [List.mem_cons,List.not_mem_nil,or_false] at hx
  have := C7
  rcases hx with h | h <;> (rw [h];omega)
 unfold W64 at ha hb hs
 obtain ⟨s,hs1⟩ : ∃ s,s = a + b - W64:=⟨_,rfl⟩
 rw [← hs1] at hv hd
 have hadd:=R4 a b 0 (by omega) (a : Int) (b : Int) 0 rfl rfl rfl
 rw [show (a + b + 0) % 18446744073709551616 = s by unfold W64 at hs1;omega,show (a + b + 0) / 18446744073709551616 = 1 by omega] at hadd
 have hfw : ∀ W : World,C4 W (w.heap.size + 1 + 1 + 1) [s,1] → Calls Tryz.prog 124 #[.slice (some ⟨w.heap.size + 1 + 1 + 1,0,none⟩) 2 2] W fun e w'=>e = .returned (A6 (a + b)) ∧ A3 W w':=by
  intro W hW
  rw [← hv]
  exact R8 _ [s,1] 2 W (fun _=>⟨_,_,rfl,hW.wds⟩) hd (by simp) (by simp) (by omega)
 have Hfw:=Lib.hid hfw
 clear hfw hv hd hs1 hs ha hb
 go_enter Tryz.func151,Tryz.ntmps151
 go_wp2_with fail
 have hbox : ∀ u : World,A3 ((((w.alloc (.cells #[.int .u64 a,.string ⟨#[]⟩] 35)).alloc (.cells #[.int .u64 b,.string ⟨#[]⟩] 35)).alloc (.cells #[.int .u64 0,.string ⟨#[]⟩] 35)).alloc (.cells #[.int .u64 s,.int .u64 1] 33)) u → Blk u (w.heap.size + 1 + 1) 35 #[.int .u64 0,.string ⟨#[]⟩]:=by
  intro u hu
  have h:=((Blk.new ((w.alloc (.cells #[.int .u64 a,.string ⟨#[]⟩] 35)).alloc (.cells #[.int .u64 b,.string ⟨#[]⟩] 35)) 35 #[.int .u64 0,.string ⟨#[]⟩]).grow (A3.alloc _ _)).grow hu
  rw [H8,H8] at h
  exact h
 have Hbox:=Lib.hid hbox
 clear hbox
 refine (Hfw.out _ ?_).mono ?_
 ·have h:=Blk.new (((w.alloc (.cells #[.int .u64 a,.string ⟨#[]⟩] 35)).alloc (.cells #[.int .u64 b,.string ⟨#[]⟩] 35)).alloc (.cells #[.int .u64 0,.string ⟨#[]⟩] 35)) 33 #[.int .u64 s,.int .u64 1]
  rw [H8,H8,H8] at h
  exact h
 rintro e w1 ⟨rfl,hg⟩
 have hb:=Hbox.out w1 hg
 have hc:=hb.cell
 have hf:=hb.frozen
 have HG:=Lib.hid ((((A3.alloc w _).trans (A3.alloc _ _)).trans ((A3.alloc _ _).trans (A3.alloc _ _))).trans hg)
 have Hb:=Lib.hid hb
 clear hb hg
 go_wp2_with fail
 have h6:=((Hb.out.set_ 0 (.int .u64 (B3 (a + b)))).set_ 1 (.string (B1 (a + b)))).cell
 simp only [List.setIfInBounds_toArray,List.set_cons_zero,List.set_cons_succ] at h6
 exact bodyPost_ret (v:=A6 (a + b)) (by simp [results,Tryz.results151,go_sem,h6]) rfl ⟨rfl,(HG.out.setCell (p:=⟨w.heap.size + 1 + 1,0,none⟩) (by show _ ≤ w.heap.size + 1 + 1;omega) _).setCell (p:=⟨w.heap.size + 1 + 1,1,none⟩) (by show _ ≤ w.heap.size + 1 + 1;omega) _⟩
def Two (w u : World) (A1 A2 : Option Addr) (l1 l2 : List Nat) : Prop:=Own w u A1 l1 ∧ Own w u A2 l2 ∧ (l1 ≠ [] → l2 ≠ [] → A1 ≠ A2)
theorem Two.grow {w u u' : World} {A1 A2 : Option Addr} {l1 l2 : List Nat} (hg : A3 u u') (h : Two w u A1 A2 l1 l2) : Two w u' A1 A2 l1 l2:=⟨h.1.grow hg,h.2.1.grow hg,h.2.2⟩
theorem Two.swap {w u : World} {A1 A2 : Option Addr} {l1 l2 : List Nat} (h : Two w u A1 A2 l1 l2) : Two w u A2 A1 l2 l1:=⟨h.2.1,h.1,fun a b e=>h.2.2 b a e.symm⟩
theorem Z4 {a k : Nat} (h : bl a ≤ 64 * k) : (A7 W64 a).length ≤ k :=
 A3A C7 (by rw [R5,← Nat.pow_mul];exact J9.1 h)
theorem C4.owns {u : World} {b base : Nat} {l : List Nat} (h : C4 u b l) (hb : base ≤ b) (hl : l.length ≤ maxLen) :
  u.ownsRow base 33 1 (.slice (some ⟨b,0,none⟩) l.length l.length) l.length (l.map fun x=>Value.int .u64 (x : Nat)):=by
 refine ⟨by simp,.inr ⟨b,l.length,C0 l,rfl,hb,h,Nat.le_refl _,hl,by simp [C0],?_⟩⟩
 unfold C0
 rw [List.take_of_length_le (by simp)]
theorem A8D {u : World} {base n : Nat} {v : Value} {l : List Nat} (h : u.ownsRow base 33 1 v n (l.map fun x=>Value.int .u64 (x : Nat))) (hn : 0 < n) :
  ∃ g cap,v = .slice (some ⟨g,0,none⟩) n cap ∧ base ≤ g ∧ n ≤ cap ∧ l.length = n ∧ cap ≤ maxLen ∧ Wds u g 0 l:=by
 obtain ⟨h1,h2 | ⟨g,cap,cur,hv,hb,hh,hnc,hcm,hcs,hct⟩⟩:=h
 ·omega
 ·refine ⟨g,cap,hv,hb,hnc,by simpa using h1,hcm,cur,hh,fun i x hi=>?_⟩
  have h3 : (cur.toList.take (n * 1))[i]? = some (.int .u64 (x : Nat)):=by rw [hct,List.getElem?_map,hi];rfl
  rw [List.getElem?_take] at h3
  split at h3
  ·rw [Nat.zero_add];simpa using h3
  ·cases h3
def N7 (u wr : World) (A1 A2 : Option Addr) (lx ly : List Nat) (k cy : Nat) : Prop :=
 ∃ zs : List Nat,cy ≤ 1 ∧ zs.length = k ∧ Dig W64 zs ∧ val W64 zs + cy * W64 ^ k = val W64 (lx.take k) + val W64 (ly.take k) ∧ Two u wr A1 A2 (zs ++ lx.drop k) ly
theorem N7.start {u wr : World} {A1 A2 : Option Addr} {lx ly : List Nat} (h : Two u wr A1 A2 lx ly) : N7 u wr A1 A2 lx ly 0 0 :=
 ⟨[],by omega,rfl,fun x hx=>(by cases hx),by simp [val],h⟩
theorem N7.next {u wr : World} {A2 : Option Addr} {bx : Nat} {lx ly : List Nat} {k cy : Nat} (h : N7 u wr (some ⟨bx,0,none⟩) A2 lx ly k cy) (hx : Dig W64 lx) (hy : Dig W64 ly) (hk : k < lx.length) :
  N7 u (wr.setCell ⟨bx,k,none⟩ (.int .u64 ((dg lx k + dg ly k + cy) % W64 : Nat))) (some ⟨bx,0,none⟩) A2 lx ly (k + 1) ((dg lx k + dg ly k + cy) / W64):=by
 obtain ⟨zs,hcy,hz,hd,he,ho1,ho2,hne⟩:=h
 have hne1 : zs ++ lx.drop k ≠ []:=by
  intro e
  have := congrArg List.length e
  simp at this
  omega
 have h1:=B9 B6 hx k
 have h2:=B9 B6 hy k
 have hlist : (zs ++ lx.drop k).set k ((dg lx k + dg ly k + cy) % W64) = (zs ++ [(dg lx k + dg ly k + cy) % W64]) ++ lx.drop (k + 1):=by
  rw [List.set_append_right _ _ (by omega),hz,Nat.sub_self,List.drop_eq_getElem_cons hk,List.set_cons_zero,List.append_assoc]
  rfl
 obtain ⟨b1,hb1,e1,hr1⟩:=ho1 hne1
 injection e1 with e1
 injection e1 with e1
 subst e1
 refine ⟨zs ++ [(dg lx k + dg ly k + cy) % W64],?_,by simp [hz],?_,A9w hz he,?_,?_,?_⟩
 ·have : (dg lx k + dg ly k + cy) / W64 < 2:=Nat.div_lt_of_lt_mul (by omega)
  omega
 ·intro x hxm
  rcases List.mem_append.1 hxm with h | h
  ·exact hd x h
  ·simp only [List.mem_cons,List.not_mem_nil,or_false] at h
   rw [h]
   exact Nat.mod_lt _ B6
 ·intro _
  refine ⟨bx,hb1,rfl,?_⟩
  rw [← hlist]
  exact hr1.set k _
 ·intro hn2
  obtain ⟨b2,hb2,e2,hr2⟩:=ho2 hn2
  refine ⟨b2,hb2,e2,hr2.far ?_ _⟩
  intro e
  refine hne hne1 hn2 ?_
  rw [e2,e]
 ·intro _ hn2
  exact hne hne1 hn2
theorem N7.cell1 {u wr : World} {bx : Nat} {A2 : Option Addr} {lx ly : List Nat} {k cy : Nat} (h : N7 u wr (some ⟨bx,0,none⟩) A2 lx ly k cy) (hk : k < lx.length) :
  wr.cell? ⟨bx,k,none⟩ = some (.int .u64 (dg lx k : Nat)) ∧ wr.frozen? ⟨bx,k,none⟩ = false ∧ u.heap.size ≤ bx:=by
 obtain ⟨zs,hcy,hz,hd,he,ho1,ho2,hne⟩:=h
 obtain ⟨b1,hb1,e1,hr1⟩:=ho1 (by
  intro e
  have := congrArg List.length e
  simp at this
  omega)
 injection e1 with e1
 injection e1 with e1
 subst e1
 refine ⟨?_,hr1.frozen k,hb1⟩
 rw [hr1.cell,List.getElem?_append_right (by omega),hz,Nat.sub_self,List.getElem?_drop,Nat.add_zero,List.getElem?_eq_getElem hk,D3 hk]
 rfl
theorem N7.cell2 {u wr : World} {A1 A2 : Option Addr} {lx ly : List Nat} {k cy : Nat} (h : N7 u wr A1 A2 lx ly k cy) (hk : k < ly.length) :
  ∃ b2,A2 = some ⟨b2,0,none⟩ ∧ wr.cell? ⟨b2,k,none⟩ = some (.int .u64 (dg ly k : Nat)):=by
 obtain ⟨zs,hcy,hz,hd,he,ho1,ho2,hne⟩:=h
 obtain ⟨b2,hb2,e2,hr2⟩:=ho2 (by rintro rfl;simp at hk)
 refine ⟨b2,e2,?_⟩
 rw [hr2.cell,List.getElem?_eq_getElem hk,D3 hk]
 rfl
theorem N7.addr {u wr : World} {A1 A2 : Option Addr} {lx ly : List Nat} {k cy : Nat} (h : N7 u wr A1 A2 lx ly k cy) (hk : 0 < lx.length) : ∃ bx,A1 = some ⟨bx,0,none⟩:=by
 obtain ⟨zs,hcy,hz,hd,he,ho1,ho2,hne⟩:=h
 obtain ⟨b1,hb1,e1,hr1⟩:=ho1 (by
  intro e
  have := congrArg List.length e
  rw [List.length_append,hz,List.length_drop,List.length_nil] at this
  omega)
 exact ⟨b1,e1⟩
theorem N7.done {u wr : World} {A1 A2 : Option Addr} {lx ly : List Nat} {k cy : Nat} (h : N7 u wr A1 A2 lx ly k cy) (hk : k = lx.length) (hly : ly.length ≤ lx.length) :
  ∃ zs,zs.length = k ∧ cy ≤ 1 ∧ Dig W64 zs ∧ val W64 zs + cy * W64 ^ k = val W64 lx + val W64 ly ∧ Own u wr A1 zs:=by
 obtain ⟨zs,hcy,hz,hd,he,ho1,ho2,hne⟩:=h
 rw [List.drop_of_length_le (by omega),List.append_nil] at ho1
 rw [U6 _ _ _ (by omega),U6 _ _ _ (by omega)] at he
 exact ⟨zs,hz,hcy,hd,he,ho1⟩
theorem Own.ne {w v u : World} {A1 A2 : Option Addr} {l1 l2 : List Nat} (h1 : Own w v A1 l1) (h2 : Own v u A2 l2) (n1 : l1 ≠ []) (n2 : l2 ≠ []) : A1 ≠ A2:=by
 obtain ⟨b1,_,e1,hr1⟩:=h1 n1
 obtain ⟨b2,hb2,e2,_⟩:=h2 n2
 rw [e1,e2]
 intro e
 injection e with e
 injection e with e
 have := hr1.lt
 omega
theorem B14 (a b : Nat) (ha : bl a ≤ 1099511627776) (hb : bl b ≤ 1099511627776) (hs : ¬ (a < W64 ∧ b < W64)) (w : World) : Calls Tryz.prog 151 #[A6 a,A6 b] w fun e w'=>e = .returned (A6 (a + b)) ∧ A3 w w':=by
  have hT : ∃ b1 b2 : Bool,(B1 a).toList.isEmpty = b1 ∧ (B1 b).toList.isEmpty = b2 ∧ (b1 && b2) = false:=by
    refine ⟨_,_,rfl,rfl,?_⟩
    rw [L7,L7,Bool.and_eq_false_iff,decide_eq_false_iff_not,decide_eq_false_iff_not]
    omega
  obtain ⟨b1,b2,hb1,hb2,hb12⟩:=hT
  obtain ⟨la,hla⟩ : ∃ la,la = A7 W64 a:=⟨_,rfl⟩
  obtain ⟨lb,hlb⟩ : ∃ lb,lb = A7 W64 b:=⟨_,rfl⟩
  obtain ⟨n1,hn1⟩ : ∃ n,n = la.length:=⟨_,rfl⟩
  obtain ⟨n2,hn2⟩ : ∃ n,n = lb.length:=⟨_,rfl⟩
  have hwa : ∀ W : World,Calls Tryz.prog 126 #[A6 a] W fun e w'=>∃ A,e = .returned (.slice A n1 n1) ∧ Own W w' A la ∧ A3 W w':=by
    intro W;rw [hn1,hla];exact Y8 a ha W
  have hwb : ∀ W : World,Calls Tryz.prog 126 #[A6 b] W fun e w'=>∃ A,e = .returned (.slice A n2 n2) ∧ Own W w' A lb ∧ A3 W w':=by
    intro W;rw [hn2,hlb];exact Y8 b hb W
  have hm1 : n1 ≤ 17179869184:=by rw [hn1,hla];exact Z4 (by omega)
  have hm2 : n2 ≤ 17179869184:=by rw [hn2,hlb];exact Z4 (by omega)
  have Hwa:=Lib.hid hwa
  have Hwb:=Lib.hid hwb
  have Hda : Hid (Dig W64 la):=by rw [hla];exact Lib.hid (F2 C7 a)
  have Hdb : Hid (Dig W64 lb):=by rw [hlb];exact Lib.hid (F2 C7 b)
  have Hla:=Lib.hid hla
  have Hlb:=Lib.hid hlb
  have Hn1:=Lib.hid hn1
  have Hn2:=Lib.hid hn2
  clear hwa hwb hla hlb hn1 hn2 ha hb hs
  cases b1 <;> cases b2 <;> first | (exact absurd hb12 (by decide)) | skip
  all_goals
    clear hb12
    go_enter Tryz.func151,Tryz.ntmps151
    go_wp2_with fail
    clear hb1 hb2
    generalize hu : World.alloc (World.alloc (World.alloc w _) _) _ = u
    obtain ⟨hB,hG⟩:=R6 [(_,_),(_,_),(_,_)] w u hu
    have hF:=U9 w [(35,#[]),(35,#[]),(35,#[])]
    simp only [K4,List.map_cons,List.map_nil] at hB hF
    clear hu
    generalize w.heap.size + 1 + 1 = b4 at hB hF ⊢
    generalize w.heap.size + 1 = b3 at hB hF ⊢
    generalize w.heap.size = b2 at hB hF ⊢
    refine A17 (w:=w) A5 5 [(0,0),(0,2),(1,1),(1,3),(0,4)] (by kernel_rfl) (by kernel_rfl) hB hG ?_
    simp only [E8,List.getElem?_toArray,List.getElem?_cons_zero,List.getElem?_cons_succ]
    (apply gy
     · exact rfl
     · (rintro v ⟨-,hB,-⟩ N hN;have r:=hB.r;simp only [BxR] at r;go_simp;exact hN))
    (apply gy
     · exact rfl
     · (rintro v ⟨-,hB,-⟩ N hN;have r:=hB.r;simp only [BxR] at r;go_simp;exact hN))
    refine gx (Option Addr) (fun A=>.slice A n1 n1) (fun A v=>Own u v A la) (fun A v v' hg h=>h.grow hg) rfl ?_ (fun A1=>?_)
    · rintro v ⟨hgu,-,-⟩ N hN
      go_simp
      ((with_reducible refine (Hwa.out _).mono ?_);rintro e w1 ⟨A,rfl,hown,hg⟩;exact ⟨_,rfl,hN A w1 (hown.since hgu) hg⟩)
    refine gx (Option Addr) (fun A=>.slice A n2 n2) (fun A v=>Own u v A lb ∧ (la ≠ [] → lb ≠ [] → A1 ≠ A)) (fun A v v' hg h=>⟨h.1.grow hg,h.2⟩) rfl ?_ (fun A2=>?_)
    · rintro v ⟨⟨hgu,-,-⟩,ho1⟩ N hN
      go_simp
      ((with_reducible refine (Hwb.out _).mono ?_);rintro e w1 ⟨A,rfl,hown,hg⟩;exact ⟨_,rfl,hN A w1 ⟨hown.since hgu,fun h1 h2=>ho1.ne hown h1 h2⟩ hg⟩)
    (apply gy
     · exact rfl
     · (rintro v - N hN;go_simp;exact hN))
    refine K8 ?_
    rintro v ⟨⟨⟨hgu,hB1,hG1⟩,ho1⟩,ho2,hne⟩
    have hTwo : Two u v A1 A2 la lb:=⟨ho1,ho2,hne⟩
    have hq2:=hB.head.lt
    have hq3:=hB.tail.head.lt
    have hq4:=hB.tail.tail.head.lt
    have hwu:=hG.size
    clear ho1 ho2 hne hB hG
    have HTwo:=Lib.hid hTwo
    clear hTwo
    simp only [List.drop_succ_cons,List.drop_zero]
    go_wp2_with fail
    refine NoP.norm ?_
    by_cases hlt : n1 < n2
    · go_wp2_with fail
      go_loopw [9,49] (fun c i wr=>∃ k cy : Nat,k ≤ n2 ∧ i = .int .i64 k ∧ c = .int .u64 cy ∧ N7 u wr A2 A1 lb la k cy ∧ Bx wr [(b2,35,#[.int .u64 (B3 a),.string (B1 a)]),(b3,35,#[.int .u64 (B3 b),.string (B1 b)]),(b4,35,#[.int .u64 0,.string ⟨#[]⟩])] ∧ A3 w wr ∧ u.heap.size ≤ wr.heap.size) (fun _ i _=>n2 - (intOf i).toNat)
      case atStart=>exact ⟨0,0,by omega,rfl,rfl,N7.start HTwo.out.swap,hB1,hG1,hgu.size⟩
      case round =>
        obtain ⟨k,cy,hk,rfl,rfl,hI,hB,hG,hus⟩:=hrel
        have HI:=Lib.hid hI
        have HB:=Lib.hid hB
        have HG:=Lib.hid hG
        have hcy : cy ≤ 1:=by obtain ⟨zs,h,_⟩:=HI.out;exact h
        clear hI hB hG
        rcases Nat.lt_or_ge k n2 with hkl | hkg
        · have hkl' : k < lb.length:=by rw [← Hn2.out];exact hkl
          obtain ⟨bx,rfl⟩:=HI.out.addr (by omega)
          obtain ⟨hc1,hf1,hbx⟩:=HI.out.cell1 hkl'
          have Hnext:=Lib.hid (HI.out.next Hdb.out Hda.out hkl')
          obtain ⟨x,hx⟩ : ∃ x,x = dg lb k:=⟨_,rfl⟩
          obtain ⟨o,ho⟩ : ∃ o,o = dg la k:=⟨_,rfl⟩
          rw [← hx] at hc1 Hnext
          rw [← ho] at Hnext
          obtain ⟨sm,hsm⟩ : ∃ sm,sm = (x + o + cy) % W64:=⟨_,rfl⟩
          obtain ⟨t,ht⟩ : ∃ t,t = (x + o + cy) / W64:=⟨_,rfl⟩
          rw [← hsm,← ht] at Hnext
          have hBn : ∀ sv,Bx (wr.setCell ⟨bx,k,none⟩ sv) [(b2,35,#[.int .u64 (B3 a),.string (B1 a)]),(b3,35,#[.int .u64 (B3 b),.string (B1 b)]),(b4,35,#[.int .u64 0,.string ⟨#[]⟩])]:=fun sv=>HB.out.far_ (p:=⟨bx,k,none⟩) (by show ∀ e ∈ _,_ ≠ bx;simp;omega) sv
          have HBn:=Lib.hid hBn
          have Hx:=Lib.hid hx
          have Ho:=Lib.hid ho
          clear hx ho hBn
          by_cases hky : k < n1
          · obtain ⟨by_,rfl,hc2⟩:=HI.out.cell2 (by rw [← Hn1.out];exact hky)
            rw [← Ho.out] at hc2
            have hadd:=R4 x o cy hcy (x : Int) (o : Int) (cy : Int) rfl rfl rfl
            rw [show (x + o + cy) % 18446744073709551616 = sm from hsm.symm,show (x + o + cy) / 18446744073709551616 = t from ht.symm] at hadd
            clear hsm ht
            go_wp2
            go_roundw
            case rel=>exact ⟨k + 1,t,by omega,by go_num,rfl,Hnext.out,HBn.out _,HG.out.setCell (p:=⟨bx,k,none⟩) (by show _ ≤ bx;omega) _,by simpa [World.setCell] using hus⟩
            case measure=>simp [intOf];omega
          · have hz : o = 0:=by rw [Ho.out];exact X1 (by rw [← Hn1.out];omega)
            have hadd:=R4 x o cy hcy (x : Int) 0 (cy : Int) rfl (by rw [hz];rfl) rfl
            rw [show (x + o + cy) % 18446744073709551616 = sm from hsm.symm,show (x + o + cy) / 18446744073709551616 = t from ht.symm] at hadd
            clear hsm ht hz
            go_wp2
            go_roundw
            case rel=>exact ⟨k + 1,t,by omega,by go_num,rfl,Hnext.out,HBn.out _,HG.out.setCell (p:=⟨bx,k,none⟩) (by show _ ≤ bx;omega) _,by simpa [World.setCell] using hus⟩
            case measure=>simp [intOf];omega
        · obtain rfl : n2 = k:=by omega
          obtain ⟨zs,hz,_,hd,hval,hown⟩:=HI.out.done Hn2.out (by rw [← Hn2.out,← Hn1.out];omega)
          have hab : val W64 zs + cy * W64 ^ n2 = a + b:=by rw [hval,Hla.out,Hlb.out,D5 C7,D5 C7];exact Nat.add_comm _ _
          have Hown:=Lib.hid hown
          have Hd:=Lib.hid hd
          have Hz:=Lib.hid hz
          have Hab:=Lib.hid hab
          clear hown hd hz hval hab
          rcases Nat.eq_zero_or_pos cy with rfl | hcp
          · have hfw : Calls Tryz.prog 124 #[.slice A2 n2 n2] wr fun e w' => e = .returned (A6 (a + b)) ∧ A3 wr w' := by
              have h1:=R8 A2 zs n2 wr Hown.out.rd Hd.out (by rw [Hz.out];exact Nat.le_refl _) (by rw [Hz.out];omega) (by omega)
              have h2:=Hab.out
              rw [Nat.zero_mul,Nat.add_zero] at h2
              rw [Hz.out,h2] at h1
              exact h1
            have Hfw:=Lib.hid hfw
            clear hfw
            go_wp2_with (go_at_call 124;((with_reducible refine Hfw.out.mono ?_);rintro e w1 ⟨rfl,hg⟩;have hbb:=(HB.out.grow hg).tail.tail.head;have hc:=hbb.cell;have hf:=hbb.frozen))
            have h6:=((hbb.set_ 0 (.int .u64 (B3 (a + b)))).set_ 1 (.string (B1 (a + b)))).cell
            simp only [List.setIfInBounds_toArray,List.set_cons_zero,List.set_cons_succ] at h6
            have hwb4 : w.heap.size ≤ b4:=hF.1 b4 (by simp)
            exact bodyPost_ret (v:=A6 (a + b)) (by simp [results,Tryz.results151,go_sem,h6]) rfl ⟨rfl,((HG.out.trans hg).setCell (p:=⟨b4,0,none⟩) hwb4 _).setCell (p:=⟨b4,1,none⟩) hwb4 _⟩
          · obtain rfl : cy = 1:=by omega
            have hpos : 0 < n2:=by
              rcases Nat.eq_zero_or_pos n2 with h0 | h0
              · exfalso
                have e1 : lb = []:=List.eq_nil_of_length_eq_zero (by rw [← Hn2.out];exact h0)
                have e2 : la = []:=List.eq_nil_of_length_eq_zero (by rw [← Hn1.out];omega)
                have e3 : zs = []:=List.eq_nil_of_length_eq_zero (by rw [Hz.out];exact h0)
                have h2:=Hab.out
                have h3:=D5 C7 a
                have h4:=D5 C7 b
                rw [← Hla.out] at h3
                rw [← Hlb.out] at h4
                rw [e3,h0,← h3,← h4,e1,e2] at h2
                simp [val] at h2
              · exact h0
            obtain ⟨bx,hbx,rfl,hrow⟩:=Hown.out (by intro e;have := Hz.out;rw [e] at this;simp at this;omega)
            obtain ⟨i0,hi0,hz0,hz1,hz2⟩:=info_parts A43
            have hor : wr.ownsRow u.heap.size 33 1 (.slice (some ⟨bx,0,none⟩) n2 n2) n2 (zs.map fun x=>Value.int .u64 (x : Nat)):=by
              have := hrow.owns hbx (by rw [Hz.out];unfold maxLen;omega)
              rw [Hz.out] at this
              exact this
            have Hor:=Lib.hid hor
            clear hor hrow
            go_wp2_with (at_builtin;refine wpList_append_own _ rfl (.tmp 76) (.tmp 78) 164 rfl u.heap.size 33 i0 (.int .u64 0) 1 8 Tryz.underlying164 hi0 hz0 hz1 hz2 rfl (by decide) _ n2 _ rfl (Hor.out.alloc _) ⟨_,0,none⟩ 1 1 [.int .u64 1] rfl rfl (cell_one_new _ _ _) (by simp [Value.oneCell']) (by unfold maxLen;omega) (by omega) (by rw [H8];omega) ?_)
            intro v' w1 hown' hgr _
            rw [show (zs.map fun x=>Value.int .u64 (x : Nat)) ++ [Value.int .u64 1] = (zs ++ [1]).map (fun x=>Value.int .u64 (x : Nat)) by simp] at hown'
            obtain ⟨g,cap,rfl,hbg,hnc,hlz,hcm,hwd⟩:=A8D hown' (by omega)
            have hBw:=(HB.out.grow (A3.alloc wr _)).grown_ hgr (by simp [Value.ownBlock];omega)
            have hGw:=(HG.out.trans (A3.alloc wr _)).grown hgr (by simp [Value.ownBlock];omega)
            have hfw : Calls Tryz.prog 124 #[.slice (some ⟨g,0,none⟩) (n2 + 1) cap] w1 fun e w'=>e = .returned (A6 (a + b)) ∧ A3 w1 w':=by
              have h1:=R8 (some ⟨g,0,none⟩) (zs ++ [1]) cap w1 (fun _=>⟨g,0,rfl,hwd⟩) (by
                intro x hx
                rcases List.mem_append.1 hx with h | h
                · exact Hd.out x h
                · simp at h;rw [h];have := C7;omega) (by omega) (by omega) (by unfold maxLen at hcm;omega)
              have h2:=Hab.out
              rw [Nat.one_mul] at h2
              rw [W9,Hz.out,Nat.mul_one,h2,hlz] at h1
              exact h1
            have Hfw:=Lib.hid hfw
            have HBw:=Lib.hid hBw
            have HGw:=Lib.hid hGw
            clear hfw hown' hgr hlz hwd hBw hGw
            go_wp2_with (go_at_call 124;((with_reducible refine Hfw.out.mono ?_);rintro e w2 ⟨rfl,hg⟩;have hbb:=(HBw.out.grow hg).tail.tail.head;have hc:=hbb.cell;have hf:=hbb.frozen))
            have h6:=((hbb.set_ 0 (.int .u64 (B3 (a + b)))).set_ 1 (.string (B1 (a + b)))).cell
            simp only [List.setIfInBounds_toArray,List.set_cons_zero,List.set_cons_succ] at h6
            have hwb4 : w.heap.size ≤ b4:=hF.1 b4 (by simp)
            exact bodyPost_ret (v:=A6 (a + b)) (by simp [results,Tryz.results151,go_sem,h6]) rfl ⟨rfl,((HGw.out.trans hg).setCell (p:=⟨b4,0,none⟩) hwb4 _).setCell (p:=⟨b4,1,none⟩) hwb4 _⟩
    · go_wp2_with fail
      go_loopw [9,49] (fun c i wr=>∃ k cy : Nat,k ≤ n1 ∧ i = .int .i64 k ∧ c = .int .u64 cy ∧ N7 u wr A1 A2 la lb k cy ∧ Bx wr [(b2,35,#[.int .u64 (B3 a),.string (B1 a)]),(b3,35,#[.int .u64 (B3 b),.string (B1 b)]),(b4,35,#[.int .u64 0,.string ⟨#[]⟩])] ∧ A3 w wr ∧ u.heap.size ≤ wr.heap.size) (fun _ i _=>n1 - (intOf i).toNat)
      case atStart=>exact ⟨0,0,by omega,rfl,rfl,N7.start HTwo.out,hB1,hG1,hgu.size⟩
      case round =>
        obtain ⟨k,cy,hk,rfl,rfl,hI,hB,hG,hus⟩:=hrel
        have HI:=Lib.hid hI
        have HB:=Lib.hid hB
        have HG:=Lib.hid hG
        have hcy : cy ≤ 1:=by obtain ⟨zs,h,_⟩:=HI.out;exact h
        clear hI hB hG
        rcases Nat.lt_or_ge k n1 with hkl | hkg
        · have hkl' : k < la.length:=by rw [← Hn1.out];exact hkl
          obtain ⟨bx,rfl⟩:=HI.out.addr (by omega)
          obtain ⟨hc1,hf1,hbx⟩:=HI.out.cell1 hkl'
          have Hnext:=Lib.hid (HI.out.next Hda.out Hdb.out hkl')
          obtain ⟨x,hx⟩ : ∃ x,x = dg la k:=⟨_,rfl⟩
          obtain ⟨o,ho⟩ : ∃ o,o = dg lb k:=⟨_,rfl⟩
          rw [← hx] at hc1 Hnext
          rw [← ho] at Hnext
          obtain ⟨sm,hsm⟩ : ∃ sm,sm = (x + o + cy) % W64:=⟨_,rfl⟩
          obtain ⟨t,ht⟩ : ∃ t,t = (x + o + cy) / W64:=⟨_,rfl⟩
          rw [← hsm,← ht] at Hnext
          have hBn : ∀ sv,Bx (wr.setCell ⟨bx,k,none⟩ sv) [(b2,35,#[.int .u64 (B3 a),.string (B1 a)]),(b3,35,#[.int .u64 (B3 b),.string (B1 b)]),(b4,35,#[.int .u64 0,.string ⟨#[]⟩])]:=fun sv=>HB.out.far_ (p:=⟨bx,k,none⟩) (by show ∀ e ∈ _,_ ≠ bx;simp;omega) sv
          have HBn:=Lib.hid hBn
          have Hx:=Lib.hid hx
          have Ho:=Lib.hid ho
          clear hx ho hBn
          by_cases hky : k < n2
          · obtain ⟨by_,rfl,hc2⟩:=HI.out.cell2 (by rw [← Hn2.out];exact hky)
            rw [← Ho.out] at hc2
            have hadd:=R4 x o cy hcy (x : Int) (o : Int) (cy : Int) rfl rfl rfl
            rw [show (x + o + cy) % 18446744073709551616 = sm from hsm.symm,show (x + o + cy) / 18446744073709551616 = t from ht.symm] at hadd
            clear hsm ht
            go_wp2
            go_roundw
            case rel=>exact ⟨k + 1,t,by omega,by go_num,rfl,Hnext.out,HBn.out _,HG.out.setCell (p:=⟨bx,k,none⟩) (by show _ ≤ bx;omega) _,by simpa [World.setCell] using hus⟩
            case measure=>simp [intOf];omega
          · have hz : o = 0:=by rw [Ho.out];exact X1 (by rw [← Hn2.out];omega)
            have hadd:=R4 x o cy hcy (x : Int) 0 (cy : Int) rfl (by rw [hz];rfl) rfl
            rw [show (x + o + cy) % 18446744073709551616 = sm from hsm.symm,show (x + o + cy) / 18446744073709551616 = t from ht.symm] at hadd
            clear hsm ht hz
            go_wp2
            go_roundw
            case rel=>exact ⟨k + 1,t,by omega,by go_num,rfl,Hnext.out,HBn.out _,HG.out.setCell (p:=⟨bx,k,none⟩) (by show _ ≤ bx;omega) _,by simpa [World.setCell] using hus⟩
            case measure=>simp [intOf];omega
        · obtain rfl : n1 = k:=by omega
          obtain ⟨zs,hz,_,hd,hval,hown⟩:=HI.out.done Hn1.out (by rw [← Hn1.out,← Hn2.out];omega)
          have hab : val W64 zs + cy * W64 ^ n1 = a + b:=by rw [hval,Hla.out,Hlb.out,D5 C7,D5 C7]
          have Hown:=Lib.hid hown
          have Hd:=Lib.hid hd
          have Hz:=Lib.hid hz
          have Hab:=Lib.hid hab
          clear hown hd hz hval hab
          rcases Nat.eq_zero_or_pos cy with rfl | hcp
          · have hfw : Calls Tryz.prog 124 #[.slice A1 n1 n1] wr fun e w' => e = .returned (A6 (a + b)) ∧ A3 wr w' := by
              have h1:=R8 A1 zs n1 wr Hown.out.rd Hd.out (by rw [Hz.out];exact Nat.le_refl _) (by rw [Hz.out];omega) (by omega)
              have h2:=Hab.out
              rw [Nat.zero_mul,Nat.add_zero] at h2
              rw [Hz.out,h2] at h1
              exact h1
            have Hfw:=Lib.hid hfw
            clear hfw
            go_wp2_with (go_at_call 124;((with_reducible refine Hfw.out.mono ?_);rintro e w1 ⟨rfl,hg⟩;have hbb:=(HB.out.grow hg).tail.tail.head;have hc:=hbb.cell;have hf:=hbb.frozen))
            have h6:=((hbb.set_ 0 (.int .u64 (B3 (a + b)))).set_ 1 (.string (B1 (a + b)))).cell
            simp only [List.setIfInBounds_toArray,List.set_cons_zero,List.set_cons_succ] at h6
            have hwb4 : w.heap.size ≤ b4:=hF.1 b4 (by simp)
            exact bodyPost_ret (v:=A6 (a + b)) (by simp [results,Tryz.results151,go_sem,h6]) rfl ⟨rfl,((HG.out.trans hg).setCell (p:=⟨b4,0,none⟩) hwb4 _).setCell (p:=⟨b4,1,none⟩) hwb4 _⟩
          · obtain rfl : cy = 1:=by omega
            have hpos : 0 < n1:=by
              rcases Nat.eq_zero_or_pos n1 with h0 | h0
              · exfalso
                have e1 : la = []:=List.eq_nil_of_length_eq_zero (by rw [← Hn1.out];exact h0)
                have e2 : lb = []:=List.eq_nil_of_length_eq_zero (by rw [← Hn2.out];omega)
                have e3 : zs = []:=List.eq_nil_of_length_eq_zero (by rw [Hz.out];exact h0)
                have h2:=Hab.out
                have h3:=D5 C7 a
                have h4:=D5 C7 b
                rw [← Hla.out] at h3
                rw [← Hlb.out] at h4
                rw [e3,h0,← h3,← h4,e1,e2] at h2
                simp [val] at h2
              · exact h0
            obtain ⟨bx,hbx,rfl,hrow⟩:=Hown.out (by intro e;have := Hz.out;rw [e] at this;simp at this;omega)
            obtain ⟨i0,hi0,hz0,hz1,hz2⟩:=info_parts A43
            have hor : wr.ownsRow u.heap.size 33 1 (.slice (some ⟨bx,0,none⟩) n1 n1) n1 (zs.map fun x=>Value.int .u64 (x : Nat)):=by
              have := hrow.owns hbx (by rw [Hz.out];unfold maxLen;omega)
              rw [Hz.out] at this
              exact this
            have Hor:=Lib.hid hor
            clear hor hrow
            go_wp2_with (at_builtin;refine wpList_append_own _ rfl (.tmp 76) (.tmp 78) 164 rfl u.heap.size 33 i0 (.int .u64 0) 1 8 Tryz.underlying164 hi0 hz0 hz1 hz2 rfl (by decide) _ n1 _ rfl (Hor.out.alloc _) ⟨_,0,none⟩ 1 1 [.int .u64 1] rfl rfl (cell_one_new _ _ _) (by simp [Value.oneCell']) (by unfold maxLen;omega) (by omega) (by rw [H8];omega) ?_)
            intro v' w1 hown' hgr _
            rw [show (zs.map fun x=>Value.int .u64 (x : Nat)) ++ [Value.int .u64 1] = (zs ++ [1]).map (fun x=>Value.int .u64 (x : Nat)) by simp] at hown'
            obtain ⟨g,cap,rfl,hbg,hnc,hlz,hcm,hwd⟩:=A8D hown' (by omega)
            have hBw:=(HB.out.grow (A3.alloc wr _)).grown_ hgr (by simp [Value.ownBlock];omega)
            have hGw:=(HG.out.trans (A3.alloc wr _)).grown hgr (by simp [Value.ownBlock];omega)
            have hfw : Calls Tryz.prog 124 #[.slice (some ⟨g,0,none⟩) (n1 + 1) cap] w1 fun e w'=>e = .returned (A6 (a + b)) ∧ A3 w1 w':=by
              have h1:=R8 (some ⟨g,0,none⟩) (zs ++ [1]) cap w1 (fun _=>⟨g,0,rfl,hwd⟩) (by
                intro x hx
                rcases List.mem_append.1 hx with h | h
                · exact Hd.out x h
                · simp at h;rw [h];have := C7;omega) (by omega) (by omega) (by unfold maxLen at hcm;omega)
              have h2:=Hab.out
              rw [Nat.one_mul] at h2
              rw [W9,Hz.out,Nat.mul_one,h2,hlz] at h1
              exact h1
            have Hfw:=Lib.hid hfw
            have HBw:=Lib.hid hBw
            have HGw:=Lib.hid hGw
            clear hfw hown' hgr hlz hwd hBw hGw
            go_wp2_with (go_at_call 124;((with_reducible refine Hfw.out.mono ?_);rintro e w2 ⟨rfl,hg⟩;have hbb:=(HBw.out.grow hg).tail.tail.head;have hc:=hbb.cell;have hf:=hbb.frozen))
            have h6:=((hbb.set_ 0 (.int .u64 (B3 (a + b)))).set_ 1 (.string (B1 (a + b)))).cell
            simp only [List.setIfInBounds_toArray,List.set_cons_zero,List.set_cons_succ] at h6
            have hwb4 : w.heap.size ≤ b4:=hF.1 b4 (by simp)
            exact bodyPost_ret (v:=A6 (a + b)) (by simp [results,Tryz.results151,go_sem,h6]) rfl ⟨rfl,((HGw.out.trans hg).setCell (p:=⟨b4,0,none⟩) hwb4 _).setCell (p:=⟨b4,1,none⟩) hwb4 _⟩
theorem B0S (a b : Nat) (ha : bl a ≤ 1099511627776) (hb : bl b ≤ 1099511627776) (w : World) : Calls Tryz.prog 151 #[A6 a,A6 b] w fun e w'=>e = .returned (A6 (a + b)) ∧ A3 w w':=by
 by_cases hs : a < W64 ∧ b < W64
 ·rcases Nat.lt_or_ge (a + b) W64 with h | h
  ·exact B5k a b h w
  ·exact B3p a b hs.1 hs.2 h w
 ·exact B14 a b ha hb hs w
end Go.Proofs.YtlkniebmjdoopaaGreatDoor
