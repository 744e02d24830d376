/- Contracts and laws. -/
import Derived.Test.YtlkniebmjdoopaaGreatDoorK30
set_option linter.unusedSimpArgs false
set_option linter.unusedVariables false
set_option maxHeartbeats 4000000
set_option maxRecDepth 100000
namespace Go.Proofs.YtlkniebmjdoopaaGreatDoor
open Go Go.RowKit
theorem A9R {q : Rat} : (q.num.sign == 0) = decide (q = 0):=by
 by_cases h : q = 0
 ·subst h;rfl
 ·have h1 : q.num ≠ 0:=fun e=>h (Rat.num_eq_zero.1 e)
  have h2 : q.num.sign ≠ 0:=fun e=>h1 (Int.sign_eq_zero_iff_zero.1 e)
  simp [h,h2]
def M5 (l : List Rat) : Nat → Nat
 | 0=>0
 | n + 1=>if gq l n = 0 then M5 l n else n + 1
def trN (l : List Rat) : Nat:=M5 l l.length
def trL (l : List Rat) : List Rat:=l.take (trN l)
theorem A7K (l : List Rat) : ∀ n,M5 l n ≤ n
 | 0=>Nat.le_refl _
 | n + 1=>by
  unfold M5
  split
  ·exact Nat.le_trans (A7K l n) (by omega)
  ·exact Nat.le_refl _
theorem G4 (l : List Rat) : trN l ≤ l.length:=A7K l _
theorem F4 (l : List Rat) : (trL l).length = trN l:=by
 unfold trL
 rw [List.length_take,Nat.min_eq_left (G4 l)]
theorem B5C {l : List Rat} {t j : Nat} (h : j < t) : gq (l.take t) j = gq l j:=by
 unfold gq
 rw [List.getElem?_take,if_pos h]
theorem A3W {W : World} {A : Option Addr} {l : List Rat} (h : Lq W A l) (t : Nat) : Lq W A (l.take t):=fun hne=>by
 have hl : l ≠ []:=fun e=>hne (by rw [e];simp)
 obtain ⟨b,off,e,hb,hc⟩:=h hl
 refine ⟨b,off,e,hb,fun i q hi=>hc i q ?_⟩
 rw [List.getElem?_take] at hi
 split at hi
 ·exact hi
 ·cases hi
theorem B4F {u : World} {b off : Nat} {l : List Rat} (h : Lq u (some ⟨b,off,none⟩) l) {j : Nat} {v : Value} (hj : (l.flatMap qL)[j]? = some v) : u.cell? ⟨b,off + j,none⟩ = some v:=by
 have htl:=(List.getElem?_eq_some_iff.1 hj).1
 rw [A10] at htl
 obtain ⟨b',off',e,hb,hc⟩:=h (fun e=>by rw [e] at htl;simp at htl)
 cases e
 have hq : l[j / 5]? = some (l[j / 5]'(by omega)):=List.getElem?_eq_getElem (by omega)
 have h6:=A2a l hq (j:=j % 5) (by omega)
 rw [show j / 5 * 5 + j % 5 = j by omega,hj] at h6
 have h7:=hc _ _ hq _ _ h6.symm
 rwa [show off + j / 5 * 5 + j % 5 = off + j by omega] at h7
theorem B4z {u : World} {B g n b off c : Nat} {z l : List Rat} (h : u.ownsRow B 39 5 (.slice (some ⟨g,0,none⟩) n n) n (z.flatMap qL)) (hn : l.length = n) (hn0 : 0 < n) (hm : n ≤ 1048576) (hL : Lq u (some ⟨b,off,none⟩) l) :
  ∃ w',(Builtin.copy_ #[23,23] 3 #[.slice (some ⟨g,0,none⟩) n n,.slice (some ⟨b,off,none⟩) n c]).run Tryz.prog u = .ok (goInt (n : Nat)) w' ∧ w'.ownsRow B 39 5 (.slice (some ⟨g,0,none⟩) n n) n (l.flatMap qL) ∧ u.grownBy w' (some g):=by
 have he : ∀ x : Rat,(qL x).length = 5:=fun _=>rfl
 have hsz : (Tryz.prog.info? 39).map (·.size) = some 5:=by
  have := A5V
  cases hi : Tryz.prog.info? 39 with
  | none=>rw [hi] at this;cases this
  | some i=>rw [hi] at this;simp only [Option.map_some,Option.some.injEq,Prod.mk.injEq] at this ⊢;exact this.2.1
 have hone : ∀ v ∈ l.flatMap qL,v.oneCell' = true:=fun v hv=>by
  obtain ⟨x,_,hx⟩:=List.mem_flatMap.1 hv
  simp only [qL,List.mem_cons,List.not_mem_nil,or_false] at hx
  rcases hx with rfl | rfl | rfl | rfl | rfl <;> rfl
 have hcl : (l.flatMap qL).length = n * 5:=by rw [A3C he,hn]
 obtain ⟨cur,hcur,hcs,hown,hgr⟩:=B5o h 0 (l.flatMap qL) (by rw [hcl];omega)
 have hsrc : ∀ j v,(l.flatMap qL)[j]? = some v → u.cell? (Addr.add ⟨b,off,none⟩ j) = some v:=fun j v hj=>by
  have hjl : j < n * 5:=by rw [← hcl];exact (List.getElem?_eq_some_iff.1 hj).1
  rw [Go.WideShapes.add_plain]
  exact B4F hL hj
 have hr:=B5j (P:=Tryz.prog) u 23 23 3 39 5 g 0 n n ⟨b,off,none⟩ n c cur 39 (l.flatMap qL) Tryz.underlying23 hsz hcur (by rw [hcl];show n * 5 = min n n * 5;rw [Nat.min_self]) hsrc (by omega) hone
 have hmm : Nat.min n n = n:=Nat.min_self n
 rw [hmm] at hr
 refine ⟨_,hr,?_,hgr⟩
 have hzl : (z.flatMap qL).length = n * 5:=h.1
 simpa only [List.take_zero,List.nil_append,Nat.zero_add,hcl,List.drop_eq_nil_of_le (Nat.le_of_eq hzl),List.append_nil] using hown
theorem A2P (A : Option Addr) (l : List Rat) (n c : Nat) (hl : l.length = n) (hc : n ≤ c) (hm : n ≤ 1048576) (hs : ∀ x ∈ l,qs x ≤ BIG) (w : World) (h : Lq w A l) :
  Calls Tryz.prog 49 #[.slice A n c] w fun e w'=>e = .returned (.slice A (trN l) (trN l)) ∧ A3 w w':=by
 have hBm:=K9
 have hrd : ∀ i,i < n → ∃ b o,A = some ⟨b,o,none⟩ ∧ ∀ W,A3 w W → Cq W b (o + i * 5) (gq l i):=fun i hi=>by
  obtain ⟨b,o,e⟩:=h.addr (by omega)
  subst e
  exact ⟨b,o,rfl,fun W hg=>(h.grow hg).read (by omega)⟩
 have hsg : ∀ i,i < n → ∀ W,Calls Tryz.prog 21 #[qV (gq l i)] W fun e w'=>e = .returned (.int .i64 (gq l i).num.sign) ∧ A3 W w':=fun i hi W=>Q7 _ (by have h1:=hs _ (A39 (l:=l) (i:=i) (by omega));have h2:=F8 (gq l i);omega) W
 have htn : trN l = M5 l n:=by unfold trN;rw [hl]
 have htl : ∀ t,M5 l (t + 1) = if gq l t = 0 then M5 l t else t + 1:=fun t=>rfl
 have hle:=G4 l
 obtain ⟨R,hR⟩ : ∃ R,R = trN l:=⟨_,rfl⟩
 rw [← hR] at htn hle ⊢
 have Hrd:=Lib.hid hrd
 have Hsg:=Lib.hid hsg
 have Htn:=Lib.hid htn
 have Htl:=Lib.hid htl
 have Hle:=Lib.hid (show R ≤ n by omega)
 clear hrd hsg htn htl hle hR hs h
 go_enter Tryz.func49,Tryz.ntmps49
 refine en0 ?_
 intro u hG hB hF
 refine r0T ?_
 refine wp_seq ?_
 refine wp_block ?_
 clear hB hF
 go_loopw [3] (fun s0 wr=>∃ t : Nat,t ≤ n ∧ M5 l t = R ∧ s0 = .int .i64 t ∧ A3 w wr) (fun s0 _=>(intOf s0).toNat)
 case atStart=>exact ⟨n,Nat.le_refl _,Htn.out.symm,rfl,hG⟩
 case round =>
  clear hG
  obtain ⟨t,ht,hR,rfl,hG⟩:=hrel
  obtain ⟨u,rfl⟩ : ∃ x,x = wr:=⟨_,rfl⟩
  have hB:=Bx.nil u
  have hF:=Fr.nil w
  rcases Nat.eq_zero_or_pos t with h0 | h0
  ·subst h0
   have e0:=Lib.hid (show R = 0 by rw [← hR];rfl)
   clear hR ht
   refine wp_seq ?_
   refine wp_seq (rsE A5 [0,0,0,0,0,0,0,0,1,0,0] hB hG fun L hL=>?_)
   refine gs ?_
   refine gmn (by exact rfl) ?_
   refine okf (by simp only [Act.put,List.setIfInBounds_toArray,List.set_cons_succ,List.set_cons_zero];exact rfl) ?_
   refine gs ?_
   refine geT hL ?_
   clear hB hG hL L
   rintro u ⟨-,hB,hG,-⟩
   refine wp_cond_false (rfl) ?_
   refine wp_exit ?_
   refine D7 ?_
   refine D7 ?_
   refine G8 ?_
   refine A4 ?_
   refine r0T ?_
   refine rt Tryz.results49 ?_
   exact ⟨by rw [e0.out],hG⟩
  ·obtain ⟨k,rfl⟩ : ∃ k,t = k + 1:=⟨t - 1,by omega⟩
   have f7 : decide ((0 : Int) < ((k + 1 : Nat) : Int)) = true:=decide_eq_true (by omega)
   have fw : IntKind.i64.wrap (((k + 1 : Nat) : Int) - 1) = (k : Int):=by rw [IntWalk.i64_in _ (by omega)];omega
   have hkn : (k : Int) < (n : Int):=by omega
   obtain ⟨b,o,rfl,hrd⟩:=Hrd.out k (by omega)
   have hsg:=Hsg.out k (by omega)
   have htl:=Htl.out k
   have hs0:=@A9R (gq l k)
   obtain ⟨X,hX⟩ : ∃ X,X = gq l k:=⟨_,rfl⟩
   rw [← hX] at htl hs0
   simp only [← hX] at hrd hsg
   obtain ⟨S,hS⟩ : ∃ S,S = X.num.sign:=⟨_,rfl⟩
   rw [← hS] at hs0
   simp only [← hS] at hsg
   have Hrd1:=Lib.hid hrd
   have Hsg1:=Lib.hid hsg
   obtain ⟨t,hte⟩ : ∃ t,t = k + 1:=⟨_,rfl⟩
   rw [← hte] at f7 fw hR ht htl h0 ⊢
   by_cases hx : X = 0
   ·have fs : (S == 0) = true:=by rw [hs0];simp [hx]
    have HR:=Lib.hid (show M5 l k = R by rw [← hR,htl,if_pos hx])
    have Hte:=Lib.hid hte
    clear hrd hsg hx hS hX hs0 htl hR hte
    refine wp_seq ?_
    refine wp_seq (rsE A5 [0,0,0,0,0,0,0,0,1,0,0] hB hG fun L hL=>?_)
    repeat first | refine gya ?_ | refine gyr ?_ | refine gna ?_ | refine gyb (by (rintro v ⟨hgu,hB,hG,-⟩ N hN;have r:=hB.r;simp only [BxR] at r;obtain ⟨q1,q2,q3,q4,q5⟩:=Hrd1.out v hG;go_simp;exact hN)) ?_
    first | refine gmw (C:=fun v=>Hsg1.out _) ?_ | refine G7 ?_
    refine gs ?_
    refine geT hL ?_
    clear hB hG hL L
    rintro u ⟨-,hB,hG,-⟩
    refine wp_cond_true (rfl) ?_
    refine wp_skip ?_
    refine A4 ?_
    refine wp_block ?_
    refine r0E ?_
    refine F0 ?_
    refine A4 ?_
    go_roundw
    case rel=>exact ⟨k,by omega,HR.out,rfl,hG⟩
    case measure=>have hte:=Hte.out;simp [intOf];omega
   ·have fs : (S == 0) = false:=by rw [hs0];simp [hx]
    have HR:=Lib.hid (show t = R by rw [← hR,htl,if_neg hx,hte])
    have Hte:=Lib.hid hte
    clear hrd hsg hx hS hX hs0 htl hR hte
    refine wp_seq ?_
    refine wp_seq (rsE A5 [0,0,0,0,0,0,0,0,1,0,0] hB hG fun L hL=>?_)
    repeat first | refine gya ?_ | refine gyr ?_ | refine gna ?_ | refine gyb (by (rintro v ⟨hgu,hB,hG,-⟩ N hN;have r:=hB.r;simp only [BxR] at r;obtain ⟨q1,q2,q3,q4,q5⟩:=Hrd1.out v hG;go_simp;exact hN)) ?_
    first | refine gmw (C:=fun v=>Hsg1.out _) ?_ | refine G7 ?_
    refine gs ?_
    refine geT hL ?_
    clear hB hG hL L
    rintro u ⟨-,hB,hG,-⟩
    refine wp_cond_false (rfl) ?_
    refine wp_exit ?_
    refine D7 ?_
    refine D7 ?_
    refine G8 ?_
    refine A4 ?_
    refine r0T ?_
    refine rt Tryz.results49 ?_
    exact ⟨by rw [← HR.out],hG⟩
theorem B5X (g c : Nat) (A : Option Addr) (u : World) : (Builtin.copy_ #[23,23] 3 #[.slice (some ⟨g,0,none⟩) 0 0,.slice A 0 c]).run Tryz.prog u = .ok (goInt (0 : Nat)) u:=by
 have hsz : (Tryz.prog.info? 39).map (·.size) = some 5:=by
  have := A5V
  cases hi : Tryz.prog.info? 39 with
  | none=>rw [hi] at this;cases this
  | some i=>rw [hi] at this;simp only [Option.map_some,Option.some.injEq,Prod.mk.injEq] at this ⊢;exact this.2.1
 cases hq : Tryz.prog.info? 39 with
 | none=>simp [hq] at hsz
 | some i =>
  have hi : i.size = 5:=by simpa [hq] using hsz
  cases A with
  | none=>simp [Builtin.copy_,run_underlying Tryz.underlying23,Builtin.lenOf,Builtin.firstCells,sizeOf,typeInfo,hq,hi,storeCells]
  | some a=>simp [Builtin.copy_,run_underlying Tryz.underlying23,Builtin.lenOf,Builtin.firstCells,sizeOf,typeInfo,hq,hi,storeCells,loadCells,loadCellsFrom]
theorem B5L {u : World} {B g n c : Nat} {A : Option Addr} {z l : List Rat} (h : u.ownsRow B 39 5 (.slice (some ⟨g,0,none⟩) n n) n (z.flatMap qL)) (hn : l.length = n) (hm : n ≤ 1048576) (hL : Lq u A l) :
  ∃ w',(Builtin.copy_ #[23,23] 3 #[.slice (some ⟨g,0,none⟩) n n,.slice A n c]).run Tryz.prog u = .ok (goInt (n : Nat)) w' ∧ w'.ownsRow B 39 5 (.slice (some ⟨g,0,none⟩) n n) n (l.flatMap qL) ∧ u.grownBy w' (some g):=by
 rcases Nat.eq_zero_or_pos n with h0 | h0
 ·subst h0
  have hz : z.flatMap qL = []:=List.eq_nil_of_length_eq_zero (by have := h.1;omega)
  have hl : l.flatMap qL = []:=by rw [List.eq_nil_of_length_eq_zero hn];rfl
  rw [hz] at h
  rw [hl]
  exact ⟨u,B5X g c A u,h,⟨rfl,rfl,rfl,Nat.le_refl _,fun _ _ _=>rfl⟩⟩
 ·obtain ⟨b,off,rfl⟩:=hL.addr (by omega)
  exact B4z h hn h0 hm hL
def PQ (B x : Nat) (l : List Rat) (W : World) : Prop:=W.ownsRow B 39 5 (.slice (some ⟨x,0,none⟩) l.length l.length) l.length (l.flatMap qL)
theorem PQ.grow {B x : Nat} {l : List Rat} {u v : World} (h : PQ B x l u) (hg : A3 u v) : PQ B x l v:=F3 h hg
theorem PQ.mono {B B' x : Nat} {l : List Rat} {u : World} (h : PQ B x l u) (hb : B' ≤ B) : PQ B' x l u:=World.ownsRow.mono h hb
theorem PQ.lq {B x : Nat} {l : List Rat} {u : World} (h : PQ B x l u) : Lq u (some ⟨x,0,none⟩) l:=by
 obtain ⟨A,c,e,-,-,hL,-⟩:=Z8 h
 cases e
 exact hL
theorem PQ.lt {B x : Nat} {l : List Rat} {u : World} (h : PQ B x l u) : B ≤ x ∧ x < u.heap.size:=World.ownsRow.lt h x rfl
theorem A1B (A : Option Addr) (l : List Rat) (n c : Nat) (hl : l.length = n) (hc : n ≤ c) (hm : n ≤ 1048576) (hs : ∀ x ∈ l,qs x ≤ BIG) (w : World) (h : Lq w A l) :
  Calls Tryz.prog 109 #[.slice A n c] w (I1 (fun x : Nat=>.slice (some ⟨x,0,none⟩) (trN l) (trN l)) (fun x W=>PQ w.heap.size x (trL l) W) w):=by
 have htr:=fun W (hg : A3 w W)=>A2P A l n c hl hc hm hs W (h.grow hg)
 have hlt : (trL l).length = trN l:=F4 l
 have hle : trN l ≤ 1048576:=Nat.le_trans (G4 l) (by omega)
 have hlq:=fun W (hg : A3 w W)=>A3W (h.grow hg) (trN l)
 unfold PQ
 rw [hlt]
 have htl : l.take (trN l) = trL l:=rfl
 rw [htl] at hlq
 obtain ⟨TL,hTL⟩ : ∃ TL,TL = trL l:=⟨_,rfl⟩
 rw [← hTL] at hlt ⊢
 simp only [← hTL] at hlq
 obtain ⟨R,hR⟩ : ∃ R,R = trN l:=⟨_,rfl⟩
 rw [← hR] at hlt hle ⊢
 simp only [← hR] at htr
 have hmk:=A1V R hle (R : Int) rfl
 have Htr:=Lib.hid htr
 have Hmk:=Lib.hid hmk
 have Hlq:=Lib.hid hlq
 have Hlt:=Lib.hid hlt
 clear htr hmk hlq hlt htl hTL hR hs h hl hc hm
 go_enter Tryz.func109,Tryz.ntmps109
 refine en0 ?_
 intro u hG hB hF
 refine wp_seq (rsE A5 [0,1,0] hB hG fun L hL=>?_)
 refine gs ?_
 refine gmd (C:=fun v ⟨hgu,hB,hG,_⟩=>Htr.out _ hG) ?_
 refine gs ?_
 refine geT hL ?_
 clear hB hG hL L
 rintro u ⟨-,hB,hG,-⟩
 refine wp_seq ?_
 have hmk:=Hmk.out
 refine M9 ?_
 intro K hN
 go_wp2_with fail
 generalize hv : World.alloc u _ = v
 have hrow:=A2q (B:=w.heap.size) hG.sz hle hv
 have hgv : A3 u v:=hv ▸ A3.alloc u _
 have hG2:=hG.trans hgv
 clear hv hG hB hmk hgv
 generalize u.heap.size = g at hrow ⊢
 have Ho:=Lib.hid hrow
 have hG:=hG2
 have hB:=Bx.nil v
 have hF:=Fr.nil w
 clear hrow hG2
 obtain ⟨u,rfl⟩ : ∃ x,x = v:=⟨_,rfl⟩
 refine NoK.norm (hN _ _ ?_)
 clear hN K
 refine A4 ?_
 refine wp_seq ?_
 obtain ⟨w5,hcp,q1,q2⟩:=B5L (c:=R) Ho.out Hlt.out hle (Hlq.out u hG)
 have hG2:=A4Z Ho.out hG q2
 refine M9 ?_
 intro K hN
 go_wp2_with (at_builtin;refine B1C rfl (.tmp 9) (.tmp 10) 23 rfl rfl rfl hcp ?_)
 clear hcp Ho hG hB
 have Ho:=Lib.hid q1
 have hG:=hG2
 have hB:=Bx.nil w5
 clear q1 hG2 q2
 obtain ⟨u,rfl⟩ : ∃ x,x = w5:=⟨_,rfl⟩
 refine NoK.norm (hN _ _ ?_)
 clear hN K
 refine A4 ?_
 refine r0T ?_
 refine rt Tryz.results109 ?_
 exact ⟨g,rfl,Ho.out,hG⟩
theorem A2c (A : Option Addr) (l : List Rat) (n c : Nat) (hl : l.length = n) (hc : n ≤ c) (hm : n ≤ 1048576) (hs : ∀ x ∈ l,qs x ≤ BIG) (w : World) (h : Lq w A l) :
  Calls Tryz.prog 11 #[.slice A n c] w fun e w'=>e = .returned (.int .i64 ((trN l : Int) - 1)) ∧ A3 w w':=by
 have htr:=fun W (hg : A3 w W)=>A2P A l n c hl hc hm hs W (h.grow hg)
 have hle : trN l ≤ 1048576:=Nat.le_trans (G4 l) (by omega)
 obtain ⟨R,hR⟩ : ∃ R,R = trN l:=⟨_,rfl⟩
 rw [← hR] at hle ⊢
 simp only [← hR] at htr
 have fw : IntKind.i64.wrap ((R : Int) - 1) = (R : Int) - 1:=IntWalk.i64_in _ (by omega)
 have Htr:=Lib.hid htr
 clear htr hR hs h hl hc hm
 go_enter Tryz.func11,Tryz.ntmps11
 refine en0 ?_
 intro u hG hB hF
 refine wp_seq (rsE A5 [0,1,0,0,0] hB hG fun L hL=>?_)
 refine gs ?_
 refine gmd (C:=fun v ⟨hgu,hB,hG,_⟩=>Htr.out _ hG) ?_
 refine gs ?_
 refine geT hL ?_
 clear hB hG hL L
 rintro u ⟨-,hB,hG,-⟩
 refine rt Tryz.results11 ?_
 exact ⟨rfl,hG⟩
end Go.Proofs.YtlkniebmjdoopaaGreatDoor
