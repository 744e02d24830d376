/- Contracts and laws. -/
import Derived.Test.YtlkniebmjdoopaaGreatDoorR27
set_option linter.unusedSimpArgs false
set_option linter.unusedVariables false
set_option maxHeartbeats 2000000
set_option maxRecDepth 100000
namespace Go.Proofs.YtlkniebmjdoopaaGreatDoor
open Go.RowKit
theorem Rz.a {u : World} {p : Az} {q : Rat} (h : Rz u p q) : Rn u p.1 q.num.natAbs:=h.1
theorem Rz.b {u : World} {p : Az} {q : Rat} (h : Rz u p q) : Rn u p.2 q.den:=h.2
theorem Rz.put {u u' : World} {p : Az} {q : Rat} (h : Rz u p q) {bl : List (Nat × TypeId × Array Value)} (hB : Bx u bl) (k : Nat) {b : Nat} {t : TypeId} {cs : Array Value} (hk : bl[k]? = some (b,t,cs)) (ht : t ≠ 176) (i : Nat) (vs : List Value) (hu : F1 u b i vs = u') : Rz u' p q:=⟨h.1.put hB k hk ht i vs hu,h.2.put hB k hk ht i vs hu⟩
theorem Rz.own {u w' : World} {B : Nat} {e : TypeId} {size n : Nat} {v : Value} {xs : List Value} {o : Obj} {p : Az} {q : Rat} (hl : Rz u p q) (h : u.ownsRow B e size v n xs) (ht : e ≠ 176) (hg : (u.alloc o).grownBy w' v.ownBlock) : Rz w' p q:=⟨hl.1.own h ht hg,hl.2.own h ht hg⟩
def zL (p : Az) (q : Rat) : List Value:=[.bool (D2 q.num),.slice p.1.1 (ln q.num.natAbs) p.1.2,.slice p.2.1 (ln q.den) p.2.2]
def Cz (u : World) (b i : Nat) (p : Az) (q : Rat) : Prop :=
 u.cell? ⟨b,i,none⟩ = some (.bool (D2 q.num)) ∧ u.cell? ⟨b,i + 1,none⟩ = some (.slice p.1.1 (ln q.num.natAbs) p.1.2) ∧ u.cell? ⟨b,i + 2,none⟩ = some (.slice p.2.1 (ln q.den) p.2.2)
def Lz (u : World) (A : Option Addr) (l : List Rat) : Prop :=
 l ≠ [] → ∃ b off,A = some ⟨b,off,none⟩ ∧ b < u.heap.size ∧ ∀ i,i < l.length → ∃ p : Az,Rz u p (gq l i) ∧ Cz u b (off + i * 3) p (gq l i)
theorem Cz.grow {u u' : World} {b i : Nat} {p : Az} {q : Rat} (h : Cz u b i p q) (hb : b < u.heap.size) (hg : A3 u u') : Cz u' b i p q :=
 ⟨(hg.cell (p:=⟨b,i,none⟩) hb).trans h.1,(hg.cell (p:=⟨b,i + 1,none⟩) hb).trans h.2.1,(hg.cell (p:=⟨b,i + 2,none⟩) hb).trans h.2.2⟩
theorem Lz.grow {u u' : World} {A : Option Addr} {l : List Rat} (h : Lz u A l) (hg : A3 u u') : Lz u' A l:=fun hn=>by
 obtain ⟨b,off,e,hb,hc⟩:=h hn
 refine ⟨b,off,e,Nat.lt_of_lt_of_le hb hg.size,fun i hi=>?_⟩
 obtain ⟨p,h1,h2⟩:=hc i hi
 exact ⟨p,h1.grow hg,h2.grow hb hg⟩
theorem Lz.nil (u : World) (A : Option Addr) : Lz u A []:=fun h=>absurd rfl h
theorem Lz.addr {u : World} {A : Option Addr} {l : List Rat} (h : Lz u A l) (hl : 0 < l.length) : ∃ b off,A = some ⟨b,off,none⟩:=by
 obtain ⟨b,off,e,_⟩:=h (fun h0=>by rw [h0] at hl;cases hl)
 exact ⟨b,off,e⟩
theorem Lz.read {u : World} {b off : Nat} {l : List Rat} (h : Lz u (some ⟨b,off,none⟩) l) {i : Nat} (hi : i < l.length) : ∃ p : Az,∀ W,A3 u W → Rz W p (gq l i) ∧ Cz W b (off + i * 3) p (gq l i):=by
 obtain ⟨b',off',e,hb,hc⟩:=h (fun h0=>by rw [h0] at hi;cases hi)
 cases e
 obtain ⟨p,h1,h2⟩:=hc i hi
 exact ⟨p,fun W hg=>⟨h1.grow hg,h2.grow hb hg⟩⟩
abbrev Zr:=Az × Rat
def zrL (r : Zr) : List Value:=zL r.1 r.2
def F0 (u : World) (ps : List Zr) : Prop:=∀ r ∈ ps,Rz u r.1 r.2
theorem F0.nil (u : World) : F0 u []:=fun _ h=>by cases h
theorem F0.grow {u u' : World} {ps : List Zr} (h : F0 u ps) (hg : A3 u u') : F0 u' ps:=fun r hr=>(h r hr).grow hg
theorem F0.put {u u' : World} {ps : List Zr} (h : F0 u ps) {bl : List (Nat × TypeId × Array Value)} (hB : Bx u bl) (k : Nat) {b : Nat} {t : TypeId} {cs : Array Value} (hk : bl[k]? = some (b,t,cs)) (ht : t ≠ 176) (i : Nat) (vs : List Value) (hu : F1 u b i vs = u') : F0 u' ps:=fun r hr=>(h r hr).put hB k hk ht i vs hu
theorem F0.own {u w' : World} {B : Nat} {e : TypeId} {size n : Nat} {v : Value} {xs : List Value} {o : Obj} {ps : List Zr} (hl : F0 u ps) (h : u.ownsRow B e size v n xs) (ht : e ≠ 176) (hg : (u.alloc o).grownBy w' v.ownBlock) : F0 w' ps:=fun r hr=>(hl r hr).own h ht hg
theorem F0.snoc {u : World} {ps : List Zr} (h : F0 u ps) {p : Az} {q : Rat} (h1 : Rn u p.1 q.num.natAbs) (h2 : Rn u p.2 q.den) : F0 u (ps ++ [(p,q)]):=fun r hr=>by
 rcases List.mem_append.1 hr with hr | hr
 ·exact h r hr
 ·have : r = (p,q):=by simpa using hr
  subst this
  exact ⟨h1,h2⟩
theorem A3j (r : Zr) : (zrL r).length = 3:=rfl
theorem B6A (l : List Zr) {i : Nat} {r : Zr} (hi : l[i]? = some r) {j : Nat} (hj : j < 3) : (l.flatMap zrL)[i * 3 + j]? = (zrL r)[j]?:=by
 induction l generalizing i with
 | nil=>simp at hi
 | cons x l ih =>
  rw [List.flatMap_cons]
  cases i with
  | zero =>
   simp at hi
   subst hi
   rw [List.getElem?_append_left (by rw [A3j];omega)]
   simp
  | succ i =>
   rw [List.getElem?_append_right (by rw [A3j];omega),A3j,show (i + 1) * 3 + j - 3 = i * 3 + j by omega]
   exact ih (by simpa using hi)
theorem A8i (l : List Zr) : (l.flatMap zrL).length = 3 * l.length:=by
 induction l with
 | nil=>rfl
 | cons x l ih=>simp [List.flatMap_cons,A3j,ih];omega
theorem A0e {u : World} {B n : Nat} {v : Value} {ps : List Zr} (h : u.ownsRow B 66 3 v n (ps.flatMap zrL)) (ha : F0 u ps) : ∃ A c,v = .slice A n c ∧ (∀ b off,A = some ⟨b,off,none⟩ → B ≤ b) ∧ c ≤ maxLen ∧ Lz u A (ps.map (·.2)) ∧ n = ps.length:=by
 have hn : n = ps.length:=by have := h.1;rw [A8i] at this;omega
 obtain ⟨_,h | ⟨g,cap,cur,rfl,hb,hh,hn',hc,hs,ht⟩⟩:=h
 ·obtain ⟨rfl,h0⟩:=h
  exact ⟨none,0,by rw [h0],(fun b off e=>by cases e),by unfold maxLen;omega,fun hne=>absurd (by rw [List.eq_nil_of_length_eq_zero (l:=ps) (by omega)];rfl) hne,hn⟩
 ·refine ⟨_,cap,rfl,(fun b off e=>by cases e;exact hb),hc,fun _=>⟨g,0,rfl,R6 hh,fun i hi=>?_⟩,hn⟩
  have hil : i < ps.length:=by simpa using hi
  obtain ⟨r,hr⟩ : ∃ r,ps[i]? = some r:=⟨_,List.getElem?_eq_getElem hil⟩
  have hq : gq (ps.map (·.2)) i = r.2:=by unfold gq;rw [List.getElem?_map,hr];rfl
  rw [hq]
  refine ⟨r.1,ha r (List.mem_of_getElem? hr),?_⟩
  have key : ∀ j v,j < 3 → (zrL r)[j]? = some v → u.cell? ⟨g,0 + i * 3 + j,none⟩ = some v:=fun j v hj hv=>by
   rw [cell_of_row u g _ cur 66 (0,0) hh,Nat.zero_add]
   have h1 : (cur.toList.take (n * 3))[i * 3 + j]? = some v:=by rw [ht,B6A ps hr hj,hv]
   rw [List.getElem?_take,if_pos (by omega)] at h1
   simpa using h1
  exact ⟨key 0 _ (by omega) rfl,key 1 _ (by omega) rfl,key 2 _ (by omega) rfl⟩
theorem A13 (l : List Rat) : (l.flatMap qL).length = 5 * l.length:=by
 induction l with
 | nil=>rfl
 | cons x l ih=>simp [List.flatMap_cons,qL,ih];omega
theorem A3k (l : List Rat) {i : Nat} {q : Rat} (hi : l[i]? = some q) {j : Nat} (hj : j < 5) : (l.flatMap qL)[i * 5 + j]? = (qL q)[j]?:=by
 induction l generalizing i with
 | nil=>simp at hi
 | cons x l ih =>
  rw [List.flatMap_cons]
  cases i with
  | zero =>
   simp at hi
   subst hi
   rw [List.getElem?_append_left (by simp [qL];omega)]
   simp
  | succ i =>
   rw [List.getElem?_append_right (by simp [qL];omega),show (qL x).length = 5 from rfl,show (i + 1) * 5 + j - 5 = i * 5 + j by omega]
   exact ih (by simpa using hi)
theorem A0F {u : World} {B n : Nat} {v : Value} {l : List Rat} (h : u.ownsRow B 39 5 v n (l.flatMap qL)) : ∃ A c,v = .slice A n c ∧ n ≤ c ∧ c ≤ maxLen ∧ Lq u A l ∧ n = l.length:=by
 have hn : n = l.length:=by have := h.1;rw [A13] at this;omega
 obtain ⟨_,h | ⟨g,cap,cur,rfl,hb,hh,hn',hc,hs,ht⟩⟩:=h
 ·obtain ⟨rfl,h0⟩:=h
  exact ⟨none,0,by rw [h0],by omega,by unfold maxLen;omega,fun hne=>absurd (List.eq_nil_of_length_eq_zero (by omega)) hne,hn⟩
 ·refine ⟨_,cap,rfl,hn',hc,fun _=>⟨g,0,rfl,R6 hh,fun i q hi j v hj=>?_⟩,hn⟩
  have hil : i < l.length:=(List.getElem?_eq_some_iff.1 hi).1
  have hj5 : j < 5:=(List.getElem?_eq_some_iff.1 hj).1
  rw [cell_of_row u g _ cur 39 (0,0) hh,Nat.zero_add]
  have h1 : (cur.toList.take (n * 5))[i * 5 + j]? = some v:=by rw [ht,A3k l hi hj5,hj]
  rw [List.getElem?_take,if_pos (by omega)] at h1
  simpa using h1
theorem A9L (n m : Int) (hm : 0 < m) (hm2 : m ≤ 9223372036854775807) (w : World) : Calls Tryz.prog 31 #[.int .i64 n,.int .i64 m] w fun e w'=>e = .returned (.int .i64 (N0 n m)) ∧ A3 w w' :=
 (B3G n m hm hm2 w).mono fun e w' ⟨h,hw⟩=>⟨h,hw ▸ A3.refl _⟩
def Q3 : Nat → Int
 | 3=>2
 | 4=>3
 | 5=>4
 | _=>1
def J4 (n : Int) : Rat:=D8 (N0 n 41 - 20) (Q3 (N0 (n.tdiv 41) 6).toNat)
theorem A80 (j : Nat) : 0 < Q3 j ∧ Q3 j ≤ 4:=by unfold Q3;split <;> omega
theorem A6J (n : Int) : qs (J4 n) ≤ 5:=by
 have h1:=A34 n (m:=41) (by omega)
 have h2:=A80 (N0 (n.tdiv 41) 6).toNat
 exact B6s 0 0 _ _ 5 (by omega) (by omega) (by omega)
theorem B1R (n : Int) (h0 : -9223372036854775808 ≤ n) (h1 : n ≤ 9223372036854775807) : -9223372036854775808 ≤ n.tdiv 41 ∧ n.tdiv 41 ≤ 9223372036854775807:=by
 have h : n.tdiv 41 = n / 41 ∨ n.tdiv 41 = n / 41 + 1:=by
  rw [Int.tdiv_eq_ediv]
  split
  ·left;omega
  ·right;rfl
 omega
theorem B2Y (j : Nat) (hj : j < 6) (W : World) : (Instr.index 129 (.agg #[.int .i64 1,.int .i64 1,.int .i64 1,.int .i64 2,.int .i64 3,.int .i64 4]) (.int .i64 (j : Nat))).run Tryz.prog W = .ok (.int .i64 (Q3 j)) W:=by
 rcases (by omega : j = 0 ∨ j = 1 ∨ j = 2 ∨ j = 3 ∨ j = 4 ∨ j = 5) with rfl | rfl | rfl | rfl | rfl | rfl <;> kernel_rfl
theorem A6m (n : Int) (w : World) (h0 : -9223372036854775808 ≤ n) (h1 : n ≤ 9223372036854775807) : Calls Tryz.prog 26 #[.int .i64 n] w (Ret (G9 (J4 n)) w):=by
 obtain ⟨t,ht⟩ : ∃ t,t = n.tdiv 41:=⟨_,rfl⟩
 have htb : -9223372036854775808 ≤ t ∧ t ≤ 9223372036854775807:=by rw [ht];exact B1R n h0 h1
 have htw : IntKind.i64.wrap t = t:=IntWalk.i64_in _ htb
 obtain ⟨r1,r2⟩:=A34 n (m:=41) (by omega)
 obtain ⟨s1,s2⟩:=A34 t (m:=6) (by omega)
 have hov : ∀ W,Calls Tryz.prog 82 #[.int .i64 (N0 n 41 - 20),.int .i64 (Q3 (N0 t 6).toNat)] W (Ret (G9 (J4 n)) W):=fun W=>by
  have h2:=A80 (N0 t 6).toNat
  have := B0D (N0 n 41 - 20) (Q3 (N0 t 6).toNat) (by omega) (by omega) (by omega) (by omega) (by omega) W
  rw [ht] at this ⊢
  exact this
 obtain ⟨Q,hQ⟩ : ∃ Q,Q = J4 n:=⟨_,rfl⟩
 rw [← hQ] at hov ⊢
 obtain ⟨p,hp⟩ : ∃ p,p = N0 n 41:=⟨_,rfl⟩
 obtain ⟨j,hj⟩ : ∃ j : Nat,N0 t 6 = (j : Int):=⟨(N0 t 6).toNat,by omega⟩
 have hpk1:=fun W=>A9L n 41 (by omega) (by omega) W
 have hpk2:=fun W=>A9L t 6 (by omega) (by omega) W
 rw [hj] at hpk2 hov s1 s2
 rw [← hp] at hpk1 hov r1 r2
 rw [Int.toNat_natCast] at hov
 have htd : n.tdiv 41 = t:=ht.symm
 have hix:=B2Y j (by omega)
 have fw : IntKind.i64.wrap (p - 20) = p - 20:=IntWalk.i64_in _ (by omega)
 obtain ⟨D,hD⟩ : ∃ D,D = Q3 j:=⟨_,rfl⟩
 rw [← hD] at hov
 simp only [← hD] at hix
 have Hov:=Lib.hid hov
 have Hpk1:=Lib.hid hpk1
 have Hpk2:=Lib.hid hpk2
 clear ht hQ hp hj hD hov hpk1 hpk2
 go_enter Tryz.func26,Tryz.ntmps26
 refine en1 ?_
 intro u hG b2 hB hF
 refine wp_seq (rsC A5 [0,1,0,0,0,0,1,0,1] hB hG fun K L hN hL=>?_)
 refine gs ?_
 refine gmw (C:=fun v=>Hpk1.out _) ?_
 refine gs ?_
 refine gmw (C:=fun v=>Hpk2.out _) ?_
 refine gs ?_
 refine grd (G9 Q) (fun (x11 : Ax × Ax)=>?_) (C:=fun v _=>Hov.out _)
 refine geC hL ?_
 clear hB hG hL L
 rintro u ⟨⟨-,hB,hG,-⟩,hx11⟩
 obtain ⟨hx11a,hx11b⟩ : Rn u x11.1 _ ∧ Rn u x11.2 _:=hx11
 refine gtT ?_
 clear hN K
 refine sv hB hF hG 0 0 [_,_,_] ?_
 intro u hu hBG
 replace hx11a:=hx11a.put hB 0 rfl (by first | decide | simp) _ _ hu
 replace hx11b:=hx11b.put hB 0 rfl (by first | decide | simp) _ _ hu
 clear hB hG hu
 obtain ⟨hB,hG⟩:=hBG
 refine rt Tryz.results26 ?_
 exact ⟨x11,rfl,⟨hx11a,hx11b⟩,hG⟩
theorem B4p (n : Int) (w : World) (h0 : -9223372036854775808 ≤ n) (h1 : n ≤ 9223372036854775807) (HT : Tab w) : Calls Tryz.prog 19 #[.int .i64 n] w fun e w'=>e = .returned (qV (J4 n)) ∧ A3 w w':=by
 have hz : qs (J4 n) ≤ BIG:=Nat.le_trans (A6J n) (by unfold BIG;omega)
 have hr:=fun W=>A6m n W h0 h1
 generalize J4 n = Q at *
 go_enter Tryz.func19,Tryz.ntmps19
 refine en1 ?_
 intro u hG b2 hB hF
 refine wp_seq (rsC A5 [0,1,1] hB hG fun K L hN hL=>?_)
 refine gs ?_
 refine grd (G9 Q) (fun (x4 : Ax × Ax)=>?_) (C:=fun v _=>hr _)
 refine gmd (C:=by (rintro v ⟨⟨hgu,hB,hG,-⟩,hx4⟩;obtain ⟨hx4a,hx4b⟩ : Rn v x4.1 _ ∧ Rn v x4.2 _:=hx4;exact B1B x4.1 x4.2 Q _ hx4a hx4b hz (HT.grow hG))) ?_
 refine geC hL ?_
 clear hB hG hL L
 rintro u ⟨⟨-,hB,hG,-⟩,hx4⟩
 obtain ⟨hx4a,hx4b⟩ : Rn u x4.1 _ ∧ Rn u x4.2 _:=hx4
 refine gtT ?_
 clear hN K
 refine sv hB hF hG 0 0 [_,_,_,_,_] ?_
 intro u hu hBG
 replace hx4a:=hx4a.put hB 0 rfl (by first | decide | simp) _ _ hu
 replace hx4b:=hx4b.put hB 0 rfl (by first | decide | simp) _ _ hu
 clear hB hG hu
 obtain ⟨hB,hG⟩:=hBG
 refine rt Tryz.results19 ?_
 exact ⟨rfl,hG⟩
def A4k (l : List Int) (i : Nat) : Rat:=if i < l.length then J4 (gi l i) else B1 0
def K9 (l : List Int) (n : Nat) : List Rat:=(List.range n).map (A4k l)
theorem A2H (l : List Int) (n : Nat) : (K9 l n).length = n:=by unfold K9;simp
theorem B14 (l : List Int) (n : Nat) : K9 l (n + 1) = K9 l n ++ [A4k l n]:=by unfold K9;rw [List.range_succ,List.map_append];rfl
theorem B5E (A : Option Addr) (l : List Int) (c p n : Nat) (hp : p = l.length) (hn : n ≤ 1048576) (hpm : p ≤ 9223372036854775807) (hb : ∀ x ∈ l,-9223372036854775808 ≤ x ∧ x ≤ 9223372036854775807) (w : World) (h : Li w A l) :
  Calls Tryz.prog 34 #[.slice A p c,.int .i64 n] w fun e w'=>∃ (v : Value) (ps : List Zr),e = .returned v ∧ ps.map (·.2) = K9 l n ∧ F0 w' ps ∧ w'.ownsRow w.heap.size 66 3 v n (ps.flatMap zrL) ∧ A3 w w':=by
 have H:=Lib.hid h
 have Hp:=Lib.hid hp
 have Hb:=Lib.hid hb
 clear h hp hb
 go_enter Tryz.func34,Tryz.ntmps34
 refine en0 ?_
 intro u hG hB hF
 refine r0T ?_
 refine wp_seq ?_
 refine r0T ?_
 refine wp_block ?_
 clear hB hF
 go_loopw [6,5] (fun s0 s1 wr=>∃ (i : Nat) (ps : List Zr),i ≤ n ∧ s0 = .int .i64 i ∧ ps.map (·.2) = K9 l i ∧ F0 wr ps ∧ wr.ownsRow w.heap.size 66 3 s1 i (ps.flatMap zrL) ∧ A3 w wr) (fun s0 _ _=>n - (intOf s0).toNat)
 case atStart=>exact ⟨0,[],Nat.zero_le _,rfl,rfl,F0.nil _,World.ownsRow_nil _ _ _ _,hG⟩
 case round =>
  clear hG
  obtain ⟨i,ps,hi,rfl,hps,hA,ho,hG⟩:=hrel
  obtain ⟨u,rfl⟩ : ∃ x,x = wr:=⟨_,rfl⟩
  have hB:=Bx.nil u
  have hF:=Fr.nil w
  have Ho:=Lib.hid ho
  have Hps:=Lib.hid hps
  clear ho hps
  rcases Nat.lt_or_ge i n with hlt | hge
  ·have hdec : decide ((i : Int) < (n : Int)) = true:=by simp;omega
   have hsu:=B14 l i
   have hun : A4k l i = if i < l.length then J4 (gi l i) else B1 0:=rfl
   by_cases hip : i < p
   ·have hil : i < l.length:=by rw [← Hp.out];exact hip
    obtain ⟨ba,oa,hAe,-⟩:=H.out.cell hil
    have hcl : ∀ W,A3 w W → W.cell? ⟨ba,oa + i,none⟩ = some (.int .i64 (gi l i)):=fun W hg=>by
     obtain ⟨b',o',e,hc⟩:=(H.out.grow hg).cell hil
     rw [hAe] at e
     cases e
     exact hc
    obtain ⟨x1,x2⟩:=Hb.out (gi l i) (List.mem_of_getElem? (A73 hil))
    rw [if_pos hil] at hun
    rw [hun] at hsu
    have hr:=fun W=>A6m (gi l i) W x1 x2
    obtain ⟨X,hX⟩ : ∃ X,X = gi l i:=⟨_,rfl⟩
    simp only [← hX] at hcl hr
    rw [← hX] at hsu x1 x2
    obtain ⟨Q,hQ⟩ : ∃ Q,Q = J4 X:=⟨_,rfl⟩
    simp only [← hQ] at hr
    rw [← hQ] at hsu
    have Hsu:=Lib.hid hsu
    have Hcl:=Lib.hid hcl
    have Hr:=Lib.hid hr
    have hdp : decide ((i : Int) < (p : Int)) = true:=by simp;omega
    subst hAe
    clear hsu hcl hr hX hQ hun hil
    refine wp_seq ?_
    refine r0T ?_
    refine wp_cond_true (rfl) ?_
    refine wp_skip ?_
    refine A4 ?_
    refine wp_seq ?_
    refine wp_block ?_
    refine r0T ?_
    refine wp_cond_true (rfl) ?_
    refine A0A (w:=w) A5 6 [0,0,0,0,0,1] (by kernel_rfl) (by simp only [List.drop_succ_cons,List.drop_zero];exact rfl) (fun _=>True) noG hB hG trivial ?_
    intro K L hN hL
    simp only [List.zip_cons_cons,List.zip_nil_left]
    repeat first | refine gya ?_ | refine gyr ?_ | refine gna ?_ | refine gyb (by (rintro v ⟨hgu,hB,hG,-⟩ N hN;have r:=hB.r;simp only [BxR] at r;have hcb:=Hcl.out v hG;go_simp;exact hN)) ?_
    refine grd (G9 Q) (fun (x21 : Ax × Ax)=>?_) (C:=fun v _=>Hr.out _)
    refine J9 ?_
    rintro v ⟨⟨hgu,hB1,hG1,-⟩,hx21⟩
    replace hA:=hA.grow hgu
    obtain ⟨hx21a,hx21b⟩ : Rn v x21.1 _ ∧ Rn v x21.2 _:=hx21
    have ROWn:=Lib.hid (F4 Ho.out hgu)
    clear Ho
    have Ho:=ROWn
    clear ROWn
    clear hB hG
    have hB:=hB1
    have hG:=hG1
    clear hB1 hG1
    refine hL _ _ ?_
    clear hL L hgu
    obtain ⟨u,rfl⟩ : ∃ x,x = v:=⟨_,rfl⟩
    refine A1O A4s w.heap.size _ _ _ _ (zL x21 Q) rfl rfl (A7U x21.1 x21.2 Q u) rfl (fun _=>rfl) (fun _=>rfl) (fun _ _=>rfl) Ho.out (by omega) (by omega) hG.sz fun p v' w' g1 g2 g3=>?_
    have hBn:=Bx.nil w'
    have hGn:=A03 Ho.out hG g2
    replace hA:=hA.own Ho.out (by decide) g2
    replace hx21a:=hx21a.own Ho.out (by decide) g2
    replace hx21b:=hx21b.own Ho.out (by decide) g2
    clear Ho hB hG
    have Ho:=Lib.hid g1
    have hB:=hBn
    have hG:=hGn
    clear g1 g2 g3 hBn hGn
    obtain ⟨u,rfl⟩ : ∃ x,x = w':=⟨_,rfl⟩
    simp only [Act.put,List.setIfInBounds_toArray,List.set_cons_succ,List.set_cons_zero]
    refine NoK.norm (hN _ _ ?_)
    clear hN K
    refine D5 ?_
    refine A4 ?_
    refine r0E ?_
    refine A4 ?_
    go_roundw
    case rel=>exact ⟨i + 1,ps ++ [(x21,Q)],by omega,by go_num,by rw [List.map_append,Hps.out,Hsu.out];rfl,hA.snoc hx21a hx21b,by have := Ho.out;rw [List.flatMap_append];simpa [zrL] using this,hG⟩
    case measure=>simp [intOf];omega
   ·rw [if_neg (by rw [← Hp.out];exact hip)] at hun
    rw [hun] at hsu
    have Hsu:=Lib.hid hsu
    have hdp : decide ((i : Int) < (p : Int)) = false:=by simp;omega
    clear hsu hun
    refine wp_seq ?_
    refine r0T ?_
    refine wp_cond_true (rfl) ?_
    refine wp_skip ?_
    refine A4 ?_
    refine wp_seq ?_
    refine wp_block ?_
    refine r0T ?_
    refine wp_cond_false (rfl) ?_
    refine A0A (w:=w) A5 2 [0,1] (by kernel_rfl) (by simp only [List.drop_succ_cons,List.drop_zero];exact rfl) (fun _=>True) noG hB hG trivial ?_
    intro K L hN hL
    simp only [List.zip_cons_cons,List.zip_nil_left]
    refine gs ?_
    refine grd (G9 (B1 0)) (fun (x25 : Ax × Ax)=>?_) (C:=fun v _=>A0N 0 (by omega) (by omega) _)
    refine J9 ?_
    rintro v ⟨⟨hgu,hB1,hG1,-⟩,hx25⟩
    replace hA:=hA.grow hgu
    obtain ⟨hx25a,hx25b⟩ : Rn v x25.1 _ ∧ Rn v x25.2 _:=hx25
    have ROWn:=Lib.hid (F4 Ho.out hgu)
    clear Ho
    have Ho:=ROWn
    clear ROWn
    clear hB hG
    have hB:=hB1
    have hG:=hG1
    clear hB1 hG1
    refine hL _ _ ?_
    clear hL L hgu
    obtain ⟨u,rfl⟩ : ∃ x,x = v:=⟨_,rfl⟩
    refine A1O A4s w.heap.size _ _ _ _ (zL x25 (B1 0)) rfl rfl (A7U x25.1 x25.2 (B1 0) u) rfl (fun _=>rfl) (fun _=>rfl) (fun _ _=>rfl) Ho.out (by omega) (by omega) hG.sz fun p v' w' g1 g2 g3=>?_
    have hBn:=Bx.nil w'
    have hGn:=A03 Ho.out hG g2
    replace hA:=hA.own Ho.out (by decide) g2
    replace hx25a:=hx25a.own Ho.out (by decide) g2
    replace hx25b:=hx25b.own Ho.out (by decide) g2
    clear Ho hB hG
    have Ho:=Lib.hid g1
    have hB:=hBn
    have hG:=hGn
    clear g1 g2 g3 hBn hGn
    obtain ⟨u,rfl⟩ : ∃ x,x = w':=⟨_,rfl⟩
    simp only [Act.put,List.setIfInBounds_toArray,List.set_cons_succ,List.set_cons_zero]
    refine NoK.norm (hN _ _ ?_)
    clear hN K
    refine D5 ?_
    refine A4 ?_
    refine r0E ?_
    refine A4 ?_
    go_roundw
    case rel=>exact ⟨i + 1,ps ++ [(x25,B1 0)],by omega,by go_num,by rw [List.map_append,Hps.out,Hsu.out];rfl,hA.snoc hx25a hx25b,by have := Ho.out;rw [List.flatMap_append];simpa [zrL] using this,hG⟩
    case measure=>simp [intOf];omega
  ·obtain rfl : n = i:=by omega
   have hdec : decide ((n : Int) < (n : Int)) = false:=by simp
   refine wp_seq ?_
   refine r0T ?_
   refine wp_cond_false (rfl) ?_
   refine wp_exit ?_
   refine B4 ?_
   refine B4 ?_
   refine E1 ?_
   refine A4 ?_
   refine r0T ?_
   refine rt Tryz.results34 ?_
   exact ⟨_,ps,rfl,Hps.out,hA,Ho.out,hG⟩
theorem B1N (A : Option Addr) (l : List Rat) (c n : Nat) (hn : n = l.length) (hm : n ≤ 1048576) (hs : ∀ x ∈ l,qs x ≤ BIG) (w : World) (h : Lz w A l) (HT : Tab w) :
  Calls Tryz.prog 8 #[.slice A n c] w fun e w'=>∃ v : Value,e = .returned v ∧ w'.ownsRow w.heap.size 39 5 v n (l.flatMap qL) ∧ A3 w w':=by
 have H:=Lib.hid h
 have Hn:=Lib.hid hn
 have Hs:=Lib.hid hs
 clear h hn hs
 go_enter Tryz.func8,Tryz.ntmps8
 refine en0 ?_
 intro u hG hB hF
 refine r0T ?_
 refine wp_seq ?_
 refine r0T ?_
 refine wp_block ?_
 clear hB hF
 go_loopw [4,3] (fun s0 s1 wr=>∃ (i : Nat),i ≤ n ∧ s0 = .int .i64 i ∧ wr.ownsRow w.heap.size 39 5 s1 i ((l.take i).flatMap qL) ∧ A3 w wr) (fun s0 _ _=>n - (intOf s0).toNat)
 case atStart=>exact ⟨0,Nat.zero_le _,rfl,World.ownsRow_nil _ _ _ _,hG⟩
 case round =>
  clear hG
  obtain ⟨i,hi,rfl,ho,hG⟩:=hrel
  obtain ⟨u,rfl⟩ : ∃ x,x = wr:=⟨_,rfl⟩
  have hB:=Bx.nil u
  have hF:=Fr.nil w
  have Ho:=Lib.hid ho
  clear ho
  rcases Nat.lt_or_ge i n with hlt | hge
  ·have hdec : decide ((i : Int) < (n : Int)) = true:=by simp;omega
   have hil : i < l.length:=by rw [← Hn.out];exact hlt
   have hsu : l.take (i + 1) = l.take i ++ [gq l i]:=by
    rw [List.take_succ_eq_append_getElem hil]
    unfold gq
    rw [List.getElem?_eq_getElem hil]
    rfl
   obtain ⟨ba,oa,rfl⟩:=H.out.addr (by omega)
   obtain ⟨p,hrd⟩:=(H.out).read hil
   have z:=Hs.out _ (A1U hil)
   obtain ⟨Q,hQ⟩ : ∃ Q,Q = gq l i:=⟨_,rfl⟩
   rw [← hQ] at hsu z
   simp only [← hQ] at hrd
   have Hsu:=Lib.hid hsu
   have Hrd:=Lib.hid hrd
   clear hsu hrd hQ hil
   refine wp_seq ?_
   refine r0T ?_
   refine wp_cond_true (rfl) ?_
   refine wp_skip ?_
   refine A4 ?_
   refine wp_seq ?_
   refine wp_block ?_
   refine A0A (w:=w) A5 6 [0,0,0,0,0,1] (by kernel_rfl) (by simp only [List.drop_succ_cons,List.drop_zero];exact rfl) (fun _=>True) noG hB hG trivial ?_
   intro K L hN hL
   simp only [List.zip_cons_cons,List.zip_nil_left]
   repeat first | refine gya ?_ | refine gyr ?_ | refine gna ?_ | refine gyb (by (rintro v ⟨hgu,hB,hG,-⟩ N hN;have r:=hB.r;simp only [BxR] at r;obtain ⟨-,hc1,hc2,hc3⟩:=Hrd.out v hG;go_simp;exact hN)) ?_
   refine gmd (C:=fun v ⟨hgu,hB,hG,_⟩=>B1B p.1 p.2 Q _ (Hrd.out _ hG).1.a (Hrd.out _ hG).1.b z (HT.grow hG)) ?_
   refine J9 ?_
   rintro v ⟨hgu,hB1,hG1,-⟩
   have ROWn:=Lib.hid (F4 Ho.out hgu)
   clear Ho
   have Ho:=ROWn
   clear ROWn
   clear hB hG
   have hB:=hB1
   have hG:=hG1
   clear hB1 hG1
   refine hL _ _ ?_
   clear hL L hgu
   obtain ⟨u,rfl⟩ : ∃ x,x = v:=⟨_,rfl⟩
   refine A1O A5Y w.heap.size _ _ _ _ (qL Q) rfl rfl (A8u Q u) rfl (fun _=>rfl) (fun _=>rfl) (fun _ _=>rfl) Ho.out (by omega) (by omega) hG.sz fun p v' w' g1 g2 g3=>?_
   have hBn:=Bx.nil w'
   have hGn:=A03 Ho.out hG g2
   clear Ho hB hG
   have Ho:=Lib.hid g1
   have hB:=hBn
   have hG:=hGn
   clear g1 g2 g3 hBn hGn
   obtain ⟨u,rfl⟩ : ∃ x,x = w':=⟨_,rfl⟩
   simp only [Act.put,List.setIfInBounds_toArray,List.set_cons_succ,List.set_cons_zero]
   refine NoK.norm (hN _ _ ?_)
   clear hN K
   refine D5 ?_
   refine A4 ?_
   refine r0E ?_
   refine A4 ?_
   go_roundw
   case rel=>exact ⟨i + 1,by omega,by go_num,by have := Ho.out;rw [Hsu.out,List.flatMap_append];simpa using this,hG⟩
   case measure=>simp [intOf];omega
  ·obtain rfl : n = i:=by omega
   have hdec : decide ((n : Int) < (n : Int)) = false:=by simp
   have ho2:=Ho.out
   rw [List.take_of_length_le (Nat.le_of_eq Hn.out.symm)] at ho2
   have HL:=Lib.hid ho2
   clear ho2
   refine wp_seq ?_
   refine r0T ?_
   refine wp_cond_false (rfl) ?_
   refine wp_exit ?_
   refine B4 ?_
   refine B4 ?_
   refine E1 ?_
   refine A4 ?_
   refine r0T ?_
   refine rt Tryz.results8 ?_
   exact ⟨_,rfl,HL.out,hG⟩
end Go.Proofs.YtlkniebmjdoopaaGreatDoor
