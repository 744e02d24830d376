/- Contracts and laws. -/
import Derived.Test.YtjmopgepnndckaaGreatDoorW41
import Derived.Test.YtjmopgepnndckaaGreatDoorW45
set_option linter.unusedSimpArgs false
set_option linter.unusedVariables false
set_option maxHeartbeats 8000000
set_option maxRecDepth 100000
namespace Go.Proofs.YtjmopgepnndckaaGreatDoor
theorem A1t {X : List (List Rat)} {L : Nat} {ns : List NdT} (h : H6 X L ns = 0) : A2C X L ns:=by
 obtain ⟨hl,-,hb,hw⟩:=A2E h
 have hc : ∀ (k : Nat) (hk : k < ns.length),∃ c r : Nat,ns[k].c = c ∧ c < L ∧ ns[k].r = r ∧ r < X.length ∧ O0 ns k (r : Nat) = false:=fun k hk=>by
  have h0:=hb k hk
  rcases A5R (L:=L) (n:=X.length) (List.getElem?_eq_getElem hk) with ⟨_,h1⟩ | ⟨c,_,_,h1⟩ | ⟨c,_,_,_,h1⟩ | ⟨c,r,_,_,_,_,h1⟩ | ⟨c,r,_,_,_,_,_,h1⟩ | ⟨c,r,h1,h2,h3,h4,h5,_⟩
  ·rw [h0] at h1;cases h1
  ·rw [h0] at h1;cases h1
  ·rw [h0] at h1;cases h1
  ·rw [h0] at h1;cases h1
  ·rw [h0] at h1;cases h1
  ·exact ⟨c,r,h1,h2,h3,h4,h5⟩
 refine ⟨fun n hn=>?_,?_,fun i e d he=>?_⟩
 ·obtain ⟨k,hk,rfl⟩:=List.getElem_of_mem hn
  obtain ⟨c,r,h1,h2,h3,h4,_⟩:=hc k hk
  omega
 ·unfold List.Nodup
  rw [List.pairwise_map,List.pairwise_iff_getElem]
  intro i j hi hj hij he
  obtain ⟨c,r,_,_,h3,_,h5⟩:=hc j hj
  have h6 : O0 ns j (r : Nat) = true:=by
   unfold O0
   rw [List.any_eq_true]
   refine ⟨ns[i],?_,by simp;omega⟩
   rw [List.mem_iff_getElem]
   exact ⟨i,by simp;omega,by simp⟩
  rw [h5] at h6
  cases h6
 ·intro n hn j hij hje
  have hi : i < ns.length:=(List.getElem?_eq_some_iff.1 hn).1
  obtain ⟨s,g1,g2,g3,g4,g5⟩:=A1e ns _ i e d he
  have hj : j < ns.length:=by omega
  have hE : J3 (D9 ns i) = e:=by unfold D9;rw [he];rfl
  have h1:=hw i hi
  have h2 : N9 X ns i j = false:=by
   cases h3 : N9 X ns i j with
   | false=>rfl
   | true=>rw [A7V hij (by rw [hE];exact hje) h3] at h1;cases h1
  have hr : Q5 ns j = ns[j].r.toNat:=by unfold Q5;rw [List.getElem?_eq_getElem hj];rfl
  rw [A2f hn (List.getElem?_eq_getElem hj),A5K hn,hE] at h2
  rw [hr]
  generalize (if n.t = 0 then (e : Int) else n.t) = G at h2 ⊢
  generalize ent X ns[j].r.toNat n.c.toNat = Y at h2 ⊢
  generalize ent X n.r.toNat n.c.toNat = P at h2 ⊢
  rw [Bool.or_eq_false_iff,Bool.and_eq_false_iff,Bool.and_eq_false_iff] at h2
  simp only [decide_eq_false_iff_not] at h2
  obtain ⟨h3,h4⟩:=h2
  unfold E5 at h3 h4
  refine ⟨fun hjG=>?_,fun hjG=>?_⟩
  ·have h5:=h3.resolve_left (by omega)
   by_cases h6 : P < Y
   ·have h7 : ¬ Y < P:=fun h=>by grind
    rw [if_neg h7,if_pos h6] at h5
    exact absurd (by decide) h5
   ·grind
  ·have h5:=h4.resolve_left (by omega)
   by_cases h6 : Y < P
   ·rw [if_pos h6] at h5
    exact absurd (by decide) h5
   ·grind
theorem A6K {X : List (List Rat)} {L : Nat} {ns : List NdT} (h : H6 X L ns = 0) : ∃ s : Sh,0 < s.size ∧ Lay ns s 0 ∧ s.size = ns.length ∧ ns.length = X.length:=by
 obtain ⟨hl,⟨d,hp⟩,-,-⟩:=A2E h
 obtain ⟨s,h1,h2,h3,h4,h5⟩:=A1e ns _ 0 ns.length d hp
 exact ⟨s,h1,h2,by omega,hl⟩
theorem A66 {X : List (List Rat)} {q : List Rat} {L : Nat} {ns : List NdT} (h : H6 X L ns = 0) {s : Sh} (hs : s.size = ns.length) : ((toK ns s 0).hits X q L).Perm (D5 (I4 X q L) X.length):=by
 obtain ⟨hl,-,-,-⟩:=A2E h
 have hr:=B12 (A1t h) hl hs
 unfold KT.hits D5
 exact hr.map _
theorem B3S (k : Nat) : C9 k [] = []:=List.eq_nil_of_length_eq_zero (by rw [A2A];simp)
theorem B5K {X : List (List Rat)} {q : List Rat} {L k : Nat} {ns : List NdT} (hk : 0 < k) (h : H6 X L ns = 0) {s : Sh} (hlay : Lay ns s 0) (hs : s.size = ns.length) : (E9 X q L (K6 k) k (toK ns s 0) ([],0)).1 = C9 k (D5 (I4 X q L) X.length):=by
 obtain ⟨h1,h2⟩:=A2n (A1t h) s 0 hlay
 have h3:=A19 X q L k hk (toK ns s 0) [] 0 h1 h2
 rw [B3S,List.append_nil] at h3
 rw [h3]
 exact A0l k (A66 h hs)
theorem B2O (f : Rat) : F5 f [] = []:=List.eq_nil_of_length_eq_zero (by have := A4d f [];simpa using this)
theorem B0y {X : List (List Rat)} {q : List Rat} {L : Nat} {f : Rat} {ns : List NdT} (h : H6 X L ns = 0) {s : Sh} (hlay : Lay ns s 0) (hs : s.size = ns.length) : (E9 X q L (fun _=>some f) X.length (toK ns s 0) ([],0)).1 = F5 f (D5 (I4 X q L) X.length):=by
 obtain ⟨h1,h2⟩:=A2n (A1t h) s 0 hlay
 obtain ⟨hl,-,-,-⟩:=A2E h
 have h3:=A1y X q L f X.length (toK ns s 0) [] 0 h1 h2 (by rw [A11];simp;omega)
 rw [B2O,List.append_nil] at h3
 rw [h3]
 exact A1o f (A66 h hs)
theorem B1V {X : List (List Rat)} {q : List Rat} {L keep : Nat} {most : List Ht → Option Rat} {ns : List NdT} (h : H6 X L ns = 0) {s : Sh} (hs : s.size = ns.length) : (E9 X q L most keep (toK ns s 0) ([],0)).2 ≤ X.length ∧ (E9 X q L most keep (toK ns s 0) ([],0)).1.length ≤ (E9 X q L most keep (toK ns s 0) ([],0)).2:=by
 obtain ⟨h1,h2,h3⟩:=A1X X q L most keep (toK ns s 0) ([],0)
 obtain ⟨hl,-,-,-⟩:=A2E h
 rw [A11] at h2
 exact ⟨by simp only at h2;omega,h3 (by simp)⟩
end Go.Proofs.YtjmopgepnndckaaGreatDoor
namespace Go.Proofs.YtjmopgepnndckaaGreatDoor
open Go Go.RowKit
theorem A99 {P : Program} {c : Code} {Q : Exit → Act → World → Prop} {a : Act} {w : World} (h : ∀ u,A3 w u → c.wp P Q a u) : c.wp P Q a w:=h w (A3.refl w)
def A3A (mf : List Ht → Option Rat) (gap : Rat) (hs : List Ht) : Bool:=match mf hs with | some m=>decide (F4 gap gap ≤ m) | none=>true
theorem A5t (X : List (List Rat)) (q : List Rat) (w : Nat) (mf : List Ht → Option Rat) (keep r c : Nat) (a b : KT) (st : List Ht × Nat) (G : Rat) (hG : G = G4 (q.getD c 0) (ent X r c)) (g : Bool) (hg : g = decide (0 < G)) (s2 : List Ht × Nat) (h2 : s2 = E9 X q w mf keep (if g then b else a) (H4 mf keep (F9 X q w r) st.1,st.2 + 1)) :
  E9 X q w mf keep (.node r c a b) st = if A3A mf G s2.1 then E9 X q w mf keep (if g then a else b) s2 else s2:=by
 have hG2 : q.getD c 0 - ent X r c = G:=hG.symm
 subst h2
 unfold A3A
 show E9 X q w mf keep (.node r c a b) st = _
 rw [E9]
 simp only
 rw [hG2]
 cases g with
 | true =>
  have h0 : 0 < G:=of_decide_eq_true hg.symm
  rw [if_pos h0]
  simp only [if_true]
  cases mf (E9 X q w mf keep b (H4 mf keep (F9 X q w r) st.1,st.2 + 1)).1 with
  | none=>rfl
  | some m =>
   show (if G * G ≤ m then _ else _) = if decide (F4 G G ≤ m) = true then _ else _
   by_cases hc : F4 G G ≤ m
   ·rw [if_pos (show G * G ≤ m from hc),if_pos (decide_eq_true hc)]
   ·rw [if_neg (show ¬ G * G ≤ m from hc),if_neg (by simpa using hc)]
 | false =>
  have h0 : ¬ 0 < G:=of_decide_eq_false hg.symm
  rw [if_neg h0]
  simp only [Bool.false_eq_true,if_false]
  cases mf (E9 X q w mf keep a (H4 mf keep (F9 X q w r) st.1,st.2 + 1)).1 with
  | none=>rfl
  | some m =>
   show (if G * G ≤ m then _ else _) = if decide (F4 G G ≤ m) = true then _ else _
   by_cases hc : F4 G G ≤ m
   ·rw [if_pos (show G * G ≤ m from hc),if_pos (decide_eq_true hc)]
   ·rw [if_neg (show ¬ G * G ≤ m from hc),if_neg (by simpa using hc)]
def Y6 (s : Nat) (st : List Ht × Nat) : Prop:=(∀ x ∈ st.1,qs x.2 ≤ s) ∧ st.1.Pairwise leH ∧ st.1.length ≤ st.2
theorem Y6.take {s : Nat} {mf : List Ht → Option Rat} {keep : Nat} {h : Ht} {st : List Ht × Nat} (hi : Y6 s st) (hh : qs h.2 ≤ s) : Y6 s (H4 mf keep h st.1,st.2 + 1) :=
 ⟨fun x hx=>(B4M hx).elim (fun e=>by rw [e];exact hh) (hi.1 x),B3E hi.2.1,by have := A68 mf keep h st.1;have := hi.2.2;simp only;omega⟩
theorem A2L {X : List (List Rat)} {q : List Rat} {w : Nat} {mf : List Ht → Option Rat} {keep s : Nat} : ∀ (t : KT) (st : List Ht × Nat),(∀ r ∈ t.rows,qs (I4 X q w r) ≤ s) → Y6 s st → Y6 s (E9 X q w mf keep t st)
 | .none,st,_,hi=>hi
 | .node r c a b,st,hr,hi=>by
  have ha : ∀ r ∈ a.rows,qs (I4 X q w r) ≤ s:=fun x hx=>hr x (List.mem_cons_of_mem _ (List.mem_append_left _ hx))
  have hb : ∀ r ∈ b.rows,qs (I4 X q w r) ≤ s:=fun x hx=>hr x (List.mem_cons_of_mem _ (List.mem_append_right _ hx))
  have h1 : Y6 s (H4 mf keep (F9 X q w r) st.1,st.2 + 1):=hi.take (hr r List.mem_cons_self)
  rw [A5t X q w mf keep r c a b st _ rfl _ rfl _ rfl]
  generalize decide (0 < G4 (q.getD c 0) (ent X r c)) = g
  cases g with
  | true =>
   simp only [if_true]
   have h2:=A2L (mf:=mf) (keep:=keep) b _ hb h1
   split
   ·exact A2L (mf:=mf) (keep:=keep) a _ ha h2
   ·exact h2
  | false =>
   simp only [Bool.false_eq_true,if_false]
   have h2:=A2L (mf:=mf) (keep:=keep) a _ ha h1
   split
   ·exact A2L (mf:=mf) (keep:=keep) b _ hb h2
   ·exact h2
theorem A30 (X : List (List Rat)) (q : List Rat) (w i : Nat) : I4 X q w i = G0 (F7 X i) q w:=by
 unfold I4 G0 sqQ F7
 congr 1
theorem A49 {q : Rat} (h : q < 0) : q.num < 0:=Int.not_le.1 fun h1=>absurd (Rat.num_nonneg.1 h1) (Rat.not_le.2 h)
theorem A83 {q : Rat} : 0 < q.num ↔ 0 < q:=by
 have h:=@Rat.num_nonneg (-q)
 rw [Rat.neg_num] at h
 refine ⟨fun h1=>Rat.not_le.1 fun h2=>?_,fun h1=>Int.not_le.1 fun h2=>?_⟩
 ·have := h.2 (by grind)
  omega
 ·have := h.1 (by omega)
  grind
theorem B5a (q : Rat) : decide (0 < q.num.sign) = decide (0 < q):=by
 have h : (0 < q.num.sign) ↔ 0 < q:=by
  rw [Int.sign_pos_iff,A83]
 exact decide_eq_decide.2 h
def A4L (b99 keep s : Nat) (c0 c1 c2 : Value) (MF : FuncId) (MC : Array Value) (mf : List Ht → Option Rat) (I : World → Prop) (w0 : World) (X : List (List Rat)) (q : List Rat) (L : Nat) (ns : List NdT) (f : Nat) : Prop :=
 ∀ (sh : Sh) (i : Nat) (hs : List Ht) (lk : Nat) (HA : Option Addr) (HC : Nat) (W : World),0 < sh.size → sh.size ≤ f → Lay ns sh i → A3 w0 W → I W → Y6 s (hs,lk) → lk + sh.size ≤ 90000 → SrW b99 w0.heap.size c0 c1 c2 (.int .i64 (keep : Nat)) (.func (.func MF) #[] MC) HA HC hs lk W →
  Calls Tryz.prog 73 #[.pointer (some ⟨b99,0,none⟩),.int .i64 (i : Nat)] W fun e W'=>e = .returned (.tuple #[]) ∧ ∃ (HA' : Option Addr) (HC' : Nat),SrW b99 w0.heap.size c0 c1 c2 (.int .i64 (keep : Nat)) (.func (.func MF) #[] MC) HA' HC' (E9 X q L mf keep (toK ns sh i) (hs,lk)).1 (E9 X q L mf keep (toK ns sh i) (hs,lk)).2 W' ∧ KepT W W' ∧ A3 w0 W'
theorem B3N (f : Rat) (S : List Ht) : (srt S).filter (fun h=>decide (h.2 ≤ f)) = F5 f S:=A0g ((Q3 S).filter _) ((A0k S).filter _)
theorem B39 {l : List Ht} {i : Nat} (hi : i < l.length) (f : Rat) : (l.take (i + 1)).filter (fun h=>decide (h.2 ≤ f)) = (l.take i).filter (fun h=>decide (h.2 ≤ f)) ++ if l[i].2 ≤ f then [l[i]] else []:=by
 rw [List.take_succ_eq_append_getElem hi,List.filter_append]
 congr 1
 by_cases h : l[i].2 ≤ f <;> simp [h]
theorem Lhz.at {u : World} {A : Option Addr} {l : List Ht} (h : Lhz u A l) {i : Nat} (hi : i < l.length) : ∃ b off,A = some ⟨b,off,none⟩ ∧ ∃ p : Az,Rz u p l[i].2 ∧ ∀ W,A3 u W → W.cell? ⟨b,off + i * 4,none⟩ = some (.int .i64 (l[i].1 : Nat)) ∧ Cz W b (off + i * 4 + 1) p l[i].2:=by
 obtain ⟨b,off,e,hb,hc⟩:=h (fun e=>by rw [e] at hi;simp at hi)
 obtain ⟨p,h1,h2,h3⟩:=hc i _ (List.getElem?_eq_getElem hi)
 exact ⟨b,off,e,p,h1,fun W hg=>⟨(hg.cell (p:=⟨b,off + i * 4,none⟩) hb).trans h2,h3.grow hb hg⟩⟩
theorem B2r (A B : Option Addr) (rs : List Rq) (n L c d : Nat) (q : List Rat) (p1 p2 : Ax) (f : Rat) (hn : rs.length = n) (hn2 : n ≤ 300) (hL2 : L ≤ 20) (hrl : ∀ r ∈ rs,r.2.2.length = L) (hq : q.length = L) (s : Nat) (hs : ∀ r ∈ rs,∀ x ∈ r.2.2,qs x ≤ s) (hs' : ∀ x ∈ q,qs x ≤ s) (hf : qs f ≤ 100 * s + 200) (hBz : 400 * s + 1000 ≤ BIG)
  (w : World) (h : Lrz w A rs) (h' : Lz w B q) (hp : Rz w (p1,p2) f) :
  Calls Tryz.prog 43 #[.slice A n c,.slice B L d,rqV p1 p2 f] w (G8 (fun x : Ax=>.slice x.1 (F5 f (D5 (fun i=>G0 (F7 (rs.map (·.2.2)) i) q L) n)).length x.2) (fun x W=>Lhz W x.1 (F5 f (D5 (fun i=>G0 (F7 (rs.map (·.2.2)) i) q L) n))) w):=by
 have hh:=fun W (hg : A3 w W)=>B1Y A B rs n L c d q hn hn2 hL2 hrl hq s hs hs' hBz W (h.grow hg) (h'.grow hg)
 obtain ⟨S,hS⟩ : ∃ S,S = D5 (fun i=>G0 (F7 (rs.map (·.2.2)) i) q L) n:=⟨_,rfl⟩
 have hLz : L * (4 * s + 3) ≤ 20 * (4 * s + 3):=Nat.mul_le_mul_right _ hL2
 have hSz : ∀ x ∈ srt S,qs x.2 ≤ 100 * s + 200:=fun x hx=>by
  have h4:=(Q3 _).mem_iff.1 hx
  rw [hS] at h4
  unfold D5 at h4
  obtain ⟨m,hm,rfl⟩:=List.mem_map.1 h4
  have hil : m < rs.length:=by have := List.mem_range.1 hm;omega
  have hro : F7 (rs.map (·.2.2)) m = rs[m].2.2:=by unfold F7;rw [List.getElem?_map,List.getElem?_eq_getElem hil];rfl
  have h1:=A0M (hrl _ (List.getElem_mem hil)) hq (hs _ (List.getElem_mem hil)) hs' L (Nat.le_refl _)
  show qs (G0 (F7 (rs.map (·.2.2)) m) q L) ≤ _
  rw [hro]
  unfold G0
  omega
 have hSl : (srt S).length = n:=by rw [B44,hS];unfold D5;simp
 rw [← hS,← B3N]
 simp only [← hS] at hh
 obtain ⟨l,hl⟩ : ∃ l,l = srt S:=⟨_,rfl⟩
 rw [← hl] at hSz hSl ⊢
 simp only [← hl] at hh
 have Hh:=Lib.hid hh
 have Hsz:=Lib.hid hSz
 have Hsl:=Lib.hid hSl
 obtain ⟨hp1,hp2⟩ : Rn w p1 f.num.natAbs ∧ Rn w p2 f.den:=hp
 have Hp:=Lib.hid (And.intro hp1 hp2)
 clear hh hSz hSl hl hS hLz h h' hs hs' hrl hn hq hp1 hp2
 go_enter Tryz.func43,Tryz.ntmps43
 refine en1 ?_
 intro u hG b5 hB hF
 refine r0T ?_
 refine wp_seq (rsE Y4 [0,0,1,0] hB hG fun L hL=>?_)
 refine gs ?_
 refine gxd (X:=Ax) (fun x : Ax=>.slice x.1 n x.2) (fun x W=>n ≤ x.2 ∧ Lhz W x.1 l) (fun x u u' hg h=>⟨h.1,Lhz.grow h.2 hg⟩) (fun x12=>?_) (C:=by (rintro v ⟨hgu,hB,hG,-⟩;exact Hh.out _ hG))
 refine gs ?_
 refine geT hL ?_
 clear hB hG hL L
 rintro u ⟨⟨hgu,hB,hG,-⟩,hx12⟩
 have HX:=Lib.hid hx12.2
 have hb5:=hB.head
 have HB5:=Lib.hid (fun W (hg : A3 u W)=>And.intro ((hb5.grow hg).cell 0) (And.intro ((hb5.grow hg).cell 1) ((hb5.grow hg).cell 2)))
 clear hx12 hb5
 clear hgu
 have HG0:=Lib.hid hG
 clear hB hF hG
 obtain ⟨w0,rfl⟩ : ∃ x,x = w:=⟨_,rfl⟩
 obtain ⟨w,hwu⟩ : ∃ x,x = u:=⟨_,rfl⟩
 rw [← hwu] at HG0 HX HB5
 have hB:=Bx.nil u
 have hF:=Fr.nil w
 have hG : A3 w u:=hwu ▸ A3.refl u
 clear hwu
 obtain ⟨AX,CX⟩:=x12
 simp only at HX
 have hpp:=fun W (hg : A3 w W)=>And.intro (Hp.out.1.grow (HG0.out.trans hg)) (Hp.out.2.grow (HG0.out.trans hg))
 have HG1:=Lib.hid HG0.out
 have HP:=Lib.hid hpp
 clear hpp Hp Hh HG0
 refine wp_seq ?_
 refine r0T ?_
 refine wp_block ?_
 clear hB hF
 go_loopw [9,7] (fun s0 s1 wr=>∃ (i m : Nat) (ps : List Hz),i ≤ n ∧ s0 = .int .i64 i ∧ ps.map hzH = (l.take i).filter (fun h=>decide (h.2 ≤ f)) ∧ m ≤ i ∧ O3 wr ps ∧ wr.ownsRow w.heap.size 59 4 s1 m (ps.flatMap hzL) ∧ A3 w wr) (fun s0 _ _=>n - (intOf s0).toNat)
 case atStart=>exact ⟨0,0,[],Nat.zero_le _,rfl,by rw [List.take_zero];rfl,Nat.le_refl _,(fun r hr=>by cases hr),World.ownsRow_nil _ _ _ _,hG⟩
 case round =>
  clear hG
  obtain ⟨i,m,ps,hi,rfl,hps,hmi,hA,ho,hG⟩:=hrel
  obtain ⟨u,rfl⟩ : ∃ x,x = wr:=⟨_,rfl⟩
  have hB:=Bx.nil u
  have hF:=Fr.nil w
  have hpl:=A0q ho
  rcases Nat.lt_or_ge i n with hlt | hge
  ·have hdec : decide ((i : Int) < (n : Int)) = true:=by simp;omega
   have hini : (i : Int) < (n : Int):=by omega
   have hil : i < l.length:=by have := Hsl.out;omega
   obtain ⟨bb,ob,rfl,pz,hp0,hr⟩:=HX.out.at hil
   have zi:=Hsz.out _ (List.getElem_mem hil)
   have hnx:=B39 hil f
   rw [← hps] at hnx
   obtain ⟨x,hx⟩ : ∃ x,x = l[i]:=⟨_,rfl⟩
   rw [← hx] at hp0 zi hnx
   simp only [← hx] at hr
   obtain ⟨I,Y⟩:=x
   simp only at hp0 zi hnx hr
   have hcm:=fun W (hg : A3 w W)=>A2S pz.1 pz.2 p1 p2 Y f W (hp0.grow hg).1 (hp0.grow hg).2 (HP.out W hg).1 (HP.out W hg).2 (by omega)
   obtain ⟨P,hP⟩ : ∃ P,P = E5 Y f:=⟨_,rfl⟩
   simp only [← hP] at hcm
   have hPle : P ≤ 0 ↔ Y ≤ f:=by
    have h1 : 0 < P ↔ f < Y:=by rw [hP];exact A1G
    refine ⟨fun h=>Rat.not_lt.1 fun h2=>?_,fun h=>?_⟩
    ·have := h1.2 h2
     omega
    ·have h3 : ¬ 0 < P:=fun h2=>absurd h (Rat.not_le.2 (h1.1 h2))
     omega
   have Ho:=Lib.hid ho
   have Hr:=Lib.hid hr
   have Hcm:=Lib.hid hcm
   have Hp0:=Lib.hid hp0
   by_cases hPf : P ≤ 0
   ·have fP : decide (P ≤ 0) = true:=decide_eq_true hPf
    rw [if_pos (hPle.1 hPf)] at hnx
    have Hnx:=Lib.hid hnx
    clear ho hps hr hcm hP hPle zi hnx hPf hx hil hp0
    refine wp_seq ?_
    refine r0T ?_
    refine wp_cond_true (rfl) ?_
    refine wp_skip ?_
    refine A4 ?_
    refine wp_seq ?_
    refine wp_block ?_
    refine wp_seq (rdC Y4 [] [(0,0),(0,1),(0,2),(0,3),(0,4),(0,5),(1,6)] hB hG fun K L hN hL=>?_)
    repeat first | refine gya ?_ | refine gyr ?_ | refine gna ?_ | refine gyb (by (rintro v ⟨hgu,hB,hG,-⟩ N hN;have r:=hB.r;simp only [BxR] at r;obtain ⟨t0,t1,t2⟩:=HB5.out v hG;obtain ⟨d0,dd⟩:=Hr.out v hG;have dd':=A0p dd;obtain ⟨d1,d2,d3⟩:=dd';go_simp;exact hN)) ?_
    refine gmd (C:=fun v ⟨hgu,hB,hG,_⟩=>Hcm.out _ hG) ?_
    refine geC hL ?_
    clear hB hG hL L
    rintro u ⟨hgu,hB,hG,-⟩
    replace hA:=hA.grow hgu
    have Ho2:=Lib.hid (D3 Ho.out hgu)
    clear Ho
    have Ho:=Ho2
    clear Ho2
    clear hgu
    refine gtT ?_
    clear hN K
    refine wp_cond_true (rfl) ?_
    have hxn : Rz u pz Y:=Hp0.out.grow hG
    refine P7 (w:=w) Y4 5 [0,0,0,0,0] (by kernel_rfl) (by simp only [List.drop_succ_cons,List.drop_zero];exact rfl) (fun _=>True) noG hB hG trivial ?_
    intro K L hN hL
    simp only [List.zip_cons_cons,List.zip_nil_left]
    repeat first | refine gya ?_ | refine gyr ?_ | refine gna ?_ | refine gyb (by (rintro v ⟨hgu,hB,hG,-⟩ N hN;have r:=hB.r;simp only [BxR] at r;obtain ⟨t0,t1,t2⟩:=HB5.out v hG;obtain ⟨d0,dd⟩:=Hr.out v hG;have dd':=A0p dd;obtain ⟨d1,d2,d3⟩:=dd';go_simp;exact hN)) ?_
    refine H7 ?_
    rintro v ⟨hgu,hB1,hG1,-⟩
    replace hA:=hA.grow hgu
    replace hxn:=hxn.grow hgu
    have ROWn:=Lib.hid (D3 Ho.out hgu)
    clear Ho
    have Ho:=ROWn
    clear ROWn
    clear hB hG
    have hB:=hB1
    have hG:=hG1
    clear hB1 hG1
    refine hL _ _ ?_
    clear hL L hgu
    obtain ⟨u,rfl⟩ : ∃ x,x = v:=⟨_,rfl⟩
    refine T6 A7T w.heap.size _ _ _ _ (hzL (I,pz,Y)) rfl rfl (A7m I pz Y u) rfl (fun _=>rfl) (fun _=>rfl) (fun _ _=>rfl) Ho.out (by omega) (by omega) hG.sz fun p v' w' g1 g2 g3=>?_
    have hBn:=Bx.nil w'
    have hGn:=R8 Ho.out hG g2
    replace hA:=hA.own Ho.out (by decide) g2
    replace hxn:=hxn.own Ho.out (by decide) g2
    clear Ho hB hG
    have Ho:=Lib.hid g1
    have hB:=hBn
    have hG:=hGn
    clear g1 g2 g3 hBn hGn
    obtain ⟨u,rfl⟩ : ∃ x,x = w':=⟨_,rfl⟩
    simp only [Act.put,List.setIfInBounds_toArray,List.set_cons_succ,List.set_cons_zero]
    refine NoK.norm (hN _ _ ?_)
    clear hN K
    refine D4 ?_
    refine A4 ?_
    refine r0E ?_
    refine A4 ?_
    have hA2 : O3 u (ps ++ [(I,pz,Y)]):=fun r hr=>by
     rcases List.mem_append.1 hr with h | h
     ·exact hA r h
     ·obtain rfl:=List.mem_singleton.1 h
      exact hxn
    go_roundw
    case rel=>exact ⟨i + 1,m + 1,ps ++ [(I,pz,Y)],by omega,by go_num,by rw [List.map_append];exact Hnx.out.symm,by omega,hA2,by rw [List.flatMap_append];simpa using Ho.out,hG⟩
    case measure=>simp [intOf];omega
   ·have fP : decide (P ≤ 0) = false:=decide_eq_false hPf
    rw [if_neg (fun h=>hPf (hPle.2 h)),List.append_nil] at hnx
    have Hnx:=Lib.hid hnx
    clear ho hps hr hcm hP hPle zi hnx hPf hx hil hp0
    refine wp_seq ?_
    refine r0T ?_
    refine wp_cond_true (rfl) ?_
    refine wp_skip ?_
    refine A4 ?_
    refine wp_seq ?_
    refine wp_block ?_
    refine wp_seq (rdC Y4 [] [(0,0),(0,1),(0,2),(0,3),(0,4),(0,5),(1,6)] hB hG fun K L hN hL=>?_)
    repeat first | refine gya ?_ | refine gyr ?_ | refine gna ?_ | refine gyb (by (rintro v ⟨hgu,hB,hG,-⟩ N hN;have r:=hB.r;simp only [BxR] at r;obtain ⟨t0,t1,t2⟩:=HB5.out v hG;obtain ⟨d0,dd⟩:=Hr.out v hG;have dd':=A0p dd;obtain ⟨d1,d2,d3⟩:=dd';go_simp;exact hN)) ?_
    refine gmd (C:=fun v ⟨hgu,hB,hG,_⟩=>Hcm.out _ hG) ?_
    refine geC hL ?_
    clear hB hG hL L
    rintro u ⟨hgu,hB,hG,-⟩
    replace hA:=hA.grow hgu
    have Ho2:=Lib.hid (D3 Ho.out hgu)
    clear Ho
    have Ho:=Ho2
    clear Ho2
    clear hgu
    refine gtT ?_
    clear hN K
    refine wp_cond_false (rfl) ?_
    refine wp_skip ?_
    refine D4 ?_
    refine A4 ?_
    refine r0E ?_
    refine A4 ?_
    go_roundw
    case rel=>exact ⟨i + 1,m,ps,by omega,by go_num,Hnx.out.symm,by omega,hA,Ho.out,hG⟩
    case measure=>simp [intOf];omega
  ·obtain rfl : n = i:=by omega
   have hdec : decide ((n : Int) < (n : Int)) = false:=by simp
   obtain ⟨A',cc,rfl,hcc1,hL,hkl⟩:=A77 ho hA
   rw [hps,List.take_of_length_le (by have := Hsl.out;omega)] at hL
   have hm9 : m = (l.filter (fun h=>decide (h.2 ≤ f))).length:=by
    have := congrArg List.length hps
    rw [List.length_map,List.take_of_length_le (by have := Hsl.out;omega)] at this
    omega
   have HL:=Lib.hid hL
   have Hm9:=Lib.hid hm9
   clear hL hm9 hkl ho hps hpl hcc1
   refine wp_seq ?_
   refine r0T ?_
   refine wp_cond_false (rfl) ?_
   refine wp_exit ?_
   refine B1 ?_
   refine B1 ?_
   refine E3 ?_
   refine A4 ?_
   refine r0T ?_
   refine rt Tryz.results43 ?_
   exact ⟨(A',cc),by rw [← Hm9.out],HL.out,HG1.out.trans hG⟩
end Go.Proofs.YtjmopgepnndckaaGreatDoor
