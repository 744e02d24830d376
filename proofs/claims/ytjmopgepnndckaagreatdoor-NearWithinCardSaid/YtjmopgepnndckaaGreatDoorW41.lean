/- Contracts and laws. -/
import Derived.Test.YtjmopgepnndckaaGreatDoorW40
set_option linter.unusedSimpArgs false
set_option linter.unusedVariables false
set_option maxHeartbeats 2000000
set_option maxRecDepth 100000
namespace Go.Proofs.YtjmopgepnndckaaGreatDoor
open Go Go.RowKit
def O0 (ns : List NdT) (k : Nat) (r : Int) : Bool:=(ns.take k).any fun y=>decide (y.r = r)
def N8 (L n : Nat) (ns : List NdT) (k : Nat) : Bool :=
 match ns[k]? with
 | none=>false
 | some x=>decide (x.c < 0) || decide ((L : Int) ≤ x.c) || decide (x.r < 0) || decide ((n : Int) ≤ x.r) || O0 ns k x.r
def D9 (ns : List NdT) (i : Nat) : Option (Nat × Nat):=G9 ns (ns.length + 1) i
def T4 (ns : List NdT) (i : Nat) : Int:=match ns[i]? with | none=>0 | some x=>if x.t = 0 then (J3 (D9 ns i) : Int) else x.t
def A2F (G P : Int) (j : Nat) : Bool:=(decide ((j : Int) < G) && decide (0 < P)) || (decide (G ≤ (j : Int)) && decide (P < 0))
def N9 (X : List (List Rat)) (ns : List NdT) (i j : Nat) : Bool :=
 match ns[i]?,ns[j]? with
 | some x,some y=>(decide ((j : Int) < T4 ns i) && decide (0 < E5 (ent X y.r.toNat x.c.toNat) (ent X x.r.toNat x.c.toNat))) || (decide (T4 ns i ≤ (j : Int)) && decide (E5 (ent X y.r.toNat x.c.toNat) (ent X x.r.toNat x.c.toNat) < 0))
 | _,_=>false
def A9r (X : List (List Rat)) (ns : List NdT) (i e : Nat) : Bool:=(List.range e).any fun j=>decide (i < j) && N9 X ns i j
def W5 (X : List (List Rat)) (ns : List NdT) (i : Nat) : Bool:=A9r X ns i (J3 (D9 ns i))
def H6 (X : List (List Rat)) (L : Nat) (ns : List NdT) : Nat :=
 if ns.length ≠ X.length then 5
 else if (D9 ns 0).isSome = false ∨ J3 (D9 ns 0) ≠ ns.length then 2
 else if (List.range ns.length).any (N8 L X.length ns) then 2
 else if (List.range ns.length).any (W5 X ns) then 1 else 0
theorem A2X {f : Nat → Bool} {k n : Nat} (hk : k < n) (h : f k = true) : (List.range n).any f = true:=List.any_eq_true.2 ⟨k,List.mem_range.2 hk,h⟩
theorem A2z {f : Nat → Bool} {n : Nat} (h : ∀ k,k < n → f k = false) : (List.range n).any f = false:=by
 rw [List.any_eq_false]
 intro k hk
 rw [h k (List.mem_range.1 hk)]
 simp
theorem B0L {X : List (List Rat)} {L : Nat} {ns : List NdT} (h : ns.length ≠ X.length) : H6 X L ns = 5:=by unfold H6;rw [if_pos h]
theorem B3q {X : List (List Rat)} {L : Nat} {ns : List NdT} (h : ns.length = X.length) (h1 : (D9 ns 0).isSome = false ∨ J3 (D9 ns 0) ≠ ns.length) : H6 X L ns = 2:=by unfold H6;rw [if_neg (by simp [h]),if_pos h1]
theorem B2Y {X : List (List Rat)} {L : Nat} {ns : List NdT} (h : ns.length = X.length) (h1 : ¬ ((D9 ns 0).isSome = false ∨ J3 (D9 ns 0) ≠ ns.length)) {k : Nat} (hk : k < ns.length) (hb : N8 L X.length ns k = true) : H6 X L ns = 2:=by
 unfold H6
 rw [if_neg (by simp [h]),if_neg h1,if_pos (A2X hk hb)]
theorem B0d {X : List (List Rat)} {L : Nat} {ns : List NdT} (h : ns.length = X.length) (h1 : ¬ ((D9 ns 0).isSome = false ∨ J3 (D9 ns 0) ≠ ns.length)) (h2 : ∀ k,k < ns.length → N8 L X.length ns k = false) {i : Nat} (hi : i < ns.length) (hw : W5 X ns i = true) : H6 X L ns = 1:=by
 unfold H6
 rw [if_neg (by simp [h]),if_neg h1,if_neg (by rw [A2z h2];simp),if_pos (A2X hi hw)]
theorem A8z {X : List (List Rat)} {L : Nat} {ns : List NdT} (h : ns.length = X.length) (h1 : ¬ ((D9 ns 0).isSome = false ∨ J3 (D9 ns 0) ≠ ns.length)) (h2 : ∀ k,k < ns.length → N8 L X.length ns k = false) (h3 : ∀ i,i < ns.length → W5 X ns i = false) : H6 X L ns = 0:=by
 unfold H6
 rw [if_neg (by simp [h]),if_neg h1,if_neg (by rw [A2z h2];simp),if_neg (by rw [A2z h3];simp)]
theorem A7V {X : List (List Rat)} {ns : List NdT} {i j : Nat} (hij : i < j) (hj : j < J3 (D9 ns i)) (h : N9 X ns i j = true) : W5 X ns i = true:=A2X hj (by rw [h];simp [hij])
theorem A7u {X : List (List Rat)} {ns : List NdT} {i : Nat} (h : ∀ j,i < j → j < J3 (D9 ns i) → N9 X ns i j = false) : W5 X ns i = false:=A2z fun j hj=>by
 by_cases hij : i < j
 ·rw [h j hij hj];simp
 ·simp [hij]
def Z8 (n : Nat) (ns : List NdT) (k : Nat) : List Value:=(List.range n).map fun r=>Value.bool (O0 ns k (r : Nat))
theorem B1B (n : Nat) (ns : List NdT) : Z8 n ns 0 = List.replicate n (.bool false):=by
 unfold Z8
 apply List.ext_getElem
 ·simp
 ·intro i h1 h2;simp [O0]
theorem A37 {n : Nat} {ns : List NdT} {k r : Nat} (h : r < n) : (Z8 n ns k)[r]? = some (.bool (O0 ns k (r : Nat))):=by unfold Z8;simp [h]
theorem B2e {ns : List NdT} {k : Nat} {x : NdT} (h : ns[k]? = some x) (r : Int) : O0 ns (k + 1) r = (O0 ns k r || decide (x.r = r)):=by
 unfold O0
 rw [List.take_add_one,h,List.any_append]
 simp
theorem B1O {n : Nat} {ns : List NdT} {k r : Nat} {x : NdT} (h : ns[k]? = some x) (hr : x.r = (r : Int)) (hn : r < n) : (Z8 n ns k).set r (.bool true) = Z8 n ns (k + 1):=by
 unfold Z8
 apply List.ext_getElem
 ·simp
 ·intro j h1 h2
  rw [List.getElem_set]
  simp only [List.getElem_map,List.getElem_range,B2e h]
  by_cases e : r = j
  ·subst e;simp [hr]
  ·rw [if_neg e]
   have : decide (x.r = (j : Int)) = false:=by simp;omega
   rw [this]
   simp
theorem A6e {L n : Nat} {ns : List NdT} {k : Nat} {x : NdT} (h : ns[k]? = some x) : N8 L n ns k = (decide (x.c < 0) || decide ((L : Int) ≤ x.c) || decide (x.r < 0) || decide ((n : Int) ≤ x.r) || O0 ns k x.r):=by unfold N8;rw [h]
theorem A5K {ns : List NdT} {i : Nat} {x : NdT} (h : ns[i]? = some x) : T4 ns i = if x.t = 0 then (J3 (D9 ns i) : Int) else x.t:=by unfold T4;rw [h]
theorem A2f {X : List (List Rat)} {ns : List NdT} {i j : Nat} {x y : NdT} (h : ns[i]? = some x) (h2 : ns[j]? = some y) : N9 X ns i j = ((decide ((j : Int) < T4 ns i) && decide (0 < E5 (ent X y.r.toNat x.c.toNat) (ent X x.r.toNat x.c.toNat))) || (decide (T4 ns i ≤ (j : Int)) && decide (E5 (ent X y.r.toNat x.c.toNat) (ent X x.r.toNat x.c.toNat) < 0))):=by unfold N9;rw [h,h2]
theorem A5R {L n : Nat} {ns : List NdT} {k : Nat} {x : NdT} (h : ns[k]? = some x) : (x.c < 0 ∧ N8 L n ns k = true) ∨ (∃ c : Nat,x.c = c ∧ L ≤ c ∧ N8 L n ns k = true) ∨ (∃ c : Nat,x.c = c ∧ c < L ∧ x.r < 0 ∧ N8 L n ns k = true) ∨ (∃ c r : Nat,x.c = c ∧ c < L ∧ x.r = r ∧ n ≤ r ∧ N8 L n ns k = true) ∨ (∃ c r : Nat,x.c = c ∧ c < L ∧ x.r = r ∧ r < n ∧ O0 ns k (r : Nat) = true ∧ N8 L n ns k = true) ∨ ∃ c r : Nat,x.c = c ∧ c < L ∧ x.r = r ∧ r < n ∧ O0 ns k (r : Nat) = false ∧ N8 L n ns k = false:=by
 rw [A6e h]
 by_cases h1 : x.c < 0
 ·exact .inl ⟨h1,by simp [h1]⟩
 ·obtain ⟨c,hc⟩ : ∃ c : Nat,x.c = c:=⟨x.c.toNat,by omega⟩
  rw [hc] at h1 ⊢
  by_cases h2 : L ≤ c
  ·exact .inr (.inl ⟨c,rfl,h2,by simp [h2]⟩)
  ·by_cases h3 : x.r < 0
   ·exact .inr (.inr (.inl ⟨c,rfl,by omega,h3,by simp [h3]⟩))
   ·obtain ⟨r,hr⟩ : ∃ r : Nat,x.r = r:=⟨x.r.toNat,by omega⟩
    rw [hr] at h3 ⊢
    by_cases h4 : n ≤ r
    ·exact .inr (.inr (.inr (.inl ⟨c,r,rfl,by omega,rfl,h4,by simp [h4]⟩)))
    ·by_cases h5 : O0 ns k (r : Int) = true
     ·exact .inr (.inr (.inr (.inr (.inl ⟨c,r,rfl,by omega,rfl,by omega,h5,by simp [h5]⟩))))
     ·refine .inr (.inr (.inr (.inr (.inr ⟨c,r,rfl,by omega,rfl,by omega,by simpa using h5,?_⟩))))
      (simp [h2,h4,h5];try omega)
theorem A2E {X : List (List Rat)} {L : Nat} {ns : List NdT} (h : H6 X L ns = 0) : ns.length = X.length ∧ (∃ d,D9 ns 0 = some (ns.length,d)) ∧ (∀ k,k < ns.length → N8 L X.length ns k = false) ∧ ∀ i,i < ns.length → W5 X ns i = false:=by
 unfold H6 at h
 split at h
 ·cases h
 ·rename_i h0
  split at h
  ·cases h
  ·rename_i h1
   split at h
   ·cases h
   ·rename_i h2
    split at h
    ·cases h
    ·rename_i h3
     refine ⟨Decidable.byContradiction h0,?_,fun k hk=>?_,fun i hi=>?_⟩
     ·have h4 : (D9 ns 0).isSome = true:=by
       cases hp : (D9 ns 0).isSome with
       | true=>rfl
       | false=>exact absurd (.inl hp) h1
      obtain ⟨p,hp⟩:=Option.isSome_iff_exists.1 h4
      have h5 : J3 (D9 ns 0) = ns.length:=Decidable.byContradiction fun h=>h1 (.inr h)
      rw [hp] at h5 ⊢
      exact ⟨p.2,by rw [← h5];rfl⟩
     ·rw [Bool.eq_false_iff]
      exact fun hb=>h2 (A2X hk hb)
     ·rw [Bool.eq_false_iff]
      exact fun hb=>h3 (A2X hi hb)
theorem B4I (X : List (List Rat)) (c a b : Nat) : (¬ leC X c b a) ↔ (ent X a c < ent X b c ∨ (ent X a c = ent X b c ∧ a < b)):=by
 unfold leC
 by_cases h1 : ent X a c < ent X b c
 ·have h2 : ¬ ent X b c < ent X a c:=by grind
  have h3 : ent X b c ≠ ent X a c:=by grind
  simp [h1,h2,h3]
 ·by_cases h2 : ent X b c < ent X a c
  ·have h3 : ent X a c ≠ ent X b c:=by grind
   simp [h1,h2,h3]
  ·have e : ent X a c = ent X b c:=by grind
   simp [e,Rat.lt_irrefl]
theorem A4p {x y : Rat} : (E5 x y < 0) ↔ x < y:=by
 unfold E5
 by_cases h1 : x < y
 ·simp [h1]
 ·by_cases h2 : y < x <;> simp [h1,h2]
theorem A25 {x y : Rat} : (E5 x y = 0) ↔ x = y:=by
 unfold E5
 by_cases h1 : x < y
 ·have : x ≠ y:=by grind
  simp [h1,this]
 ·by_cases h2 : y < x
  ·have : x ≠ y:=by grind
   simp [h1,h2,this]
  ·have : x = y:=by grind
   simp [this,Rat.lt_irrefl]
theorem B1b (A : Option Addr) (rs : List Rq) (n Lw c col a b : Nat) (hn : rs.length = n) (hrl : ∀ r ∈ rs,r.2.2.length = Lw) (ha : a < n) (hb : b < n) (hcol : col < Lw) (s : Nat) (hs : ∀ r ∈ rs,∀ x ∈ r.2.2,qs x ≤ s) (hBz : 2 * s + 1 ≤ BIG) (w : World) (h : Lrz w A rs) :
  Calls Tryz.prog 101 #[.slice A n c,.int .i64 (col : Nat),.int .i64 (a : Nat),.int .i64 (b : Nat)] w fun e w'=>e = .returned (.bool (decide (¬ leC (rs.map (·.2.2)) col b a))) ∧ A3 w w':=by
 obtain ⟨bb,ob,rfl⟩:=h.addr (by omega)
 have hrow : ∀ i,i < n → ∃ (ba oa : Nat) (cr : Nat) (p : Az),qs (ent (rs.map (·.2.2)) i col) ≤ s ∧ ∀ W,A3 w W → W.cell? ⟨bb,ob + i,none⟩ = some (.slice (some ⟨ba,oa,none⟩) Lw cr) ∧ Rz W p (ent (rs.map (·.2.2)) i col) ∧ Cz W ba (oa + col * 3) p (ent (rs.map (·.2.2)) i col):=fun i hi=>by
  have hil : i < rs.length:=by omega
  have hL:=hrl _ (List.getElem_mem hil)
  obtain ⟨h1,h2⟩:=h.read (List.getElem?_eq_getElem hil)
  obtain ⟨ba,oa,e⟩:=h2.addr (by omega)
  have er : ent (rs.map (·.2.2)) i col = gq rs[i].2.2 col:=by
   rw [A3S]
   unfold F7
   rw [List.getElem?_map,List.getElem?_eq_getElem hil]
   rfl
  rw [er]
  rw [e] at h2
  obtain ⟨p,hp⟩:=h2.read (i:=col) (by omega)
  refine ⟨ba,oa,rs[i].2.1,p,hs _ (List.getElem_mem hil) _ (T5 (by omega)),fun W hg=>?_⟩
  obtain ⟨h3,-⟩:=(h.grow hg).read (List.getElem?_eq_getElem hil)
  rw [e,hL] at h3
  exact ⟨h3,hp W hg⟩
 obtain ⟨ba,oa,ca,p,za,ra⟩:=hrow a ha
 obtain ⟨bb2,ob2,cb,q,zb,rb⟩:=hrow b hb
 obtain ⟨V,hV⟩ : ∃ V,V = decide (¬ leC (rs.map (·.2.2)) col b a):=⟨_,rfl⟩
 have hV2 : V = decide (ent (rs.map (·.2.2)) a col < ent (rs.map (·.2.2)) b col ∨ (ent (rs.map (·.2.2)) a col = ent (rs.map (·.2.2)) b col ∧ a < b)):=by
  rw [hV]
  exact decide_eq_decide.2 (B4I _ _ _ _)
 rw [← hV]
 obtain ⟨x,hx⟩ : ∃ x,x = ent (rs.map (·.2.2)) a col:=⟨_,rfl⟩
 obtain ⟨y,hy⟩ : ∃ x,x = ent (rs.map (·.2.2)) b col:=⟨_,rfl⟩
 rw [← hx] at za
 rw [← hy] at zb
 rw [← hx,← hy] at hV2
 simp only [← hx] at ra
 simp only [← hy] at rb
 have hcm:=fun W (h1 : Rz W p x) (h2 : Rz W q y)=>A2S p.1 p.2 q.1 q.2 x y W h1.a h1.b h2.a h2.b (by omega)
 have hai : (a : Int) < (n : Int):=by omega
 have hbi : (b : Int) < (n : Int):=by omega
 have hci2 : (col : Int) < (Lw : Int):=by omega
 obtain ⟨P,hP⟩ : ∃ X,X = E5 x y:=⟨_,rfl⟩
 simp only [← hP] at hcm
 have Hcm:=Lib.hid hcm
 have Ra:=Lib.hid ra
 have Rb:=Lib.hid rb
 have HP:=Lib.hid hP
 have HV:=Lib.hid hV2
 clear hcm ra rb hx hy za zb h hs hrl hn hrow hBz hV hV2 hP
 go_enter Tryz.func101,Tryz.ntmps101
 refine en0 ?_
 intro u hG hB hF
 refine wp_seq (rdC A5 [] [(0,0),(0,1),(0,2),(0,3),(0,4),(0,5),(0,6),(0,7),(0,8),(0,9),(0,10),(0,11),(0,12),(0,13),(1,14)] hB hG fun K L hN hL=>?_)
 repeat first | refine gya ?_ | refine gyr ?_ | refine gna ?_ | refine gyb (by (rintro v ⟨hgu,hB,hG,-⟩ N hN;have r:=hB.r;simp only [BxR] at r;obtain ⟨g1,-,q1,q2,q3⟩:=Ra.out v hG;obtain ⟨g2,-,y1,y2,y3⟩:=Rb.out v hG;go_simp;exact hN)) ?_
 refine gmd (C:=fun v ⟨hgu,hB,hG,_⟩=>Hcm.out _ (Ra.out _ hG).2.1 (Rb.out _ hG).2.1) ?_
 refine geC hL ?_
 clear hB hG hL L
 rintro u ⟨-,hB,hG,-⟩
 refine gtT ?_
 clear hN K
 by_cases c1 : x < y
 ·have d1 : decide (P < 0) = true:=decide_eq_true (by rw [HP.out];exact A4p.2 c1)
  have hv : V = true:=by rw [HV.out];simp [c1]
  rw [hv]
  clear hv c1
  refine r0T ?_
  refine rt Tryz.results101 ?_
  exact ⟨rfl,hG⟩
 ·have d1 : decide (P < 0) = false:=decide_eq_false (by rw [HP.out];exact fun h=>c1 (A4p.1 h))
  by_cases c2 : x = y
  ·have d2 : (P == 0) = true:=by rw [HP.out];simpa using A25.2 c2
   have d2n : decide (P = 0) = true:=by rw [HP.out];simpa using A25.2 c2
   by_cases c3 : a < b
   ·have d3 : decide ((a : Int) < (b : Int)) = true:=by simp;omega
    have d3n : decide (a < b) = true:=decide_eq_true c3
    have hv : V = true:=by rw [HV.out];simp [c2,c3]
    rw [hv]
    clear hv c1 c2 c3
    refine r0T ?_
    refine rt Tryz.results101 ?_
    exact ⟨rfl,hG⟩
   ·have d3 : decide ((a : Int) < (b : Int)) = false:=by simp;omega
    have d3n : decide (a < b) = false:=decide_eq_false c3
    have hv : V = false:=by rw [HV.out];simp [c2,c3,Rat.lt_irrefl]
    rw [hv]
    clear hv c1 c2 c3
    refine r0T ?_
    refine rt Tryz.results101 ?_
    exact ⟨rfl,hG⟩
  ·have d2 : (P == 0) = false:=by rw [HP.out];simpa using fun h=>c2 (A25.1 h)
   have d2n : decide (P = 0) = false:=by rw [HP.out];simpa using fun h=>c2 (A25.1 h)
   have hv : V = false:=by rw [HV.out];simp [c1,c2]
   rw [hv]
   clear hv c1 c2
   refine r0T ?_
   refine rt Tryz.results101 ?_
   exact ⟨rfl,hG⟩
abbrev nv (l : List Nat) : List Value:=l.map fun (i : Nat)=>Value.int .i64 (i : Int)
theorem A5F (l : List Nat) (k x : Nat) : (nv l).set k (.int .i64 (x : Nat)) = nv (l.set k x):=by simp [nv,List.map_set]
theorem B5O (l : List Nat) (x : Nat) : nv l ++ [.int .i64 (x : Nat)] = nv (l ++ [x]):=by simp [nv]
theorem A1a {l : List Nat} {k : Nat} (h : k < l.length) : (nv l)[k]? = some (.int .i64 (l[k] : Nat)):=by simp [nv,h]
theorem B5T {u : World} {B g cap m : Nat} {l : List Nat} (h : u.ownsRow B 3 1 (.slice (some ⟨g,0,none⟩) m cap) m (nv l)) : Li u (some ⟨g,0,none⟩) (I0 l):=fun hne=>by
 have hl : m = l.length:=by have := h.1;simp [nv] at this;omega
 refine ⟨g,0,rfl,(h.lt g rfl).2,fun i x hx=>?_⟩
 have hil:=(List.getElem?_eq_some_iff.1 hx).1
 simp only [I0,List.length_map] at hil
 simp only [I0,List.getElem?_map,List.getElem?_eq_getElem hil,Option.map_some,Option.some.injEq] at hx
 rw [Nat.zero_add,h.cellAt i (by omega),A1a hil,← hx]
theorem A5I {u : World} {B n k : Nat} {e : TypeId} {v : Value} {xs : List Value} (h : u.ownsRow B e k v n xs) : ∃ A c,v = .slice A n c:=by
 obtain ⟨_,h | ⟨g,cap,cur,rfl,_⟩⟩:=h
 ·exact ⟨none,0,by rw [h.1,h.2]⟩
 ·exact ⟨_,cap,rfl⟩
theorem A9H {X : List (List Rat)} {c k x : Nat} {ps is : List Nat} (hp : ps.Perm is) (hs : ps.Pairwise (leC X c)) (hk : k ≤ ps.length) (h1 : ∀ j (h : j < ps.length),k ≤ j → ¬ leC X c ps[j] x) (h2 : ∀ j (h : j < ps.length),j + 1 = k → leC X c ps[j] x) :
  (D7 ps k x).Perm (is ++ [x]) ∧ (D7 ps k x).Pairwise (leC X c):=by
 refine ⟨?_,A3z (R:=leC X c) (fun h1 h2=>A6v h1 h2) ps k x hk hs (fun j h hj=>(A62 X c ps[j] x).resolve_left (h1 j h hj)) h2⟩
 refine (A2K ps k x).trans ?_
 exact (List.Perm.cons x hp).trans (List.perm_append_singleton x is).symm
structure GrR (w1 : World) (S : Nat → Prop) (b99 gl B : Nat) (ls : List Int) (NA : Option Addr) (NC kk : Nat) (ns : List NdT) (u : World) : Prop where
 K : KepS S w1 u
 l : Li u (some ⟨gl,0,none⟩) ls
 gu : gl < u.heap.size
 own : u.ownsRow B 118 4 (.slice NA kk NC) kk (ns.flatMap ndL)
 len : ns.length = kk
 n9 : nbk NA ≠ some b99
 gn : nbk NA ≠ some gl
theorem GrR.grow {w1 : World} {S : Nat → Prop} {b99 gl B : Nat} {ls : List Int} {NA : Option Addr} {NC kk : Nat} {ns : List NdT} {u u' : World} (h : GrR w1 S b99 gl B ls NA NC kk ns u) (hg : A3 u u') : GrR w1 S b99 gl B ls NA NC kk ns u' :=
 ⟨h.K.grow hg,h.l.grow hg,Nat.lt_of_lt_of_le h.gu hg.size,D3 h.own hg,h.len,h.n9,h.gn⟩
theorem B2j : EI 70 118 4 32:=W6 (by kernel_rfl) (by kernel_rfl) (by omega)
def A46 (b99 n L : Nat) (RA : Option Addr) (RC : Nat) (X : List (List Rat)) (w0 : World) (m : Nat) : Prop :=
 ∀ (is : List Nat) (col : Nat) (A : Option Addr) (c : Nat) (ns : List NdT) (NA : Option Addr) (NC k : Nat) (w : World),is.length = m → 0 < m → (∀ x ∈ is,x < n) → col < L → k = ns.length → k + m ≤ 1000000 → A3 w0 w → Li w A (I0 is) →
  Blk w b99 72 #[.slice RA n RC,.slice NA k NC] → w.ownsRow w0.heap.size 118 4 (.slice NA k NC) k (ns.flatMap ndL) → nbk NA ≠ some b99 →
  Calls Tryz.prog 60 #[.pointer (some ⟨b99,0,none⟩),.slice A m c,.int .i64 (col : Nat)] w fun e w'=>e = .returned (.tuple #[]) ∧ ∃ (NA' : Option Addr) (NC' : Nat),
   Blk w' b99 72 #[.slice RA n RC,.slice NA' (k + m) NC'] ∧ w'.ownsRow w0.heap.size 118 4 (.slice NA' (k + m) NC') (k + m) ((ns ++ E8 (F6 X L is col) k).flatMap ndL) ∧
   KepS (fun k=>k = b99 ∨ nbk NA = some k) w w' ∧ (∀ k,nbk NA' = some k → nbk NA = some k ∨ w.heap.size ≤ k) ∧ A3 w0 w'
theorem A4h {b99 n RC B : Nat} {RA : Option Addr} {gl k m kk NC' : Nat} {lsI : List Int} {NA NA' : Option Addr} {ns ns' T : List NdT} {w0 w1 u : World} {bl : List (Nat × TypeId × Array Value)}
  (GS : GrR w1 (fun k=>(k = b99 ∨ nbk NA = some k) ∨ w1.heap.size ≤ k) b99 gl B lsI NA' NC' kk ns' u) (hB : Bx u ((b99,72,#[.slice RA n RC,.slice NA' kk NC']) :: bl)) (hkk : kk = k + m) (hns : ns' = ns ++ T) (hnb : ∀ j,nbk NA' = some j → nbk NA = some j ∨ w1.heap.size ≤ j) (hG : A3 w0 u) :
  ∃ (NA' : Option Addr) (NC' : Nat),Blk u b99 72 #[.slice RA n RC,.slice NA' (k + m) NC'] ∧ u.ownsRow B 118 4 (.slice NA' (k + m) NC') (k + m) ((ns ++ T).flatMap ndL) ∧ KepS (fun k=>k = b99 ∨ nbk NA = some k) w1 u ∧ (∀ k,nbk NA' = some k → nbk NA = some k ∨ w1.heap.size ≤ k) ∧ A3 w0 u:=by
 subst hkk hns
 exact ⟨NA',NC',hB.head,GS.own,GS.K.mono (fun j hj e=>e.elim id (fun h=>absurd h (by omega))),hnb,hG⟩
def KT.sh : KT → Sh
 | .none=>.no
 | .node _ _ a b=>.nd a.sh b.sh
theorem A0J : ∀ t : KT,t.sh.size = t.size
 | .none=>rfl
 | .node _ _ a b=>by show a.sh.size + b.sh.size + 1 = a.size + b.size + 1;rw [A0J a,A0J b]
theorem A5E : ∀ t : KT,t.sh.deep = t.deep
 | .none=>rfl
 | .node _ _ a b=>by
  have ha:=A5E a
  have hb:=A5E b
  cases a <;> cases b <;> simp_all [KT.sh,Sh.deep,KT.deep]
def A0a (ns : List NdT) (t : KT) (i : Nat) : Prop:=∀ j,j < t.size → ns[i + j]? = (E8 t i)[j]?
theorem A4r {ns : List NdT} {r c : Nat} {a b : KT} {i : Nat} (h : A0a ns (.node r c a b) i) : ns[i]? = some ⟨r,c,if a.size = 0 then 0 else (i + 1 : Nat),if b.size = 0 then 0 else (i + 1 + a.size : Nat)⟩ ∧ A0a ns a (i + 1) ∧ A0a ns b (i + 1 + a.size):=by
 refine ⟨?_,fun j hj=>?_,fun j hj=>?_⟩
 ·have := h 0 (Nat.succ_pos _)
  rw [Nat.add_zero] at this
  rw [this]
  rfl
 ·have := h (j + 1) (by show j + 1 < a.size + b.size + 1;omega)
  rw [show i + 1 + j = i + (j + 1) by omega,this]
  show (E8 a (i + 1) ++ E8 b (i + 1 + a.size))[j]? = _
  rw [List.getElem?_append_left (by rw [T7];exact hj)]
 ·have := h (a.size + j + 1) (by show a.size + j + 1 < a.size + b.size + 1;omega)
  rw [show i + 1 + a.size + j = i + (a.size + j + 1) by omega,this]
  show (E8 a (i + 1) ++ E8 b (i + 1 + a.size))[a.size + j]? = _
  rw [List.getElem?_append_right (by rw [T7];omega),T7,Nat.add_sub_cancel_left]
theorem A3B {ns : List NdT} : ∀ (t : KT) (i : Nat),A0a ns t i → Lay ns t.sh i
 | .none,_,_=>trivial
 | .node r c a b,i,h=>by
  obtain ⟨h1,h2,h3⟩:=A4r h
  refine ⟨_,h1,?_,?_,A3B a _ h2,?_⟩
  ·rw [A0J]
  ·rw [A0J,A0J]
  ·rw [A0J];exact A3B b _ h3
theorem A2d {ns : List NdT} : ∀ (t : KT) (i : Nat),A0a ns t i → ∀ j,j < t.size → ∃ x,ns[i + j]? = some x ∧ ∃ r ∈ t.rows,x.r = (r : Nat)
 | .none,_,_,j,hj=>absurd hj (Nat.not_lt_zero _)
 | .node r c a b,i,h,j,hj=>by
  obtain ⟨h1,h2,h3⟩:=A4r h
  have hs : (KT.node r c a b).size = a.size + b.size + 1:=rfl
  rw [hs] at hj
  cases j with
  | zero=>exact ⟨_,h1,r,List.mem_cons_self,rfl⟩
  | succ j =>
   rcases Nat.lt_or_ge j a.size with hja | hja
   ·obtain ⟨x,hx,q,hq,e⟩:=A2d a (i + 1) h2 j hja
    exact ⟨x,by rw [show i + (j + 1) = i + 1 + j by omega];exact hx,q,List.mem_cons_of_mem _ (List.mem_append_left _ hq),e⟩
   ·obtain ⟨x,hx,q,hq,e⟩:=A2d b (i + 1 + a.size) h3 (j - a.size) (by omega)
    exact ⟨x,by rw [show i + (j + 1) = i + 1 + a.size + (j - a.size) by omega];exact hx,q,List.mem_cons_of_mem _ (List.mem_append_right _ hq),e⟩
theorem B1d {x y : Rat} (h : x ≤ y) : decide (0 < E5 x y) = false:=decide_eq_false fun h1=>by
 unfold E5 at h1
 split at h1
 ·omega
 ·split at h1
  ·rename_i h2 h3
   exact absurd h (Rat.not_le.2 h3)
  ·omega
theorem B4H {x y : Rat} (h : y ≤ x) : decide (E5 x y < 0) = false:=decide_eq_false fun h1=>absurd h (Rat.not_le.2 (A4p.1 h1))
theorem A5V {X : List (List Rat)} {ns : List NdT} : ∀ (t : KT) (i : Nat),A0a ns t i → t.ok X → ∀ k,i ≤ k → k < i + t.size → W5 X ns k = false
 | .none,i,_,_,k,h1,h2=>by simp [KT.size] at h2;omega
 | .node r c a b,i,h,⟨ha,hb,hla,hlb⟩,k,h1,h2=>by
  obtain ⟨g1,g2,g3⟩:=A4r h
  have hs : (KT.node r c a b).size = a.size + b.size + 1:=rfl
  rw [hs] at h2
  rcases Nat.eq_or_lt_of_le h1 with rfl | h1
  ·have hlay:=A3B _ _ h
   have hz : (KT.node r c a b).sh.size = a.size + b.size + 1:=A0J _
   have hln:=A1S _ _ hlay (by omega)
   have hp : D9 ns i = some (i + (a.size + b.size + 1),(KT.node r c a b).sh.deep):=by
    have := A1n ns _ i (ns.length + 1) (by omega) hlay (by omega)
    rw [hz] at this
    exact this
   refine A7u fun j hj1 hj2=>?_
   rw [hp] at hj2
   have hj2 : j < i + (a.size + b.size + 1):=hj2
   have hr:=A5K g1
   rw [hp] at hr
   have hr : T4 ns i = if (if b.size = 0 then (0 : Int) else (i + 1 + a.size : Nat)) = 0 then ((i + (a.size + b.size + 1) : Nat) : Int) else (if b.size = 0 then 0 else (i + 1 + a.size : Nat)):=hr
   rcases Nat.lt_or_ge j (i + 1 + a.size) with hja | hja
   ·obtain ⟨x,hx,q,hq,e⟩:=A2d a (i + 1) g2 (j - (i + 1)) (by omega)
    rw [show i + 1 + (j - (i + 1)) = j by omega] at hx
    rw [A2f g1 hx]
    have hle:=hla q hq
    have h3 : T4 ns i = ((i + 1 + a.size : Nat) : Int):=by
     rw [hr]
     by_cases hb0 : b.size = 0
     ·simp [hb0];omega
     ·rw [if_neg hb0,if_neg (by omega)]
    have d1 : decide (T4 ns i ≤ (j : Int)) = false:=decide_eq_false (by omega)
    rw [d1,e]
    simp only [Int.toNat_natCast]
    rw [B1d hle]
    simp
   ·have hb0 : b.size ≠ 0:=by omega
    obtain ⟨x,hx,q,hq,e⟩:=A2d b (i + 1 + a.size) g3 (j - (i + 1 + a.size)) (by omega)
    rw [show i + 1 + a.size + (j - (i + 1 + a.size)) = j by omega] at hx
    rw [A2f g1 hx]
    have hle:=hlb q hq
    have h3 : T4 ns i = ((i + 1 + a.size : Nat) : Int):=by
     rw [hr,if_neg hb0,if_neg (by omega)]
    have d1 : decide ((j : Int) < T4 ns i) = false:=decide_eq_false (by omega)
    rw [d1,e]
    simp only [Int.toNat_natCast]
    rw [B4H hle]
    simp
  ·rcases Nat.lt_or_ge k (i + 1 + a.size) with h4 | h4
   ·exact A5V a (i + 1) g2 ha k (by omega) (by omega)
   ·exact A5V b (i + 1 + a.size) g3 hb k (by omega) (by omega)
theorem A1v : ∀ (t : KT) (i : Nat),(E8 t i).map (·.r) = t.rows.map fun (r : Nat)=>(r : Int)
 | .none,_=>rfl
 | .node r c a b,i=>by
  show (_ :: (E8 a (i + 1) ++ E8 b (i + 1 + a.size))).map _ = (r :: (a.rows ++ b.rows)).map _
  simp [A1v a,A1v b]
theorem A4q {w : Nat} : ∀ (t : KT) (i : Nat),t.cols w → ∀ x ∈ E8 t i,0 ≤ x.c ∧ x.c < (w : Int)
 | .none,_,_,x,hx=>by cases hx
 | .node r c a b,i,⟨hc,ha,hb⟩,x,hx=>by
  have hx : x ∈ _ :: (E8 a (i + 1) ++ E8 b (i + 1 + a.size)):=hx
  rcases List.mem_cons.1 hx with rfl | hx
  ·exact ⟨Int.natCast_nonneg _,by show (c : Int) < w;omega⟩
  ·rcases List.mem_append.1 hx with hx | hx
   ·exact A4q a _ ha x hx
   ·exact A4q b _ hb x hx
theorem B27 {X : List (List Rat)} {w : Nat} {t : KT} (hok : t.ok X) (hc : t.cols w) (hr : t.rows.Perm (List.range X.length)) (h0 : 0 < X.length) : H6 X w (E8 t 0) = 0 ∧ D9 (E8 t 0) 0 = some (X.length,t.deep):=by
 have hpl : A0a (E8 t 0) t 0:=fun j _=>by rw [Nat.zero_add]
 have hrl : t.rows.length = t.size:=by
  have h:=congrArg List.length (A1v t 0)
  simp only [List.length_map,T7] at h
  exact h.symm
 have hsz : t.size = X.length:=by rw [← hrl,hr.length_eq,List.length_range]
 have hlen : (E8 t 0).length = X.length:=by rw [T7,hsz]
 have hlay:=A3B _ _ hpl
 have hz:=A0J t
 have hp : D9 (E8 t 0) 0 = some (X.length,t.deep):=by
  have := A1n (E8 t 0) t.sh 0 ((E8 t 0).length + 1) (by omega) hlay (by omega)
  rw [Nat.zero_add,hz,hsz,A5E] at this
  exact this
 have hnd : t.rows.Nodup:=hr.nodup_iff.2 List.nodup_range
 refine ⟨A8z hlen (fun h=>?_) (fun k hk=>?_) (fun i hi=>?_),hp⟩
 ·rw [hp] at h
  rcases h with h | h
  ·cases h
  ·exact h hlen.symm
 ·have hx:=List.getElem?_eq_getElem hk
  rw [A6e hx]
  have h1:=A4q t 0 hc _ (List.getElem_mem hk)
  have h2 : (E8 t 0)[k].r ∈ (E8 t 0).map (·.r):=List.mem_map_of_mem (f:=fun x : NdT=>x.r) (List.getElem_mem hk)
  rw [A1v] at h2
  obtain ⟨q,hq,e⟩:=List.mem_map.1 h2
  have hqn : q < X.length:=List.mem_range.1 (hr.mem_iff.1 hq)
  have h3 : O0 (E8 t 0) k (E8 t 0)[k].r = false:=by
   unfold O0
   rw [List.any_eq_false]
   intro y hy he
   have he:=of_decide_eq_true he
   have hnd2 : ((E8 t 0).map (·.r)).Nodup:=by
    rw [A1v]
    refine List.Pairwise.map _ (fun a b hab h=>hab (Int.ofNat.inj h)) hnd
   obtain ⟨j,hj,rfl⟩:=List.getElem_of_mem hy
   rw [List.length_take] at hj
   rw [List.getElem_take] at he
   have h4:=List.pairwise_iff_getElem.1 hnd2 j k (by simp;omega) (by simpa using hk) (by omega)
   simp only [List.getElem_map] at h4
   exact h4 he
  rw [h3,← e]
  simp
  omega
 ·exact A5V t 0 hpl hok i (Nat.zero_le _) (by rw [Nat.zero_add,← T7 t 0];exact hi)
theorem B0F (X : List (List Rat)) (w : Nat) (hw : 0 < w) (h0 : 0 < X.length) : H6 X w (E8 (F6 X w (List.range X.length) 0) 0) = 0 ∧ D9 (E8 (F6 X w (List.range X.length) 0) 0) 0 = some (X.length,(F6 X w (List.range X.length) 0).deep) ∧ 2 ^ (F6 X w (List.range X.length) 0).deep ≤ X.length:=by
 obtain ⟨h1,h2⟩:=B2F X w hw X.length (List.range X.length) 0 List.length_range hw
 obtain ⟨h3,h4⟩:=B27 h1 h2 (A3d X w X.length (List.range X.length) 0 List.length_range) h0
 exact ⟨h3,h4,A9D X w X.length (List.range X.length) 0 List.length_range h0⟩
end Go.Proofs.YtjmopgepnndckaaGreatDoor
