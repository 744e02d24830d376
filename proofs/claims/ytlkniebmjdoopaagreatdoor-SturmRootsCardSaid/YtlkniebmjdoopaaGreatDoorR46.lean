/- Contracts and laws. -/
import Derived.Test.YtlkniebmjdoopaaGreatDoorR45
set_option linter.unusedSimpArgs false
set_option linter.unusedVariables false
set_option maxHeartbeats 4000000
set_option maxRecDepth 100000
namespace Go.Proofs.YtlkniebmjdoopaaGreatDoor
open Go Go.RowKit
abbrev T3:=Value × Value × Value
def t3L (t : T3) : List Value:=[t.1,t.2.1,t.2.2]
def t30 : T3:=(.bool false,.slice none 0 0,.slice none 0 0)
def t3Z (p : Az) : T3:=(.bool (D2 (B1 0).num),.slice p.1.1 (ln (B1 0).num.natAbs) p.1.2,.slice p.2.1 (ln (B1 0).den) p.2.2)
def un3 (ps : List Az) (n : Nat) : List T3:=ps.map t3Z ++ List.replicate (n - ps.length) t30
theorem A5L {ps : List Az} {n : Nat} (h : ps.length ≤ n) : (un3 ps n).length = n:=by unfold un3;simp;omega
theorem B5a {ps : List Az} {n : Nat} (h : ps.length < n) (p : Az) : (un3 ps n).set ps.length (t3Z p) = un3 (ps ++ [p]) n:=by
 unfold un3
 rw [show n - ps.length = (n - (ps ++ [p]).length) + 1 by simp;omega,List.replicate_succ,List.set_append_right _ _ (by simp)]
 simp
theorem B7Q {ps : List Az} {n : Nat} (h : ps.length = n) : (un3 ps n).flatMap t3L = (ps.map fun p=>((p,B1 0) : Zr)).flatMap zrL:=by
 unfold un3
 rw [h,Nat.sub_self,List.replicate_zero,List.append_nil,List.flatMap_map,List.flatMap_map]
 rfl
theorem B3W : (Tryz.prog.info? 66).map (fun i=>(i.zero,i.size,i.bytes)) = some (some (.agg (t3L t30).toArray),3,56):=by kernel_rfl
theorem B6C (n : Nat) : madeCells (Value.agg (t3L t30).toArray).cells (n * 3) = ((List.replicate n t30).flatMap t3L).toArray:=by
 unfold madeCells
 have hl:=A00 (enc:=t3L) (size:=3) (fun _=>rfl) (List.replicate n t30)
 rw [List.length_replicate] at hl
 refine Array.ext (by rw [show (((List.replicate n t30).flatMap t3L).toArray).size = n * 3 from hl];simp) fun i h1 h2=>?_
 have h1' : i < n * 3:=by simpa using h1
 have hg:=A4Y (enc:=t3L) (size:=3) (fun _=>rfl) (List.replicate n t30) (i / 3) (i % 3) (by rw [List.length_replicate];omega) (by omega)
 rw [show i / 3 * 3 + i % 3 = i by omega,List.getElem_replicate] at hg
 have h3 : ((List.replicate n t30).flatMap t3L)[i]? = some ((List.replicate n t30).flatMap t3L)[i]:=List.getElem?_eq_getElem _
 rw [h3] at hg
 have h4 : (t3L t30)[i % 3]? = some ((t3L t30)[i % 3]'(by show i % 3 < 3;omega)):=List.getElem?_eq_getElem _
 rw [h4] at hg
 injection hg with hg
 simp only [List.getElem_toArray,Value.cells,Array.getElem_ofFn]
 rw [hg]
 simp [show (t3L t30).length = 3 from rfl]
 rw [h4]
 rfl
theorem B2p (n : Nat) (hn : n ≤ 1048576) (x : Int) (hx : x = n) (W : World) : (Instr.makeSlice 25 (.int .i64 x) (.int .i64 x)).run Tryz.prog W =
  .ok (.slice (some ⟨W.heap.size,0,none⟩) n n) (W.alloc (.cells ((List.replicate n t30).flatMap t3L).toArray 66)):=by
 obtain ⟨i0,hi0,hz0,hz1,hz2⟩:=info_parts B3W
 have hr:=run_make (P:=Tryz.prog) W 25 66 i0 (.agg (t3L t30).toArray) Tryz.underlying25 hi0 hz0 .i64 .i64 n n (by omega) (by omega) (by rw [hz2];omega) (by omega)
 rw [hx]
 rw [hr,hz1]
 simp only [Int.toNat_natCast]
 rw [B6C]
theorem B25 {u v : World} {B n : Nat} (hB : B ≤ u.heap.size) (hn : n ≤ 1048576) (hv : u.alloc (.cells ((List.replicate n t30).flatMap t3L).toArray 66) = v) : v.ownsRow B 66 3 (.slice (some ⟨u.heap.size,0,none⟩) n n) n ((un3 [] n).flatMap t3L):=by
 subst hv
 have hl:=A00 (enc:=t3L) (size:=3) (fun _=>rfl) (List.replicate n t30)
 rw [List.length_replicate] at hl
 have h:=World.ownsRow_lit (base:=B) (e:=66) (size:=3) u ((List.replicate n t30).flatMap t3L).toArray n hB (by unfold maxLen;omega) (by simp only [List.size_toArray];exact hl)
 simpa [un3] using h
theorem A7e {α : Type} {enc : α → List Value} {B : Nat} {e : TypeId} {g cap n : Nat} (he : ∀ x,(enc x).length = 3) {u : World} {ps : List α} (h : u.ownsRow B e 3 (.slice (some ⟨g,0,none⟩) n cap) n (ps.flatMap enc)) (hn : n = ps.length) (k : Nat) (hk : k < ps.length) :
  ∃ y0 y1 y2,u.cell? ⟨g,k * 3,none⟩ = some y0 ∧ u.cell? ⟨g,k * 3 + 1,none⟩ = some y1 ∧ u.cell? ⟨g,k * 3 + 2,none⟩ = some y2 ∧ ∀ j,u.frozen? ⟨g,j,none⟩ = false:=by
 have hl:=he ps[k]
 have h0:=A0x he h hn k 0 hk (by omega)
 have h1:=A0x he h hn k 1 hk (by omega)
 have h2:=A0x he h hn k 2 hk (by omega)
 rw [List.getElem?_eq_getElem (by omega)] at h0 h1 h2
 exact ⟨_,_,_,h0,h1,h2,fun j=>h.frozenAt j⟩
theorem F0.row {u u' : World} {ps : List Zr} {B size n cap g i : Nat} {xs vs : List Value} (hl : F0 u ps) (h : u.ownsRow B 66 size (.slice (some ⟨g,0,none⟩) n cap) n xs) (hu : F1 u g i vs = u') : F0 u' ps:=by
 obtain ⟨h0,h1 | ⟨g',cap',cur,e1,hb,hh,-⟩⟩:=h
 ·exact absurd h1.1 (by simp)
 ·obtain rfl : g = g':=by cases e1;rfl
  exact hl.put (bl:=[(g,66,cur)]) (Bx.cons hh (Bx.nil u)) 0 rfl (by decide) i vs hu
def ZW (B g c N : Nat) (l : List Rat) (W : World) : Prop:=∃ ps : List Zr,ps.map (·.2) = l ∧ F0 W ps ∧ W.ownsRow B 66 3 (.slice (some ⟨g,0,none⟩) N c) N (ps.flatMap zrL)
section
variable {B B' g c N : Nat} {l : List Rat} {u w' : World}
theorem ZW.len (h : ZW B g c N l u) : l.length = N:=by
 obtain ⟨ps,h1,h2,h3⟩:=h
 obtain ⟨A,c',e,-,-,-,hk⟩:=A0e h3 h2
 rw [← h1,List.length_map,hk]
theorem ZW.grow (h : ZW B g c N l u) (hg : A3 u w') : ZW B g c N l w':=by
 obtain ⟨ps,h1,h2,h3⟩:=h
 exact ⟨ps,h1,h2.grow hg,F4 h3 hg⟩
theorem ZW.mono (h : ZW B g c N l u) (hb : B' ≤ B) : ZW B' g c N l u:=by
 obtain ⟨ps,h1,h2,h3⟩:=h
 exact ⟨ps,h1,h2,h3.mono hb⟩
theorem ZW.lt (h : ZW B g c N l u) : B ≤ g ∧ g < u.heap.size:=by
 obtain ⟨ps,h1,h2,h3⟩:=h
 exact h3.lt g rfl
theorem ZW.spot (h : ZW B g c N l u) {i : Nat} (hi : i < N) : ∃ y0 y1 y2,u.cell? ⟨g,i * 3,none⟩ = some y0 ∧ u.cell? ⟨g,i * 3 + 1,none⟩ = some y1 ∧ u.cell? ⟨g,i * 3 + 2,none⟩ = some y2 ∧ ∀ j,u.frozen? ⟨g,j,none⟩ = false:=by
 obtain ⟨ps,h1,h2,h3⟩:=h
 obtain ⟨A,c',e,-,-,-,hk⟩:=A0e h3 h2
 exact A7e (enc:=zrL) (fun _=>rfl) h3 hk i (by omega)
theorem ZW.put (h : ZW B g c N l u) {i : Nat} (hi : i < N) {p : Az} {q : Rat} (hp : Rz u p q) (hu : F1 u g (i * 3) (zL p q) = w') : ZW B g c N (l.set i q) w' ∧ u.grownBy w' (some g):=by
 obtain ⟨ps,h1,h2,h3⟩:=h
 obtain ⟨A,c',e,-,-,-,hk⟩:=A0e h3 h2
 have hP:=A17 (enc:=zrL) (size:=3) (ps:=ps) (fun _=>rfl) h3 i (p,q) (by omega)
 rw [show F1 u g (i * 3) (zrL (p,q)) = w' from hu] at hP
 have hA : F0 u (ps ++ [(p,q)]):=fun r hr=>by
  rcases List.mem_append.1 hr with hr | hr
  ·exact h2 r hr
  ·rw [List.mem_singleton] at hr
   rw [hr]
   exact hp
 have hA2:=F0.row hA h3 hu
 refine ⟨⟨ps.set i (p,q),by rw [List.map_set,h1],fun r hr=>?_,hP.1⟩,hP.2⟩
 rcases List.mem_or_eq_of_mem_set hr with hr | hr
 ·exact hA2 r (List.mem_append.2 (.inl hr))
 ·rw [hr]
  exact hA2 _ (by simp)
theorem ZW.other (h : ZW B g c N l u) {g2 : Nat} {B2 e size n : Nat} {c2 : Nat} {xs : List Value} (h2 : u.ownsRow B2 e size (.slice (some ⟨g2,0,none⟩) n c2) n xs) (hne : g2 ≠ g) (he : e ≠ 176) (hg : u.grownBy w' (some g2)) : ZW B g c N l w':=by
 obtain ⟨ps,h1,h3,h4⟩:=h
 exact ⟨ps,h1,A8C h3 h2 he hg,h4.kept hg (.inr (fun e=>hne (Option.some.inj e).symm))⟩
theorem ZW.own (h : ZW B g c N l u) : ∃ xs,u.ownsRow B 66 3 (.slice (some ⟨g,0,none⟩) N c) N xs:=by
 obtain ⟨ps,h1,h3,h4⟩:=h
 exact ⟨_,h4⟩
end
theorem B5F (N : Nat) (hN : N ≤ 1000) (w : World) : Calls Tryz.prog 93 #[.int .i64 (N : Nat)] w (I1 (fun x : Nat=>.slice (some ⟨x,0,none⟩) N N) (fun x W=>ZW w.heap.size x N N (A1Z N) W) w):=by
 have hmk:=B2p N (by omega) (N : Int) rfl
 have Hmk:=Lib.hid hmk
 clear hmk
 go_enter Tryz.func93,Tryz.ntmps93
 refine en0 ?_
 intro u hG hB hF
 refine wp_seq ?_
 have hmk:=Hmk.out
 refine K7 ?_
 intro K hN
 go_wp2_with fail
 generalize hv : World.alloc u _ = v
 have hrow:=B25 hG.sz (by omega) hv
 have hgv : A3 u v:=hv ▸ A3.alloc u _
 have hG2:=hG.trans hgv
 clear hv hG hB hmk hgv
 generalize u.heap.size = g at hrow ⊢
 have Ho:=Lib.hid hrow
 have hG:=hG2
 have hB:=Bx.nil v
 have hF:=Fr.nil w
 clear hrow hG2
 obtain ⟨u,rfl⟩ : ∃ x,x = v:=⟨_,rfl⟩
 refine NoK.norm (hN _ _ ?_)
 clear hN K
 refine A4 ?_
 refine wp_seq ?_
 refine r0T ?_
 refine wp_block ?_
 clear hB hF
 go_loopw [4] (fun s0 wr=>∃ ps : List Az,ps.length ≤ N ∧ s0 = .int .i64 (ps.length : Nat) ∧ F0 wr (ps.map fun p=>((p,B1 0) : Zr)) ∧ wr.ownsRow w.heap.size 66 3 (.slice (some ⟨g,0,none⟩) N N) N ((un3 ps N).flatMap t3L) ∧ A3 w wr) (fun s0 _=>N - (intOf s0).toNat)
 case atStart=>exact ⟨[],Nat.zero_le _,rfl,F0.nil _,Ho.out,hG⟩
 case round =>
  clear hG Ho
  obtain ⟨ps,hi,rfl,hA,ho,hG⟩:=hrel
  obtain ⟨u,rfl⟩ : ∃ x,x = wr:=⟨_,rfl⟩
  have Ho:=Lib.hid ho
  have hB:=Bx.nil u
  have hF:=Fr.nil w
  clear ho
  obtain ⟨i,hie⟩ : ∃ i,i = ps.length:=⟨_,rfl⟩
  rw [← hie] at hi ⊢
  rcases Nat.lt_or_ge i N with hlt | hge
  ·have hdec : decide ((i : Int) < (N : Int)) = true:=by simp;omega
   have hin : (i : Int) < (N : Int):=by omega
   have hst:=fun p=>B5a (ps:=ps) (n:=N) (by omega) p
   rw [← hie] at hst
   have Hst:=Lib.hid hst
   have Hie:=Lib.hid hie
   clear hst hie
   refine wp_seq ?_
   refine r0T ?_
   refine wp_cond_true (rfl) ?_
   refine wp_skip ?_
   refine A4 ?_
   refine wp_seq ?_
   refine wp_block ?_
   refine rsC A5 [0,0,1,0] hB hG fun K L hN hL=>?_
   refine gs ?_
   refine grd (G9 (B1 0)) (fun (x14 : Ax × Ax)=>?_) (C:=fun v _=>A0N 0 (by omega) (by omega) _)
   refine gs ?_
   refine geC hL ?_
   clear hB hG hL L
   rintro u ⟨⟨hgu,hB,hG,-⟩,hx14⟩
   replace hA:=hA.grow hgu
   obtain ⟨hx14a,hx14b⟩ : Rn u x14.1 _ ∧ Rn u x14.2 _:=hx14
   have Ho2:=Lib.hid (F4 Ho.out hgu)
   clear Ho
   have Ho:=Ho2
   clear Ho2
   obtain ⟨z0,z1,z2,o0,o1,o2,hfz⟩:=A7e (enc:=t3L) (fun _=>rfl) Ho.out (A5L (by rw [← Hie.out];exact hi)).symm i (by rw [A5L (by rw [← Hie.out];exact hi)];exact hlt)
   clear hgu
   refine gt ?_
   clear hN K
   clear o0 o1 o2 hfz
   generalize hu0 : World.setCell (World.setCell (World.setCell u _ _) _ _) _ _ = u0
   have hu1 : F1 u g (i * 3) (t3L (t3Z x14)) = u0:=hu0
   have hP:=A17 (enc:=t3L) (size:=3) (ps:=un3 ps N) (fun _=>rfl) Ho.out i (t3Z x14) (by rw [A5L (by rw [← Hie.out];exact hi)];exact hlt)
   rw [Hst.out,hu1] at hP
   have hG2:=A2i Ho.out hG hP.2
   have hA2 : F0 u0 ((ps ++ [x14]).map fun p=>((p,B1 0) : Zr)):=by
    rw [List.map_append]
    exact F0.row (hA.snoc hx14a hx14b) Ho.out hu1
   have Ho2:=Lib.hid hP.1
   clear hG hB Ho hP hu1 hu0 hA hx14a hx14b
   have hG:=hG2
   have hB:=Bx.nil u0
   have hF:=Fr.nil w
   have Ho:=Ho2
   have hA:=hA2
   clear hG2 Ho2 hA2
   obtain ⟨u,rfl⟩ : ∃ x,x = u0:=⟨_,rfl⟩
   refine D5 ?_
   refine A4 ?_
   refine r0E ?_
   refine A4 ?_
   go_roundw
   case rel=>exact ⟨ps ++ [x14],by rw [List.length_append,← Hie.out];exact hlt,by rw [List.length_append,← Hie.out];go_num,hA,Ho.out,hG⟩
   case measure=>simp [intOf];omega
  ·obtain rfl : N = i:=by omega
   have hdec : decide ((N : Int) < (N : Int)) = false:=by simp
   have ho:=Ho.out
   rw [B7Q hie.symm] at ho
   have ez : (ps.map fun p=>((p,B1 0) : Zr)).map (·.2) = A1Z N:=by
    rw [List.map_map,hie]
    unfold A1Z
    apply List.ext_getElem
    ·simp
    ·intro j h1 h2;simp;rfl
   have HL:=Lib.hid (⟨_,ez,hA,ho⟩ : ZW w.heap.size g N N (A1Z N) u)
   clear ho Ho ez hA hie
   refine wp_seq ?_
   refine r0T ?_
   refine wp_cond_false (rfl) ?_
   refine wp_exit ?_
   refine B4 ?_
   refine B4 ?_
   refine E1 ?_
   refine A4 ?_
   refine r0T ?_
   refine rt Tryz.results93 ?_
   exact ⟨g,rfl,HL.out,hG⟩
theorem ZW.lz {B g c N : Nat} {l : List Rat} {W : World} (h : ZW B g c N l W) : Lz W (some ⟨g,0,none⟩) l:=by
 obtain ⟨ps,h1,h2,h3⟩:=h
 obtain ⟨A,c',e,-,-,h4,-⟩:=A0e h3 h2
 cases e
 rw [← h1]
 exact h4
theorem ZW.read {B g c N : Nat} {l : List Rat} {W : World} (h : ZW B g c N l W) {i : Nat} (hi : i < N) : ∃ p : Az,∀ V,A3 W V → Rz V p (gq l i) ∧ Cz V g (i * 3) p (gq l i):=by
 have := h.lz.read (i:=i) (by rw [h.len];exact hi)
 simpa only [Nat.zero_add] using this
theorem B2V (b : Nat) (l : List Rat) (m c ba oa : Nat) (hl : l.length = m) (hm : 0 < m) (hm2 : m ≤ 1000) (v : World) (h : Lz v (some ⟨ba,oa,none⟩) l) :
  ∃ (x : Ax) (w' : World),(Builtin.append_ #[25,25] 25 #[.slice (some ⟨b,0,none⟩) 0 0,.slice (some ⟨ba,oa,none⟩) m c]).run Tryz.prog v = .ok (.slice x.1 m x.2) w' ∧ (∃ ps : List Zr,ps.map (·.2) = l ∧ F0 w' ps ∧ w'.ownsRow v.heap.size 66 3 (.slice x.1 m x.2) m (ps.flatMap zrL)) ∧ A3 v w':=by
 obtain ⟨hund,⟨i0,z0,hi0,hz0,hz1,hz2,hz3⟩,hpos⟩:=A4s
 obtain ⟨b',off,e,hb,hc⟩:=h (fun e=>by rw [e] at hl;simp at hl;omega)
 cases e
 have hex : ∀ i,∃ p : Az,i < m → (Rz v p (gq l i) ∧ Cz v ba (oa + i * 3) p (gq l i)):=fun i=>by
  by_cases hi : i < m
  ·obtain ⟨p,hp⟩:=hc i (by omega)
   exact ⟨p,fun _=>hp⟩
  ·exact ⟨((none,0),(none,0)),fun h=>absurd h hi⟩
 obtain ⟨f,hf⟩:=Classical.skolem.1 hex
 obtain ⟨ps,hps⟩ : ∃ ps : List Zr,ps = (List.range m).map fun i=>(f i,gq l i):=⟨_,rfl⟩
 have hpl : ps.length = m:=by rw [hps];simp
 have hpm : ps.map (·.2) = l:=by
  rw [hps,List.map_map]
  apply List.ext_getElem
  ·simp [hl]
  ·intro i h1 h2
   simp only [List.getElem_map,List.getElem_range,Function.comp]
   unfold gq
   rw [List.getElem?_eq_getElem h2]
   rfl
 have hpi : ∀ i,(hi : i < ps.length) → ps[i] = (f i,gq l i):=fun i hi=>by
  simp only [hps,List.getElem_map,List.getElem_range]
 have hA : F0 v ps:=fun r hr=>by
  obtain ⟨i,hi,e⟩:=List.getElem_of_mem hr
  rw [← e,hpi i hi]
  exact (hf i (by omega)).1
 have hfl : (ps.flatMap zrL).length = m * 3:=by rw [A00 (enc:=zrL) (size:=3) (fun _=>rfl) ps,hpl]
 have key : ∀ j u,(ps.flatMap zrL)[j]? = some u → v.cell? ((⟨ba,oa,none⟩ : Addr).add j) = some u:=fun j u hj=>by
  have hjl : j < m * 3:=by
   have := (List.getElem?_eq_some_iff.1 hj).1
   rw [hfl] at this
   exact this
  have h1 : j / 3 < ps.length:=by omega
  have h2:=A4Y (enc:=zrL) (size:=3) (fun _=>rfl) ps (j / 3) (j % 3) h1 (by omega)
  rw [show j / 3 * 3 + j % 3 = j by omega,hj,hpi _ h1] at h2
  obtain ⟨c1,c2,c3⟩:=(hf (j / 3) (by omega)).2
  rw [Go.WideShapes.add_plain]
  have h3 : j % 3 = 0 ∨ j % 3 = 1 ∨ j % 3 = 2:=by omega
  rcases h3 with h3 | h3 | h3
  ·rw [h3] at h2
   rw [show oa + j = oa + j / 3 * 3 by omega,c1,h2]
   rfl
  ·rw [h3] at h2
   rw [show oa + j = oa + j / 3 * 3 + 1 by omega,c2,h2]
   rfl
  ·rw [h3] at h2
   rw [show oa + j = oa + j / 3 * 3 + 2 by omega,c3,h2]
   rfl
 obtain ⟨v',w',hr,ho,hg⟩:=run_append_arg_grows (P:=Tryz.prog) v 25 25 66 i0 z0 3 _ hund hi0 hz0 hz1 hz2 hz3 hpos ⟨b,0,none⟩ 0 0 [] rfl (fun j u h=>by simp at h) ⟨ba,oa,none⟩ m c (ps.flatMap zrL) hfl key (by omega) (by unfold maxLen;omega) (by omega)
 rw [Nat.zero_add,List.nil_append] at ho
 have hG : A3 v w':=⟨hg.os,hg.tape,hg.output,hg.size,fun k hk=>hg.block k hk (fun e=>by cases e)⟩
 obtain ⟨gg,cap,rfl,-,-⟩:=A18 ho hm
 exact ⟨(some ⟨gg,0,none⟩,cap),w',hr,⟨ps,hpm,hA.grow hG,ho⟩,hG⟩
theorem A9d (b : Nat) (A : Option Addr) (c : Nat) (v : World) : (Builtin.append_ #[25,25] 25 #[.slice (some ⟨b,0,none⟩) 0 0,.slice A 0 c]).run Tryz.prog v = .ok (.slice (some ⟨b,0,none⟩) 0 0) v:=by
 cases A <;> go_simp
def OZ (B : Nat) (x : Ax) (l : List Rat) (W : World) : Prop:=∃ ps : List Zr,ps.map (·.2) = l ∧ F0 W ps ∧ W.ownsRow B 66 3 (.slice x.1 l.length x.2) l.length (ps.flatMap zrL)
section
variable {B B' : Nat} {x : Ax} {l : List Rat} {u v : World}
theorem OZ.grow (h : OZ B x l u) (hg : A3 u v) : OZ B x l v:=by
 obtain ⟨ps,h1,h2,h3⟩:=h
 exact ⟨ps,h1,h2.grow hg,F4 h3 hg⟩
theorem OZ.mono (h : OZ B x l u) (hb : B' ≤ B) : OZ B' x l u:=by
 obtain ⟨ps,h1,h2,h3⟩:=h
 exact ⟨ps,h1,h2,World.ownsRow.mono h3 hb⟩
theorem OZ.lz (h : OZ B x l u) : Lz u x.1 l:=by
 obtain ⟨ps,h1,h2,h3⟩:=h
 obtain ⟨A,c',e,-,-,h4,-⟩:=A0e h3 h2
 cases e
 rw [← h1]
 exact h4
theorem OZ.cap (h : OZ B x l u) : l.length ≤ x.2:=by
 obtain ⟨ps,h1,h2,h3,h4 | ⟨g,cap,cur,e,hb,hh,hn,-⟩⟩:=h
 ·rw [h4.2];exact Nat.zero_le _
 ·injection e with _ _ e
  rw [e];exact hn
theorem OZ.nil (B : Nat) (u : World) : OZ B (none,0) [] u:=⟨[],rfl,F0.nil u,rfl,.inl ⟨rfl,rfl⟩⟩
end
def R7 (l : List Rat) (w : World) (e : Ending) (w' : World) : Prop:=I1 (fun x : Ax=>.slice x.1 l.length x.2) (fun x W=>OZ w.heap.size x l W) w e w'
theorem B44 (A : Option Addr) (l : List Rat) (n c : Nat) (hl : l.length = n) (hc : n ≤ c) (hm : n ≤ 1000) (w : World) (h : Lz w A l) : Calls Tryz.prog 77 #[.slice A n c] w (R7 (trL l) w):=by
 have hrd : ∀ i,i < n → ∃ (b o : Nat) (p : Az),A = some ⟨b,o,none⟩ ∧ ∀ W,A3 w W → Cz W b (o + i * 3) p (gq l i):=fun i hi=>by
  obtain ⟨b,o,e⟩:=h.addr (by omega)
  subst e
  obtain ⟨p,hp⟩:=h.read (i:=i) (by omega)
  exact ⟨b,o,p,rfl,fun W hg=>(hp W hg).2⟩
 have htn : trN l = J5 l n:=by unfold trN;rw [hl]
 have htl : ∀ t,J5 l (t + 1) = if gq l t = 0 then J5 l t else t + 1:=fun t=>rfl
 have hle:=H8 l
 have hap : 0 < trN l → ∃ (ba oa : Nat),A = some ⟨ba,oa,none⟩ ∧ ∀ W,A3 w W → ∀ b,∃ (x : Ax) (w' : World),(Builtin.append_ #[25,25] 25 #[.slice (some ⟨b,0,none⟩) 0 0,.slice (some ⟨ba,oa,none⟩) (trN l) c]).run Tryz.prog W = .ok (.slice x.1 (trN l) x.2) w' ∧ OZ W.heap.size x (trL l) w' ∧ A3 W w':=fun h0=>by
  obtain ⟨ba,oa,e⟩:=h.addr (by omega)
  subst e
  have hl0 : 0 < l.length:=Nat.lt_of_lt_of_le h0 hle
  refine ⟨ba,oa,rfl,fun W hg b=>?_⟩
  have hz : Lz W (some ⟨ba,oa,none⟩) (trL l):=fun hne=>by
   obtain ⟨b',o',e,hb,hcc⟩:=(h.grow hg) (fun e=>by rw [e] at hl0;simp at hl0)
   refine ⟨b',o',e,hb,fun i hi=>?_⟩
   rw [E6] at hi
   obtain ⟨p,hp⟩:=hcc i (by omega)
   exact ⟨p,by rw [Q8];exact hp⟩
  obtain ⟨x,w',g1,⟨ps,g2,g3,g4⟩,g5⟩:=B2V b (trL l) (trN l) c ba oa (E6 l) h0 (by omega) W hz
  refine ⟨x,w',g1,⟨ps,g2,g3,?_⟩,g5⟩
  rw [E6];exact g4
 have htc : trN l ≤ c:=by omega
 unfold R7
 rw [E6]
 obtain ⟨TL,hTL⟩ : ∃ T,T = trL l:=⟨_,rfl⟩
 rw [← hTL] at hap ⊢
 have hTl : TL.length = trN l:=by rw [hTL];exact E6 l
 obtain ⟨R,hR⟩ : ∃ R,R = trN l:=⟨_,rfl⟩
 rw [← hR] at htn hle hap htc hTl ⊢
 have Hrd:=Lib.hid hrd
 have Htn:=Lib.hid htn
 have Htl:=Lib.hid htl
 have Hle:=Lib.hid (show R ≤ n by omega)
 have Hap:=Lib.hid hap
 have HTl:=Lib.hid hTl
 clear hrd htn htl hle hR hap h hTL hTl
 go_enter Tryz.func77,Tryz.ntmps77
 refine en0 ?_
 intro u hG hB hF
 refine r0T ?_
 refine wp_seq ?_
 refine wp_block ?_
 clear hB hF
 go_loopw [3] (fun s0 wr=>∃ t : Nat,t ≤ n ∧ J5 l t = R ∧ s0 = .int .i64 t ∧ A3 w wr) (fun s0 _=>(intOf s0).toNat)
 case atStart=>exact ⟨n,Nat.le_refl _,Htn.out.symm,rfl,hG⟩
 case round =>
  clear hG
  obtain ⟨t,ht,hR,rfl,hG⟩:=hrel
  obtain ⟨u,rfl⟩ : ∃ x,x = wr:=⟨_,rfl⟩
  have hB:=Bx.nil u
  have hF:=Fr.nil w
  rcases Nat.eq_zero_or_pos t with h0 | h0
  ·subst h0
   have e0:=Lib.hid (show R = 0 by rw [← hR];rfl)
   clear hR ht
   cases A with
   | none =>
    refine wp_seq ?_
    refine wp_seq (rsE A5 [0,0,0,0,0,0,0,0,1,0,0] hB hG fun L hL=>?_)
    refine gs ?_
    refine gmn (by exact rfl) ?_
    refine okf (by simp only [Act.put,List.setIfInBounds_toArray,List.set_cons_succ,List.set_cons_zero];exact rfl) ?_
    refine gs ?_
    refine geT hL ?_
    clear hB hG hL L
    rintro u ⟨-,hB,hG,-⟩
    refine wp_cond_false (rfl) ?_
    refine wp_exit ?_
    refine B4 ?_
    refine B4 ?_
    refine E1 ?_
    refine A4 ?_
    refine wp_seq ?_
    have hr0:=fun A0=>A9d u.heap.size A0 c (World.alloc u (.cells #[] 66))
    refine K7 ?_
    intro K hN
    go_wp2_with fail
    clear hr0
    generalize hv : World.alloc u _ = v
    have hgv : A3 u v:=hv ▸ A3.alloc u _
    have hzo : OZ w.heap.size (some ⟨u.heap.size,0,none⟩,0) [] v:=⟨[],rfl,F0.nil v,rfl,.inr ⟨u.heap.size,0,#[],rfl,hG.size,hv ▸ Blk.new u 66 #[],Nat.le_refl _,by unfold maxLen;omega,rfl,rfl⟩⟩
    have hG5:=hG.trans hgv
    generalize u.heap.size = g0 at hzo ⊢
    clear hG hB hv hgv
    have hG:=hG5
    have hB:=Bx.nil v
    clear hG5
    obtain ⟨u,rfl⟩ : ∃ x,x = v:=⟨_,rfl⟩
    refine NoK.norm (hN _ _ ?_)
    clear hN K
    refine A4 ?_
    refine rt Tryz.results77 ?_
    exact ⟨(some ⟨g0,0,none⟩,0),by rw [e0.out],by
     have h9 : TL = []:=List.length_eq_zero_iff.1 (by rw [HTl.out,e0.out])
     rw [h9];exact hzo,hG⟩
   | some a0 =>
    refine wp_seq ?_
    refine wp_seq (rsE A5 [0,0,0,0,0,0,0,0,1,0,0] hB hG fun L hL=>?_)
    refine gs ?_
    refine gmn (by exact rfl) ?_
    refine okf (by simp only [Act.put,List.setIfInBounds_toArray,List.set_cons_succ,List.set_cons_zero];exact rfl) ?_
    refine gs ?_
    refine geT hL ?_
    clear hB hG hL L
    rintro u ⟨-,hB,hG,-⟩
    refine wp_cond_false (rfl) ?_
    refine wp_exit ?_
    refine B4 ?_
    refine B4 ?_
    refine E1 ?_
    refine A4 ?_
    refine wp_seq ?_
    have hr0:=fun A0=>A9d u.heap.size A0 c (World.alloc u (.cells #[] 66))
    refine K7 ?_
    intro K hN
    go_wp2_with fail
    clear hr0
    generalize hv : World.alloc u _ = v
    have hgv : A3 u v:=hv ▸ A3.alloc u _
    have hzo : OZ w.heap.size (some ⟨u.heap.size,0,none⟩,0) [] v:=⟨[],rfl,F0.nil v,rfl,.inr ⟨u.heap.size,0,#[],rfl,hG.size,hv ▸ Blk.new u 66 #[],Nat.le_refl _,by unfold maxLen;omega,rfl,rfl⟩⟩
    have hG5:=hG.trans hgv
    generalize u.heap.size = g0 at hzo ⊢
    clear hG hB hv hgv
    have hG:=hG5
    have hB:=Bx.nil v
    clear hG5
    obtain ⟨u,rfl⟩ : ∃ x,x = v:=⟨_,rfl⟩
    refine NoK.norm (hN _ _ ?_)
    clear hN K
    refine A4 ?_
    refine rt Tryz.results77 ?_
    exact ⟨(some ⟨g0,0,none⟩,0),by rw [e0.out],by
     have h9 : TL = []:=List.length_eq_zero_iff.1 (by rw [HTl.out,e0.out])
     rw [h9];exact hzo,hG⟩
  ·obtain ⟨k,rfl⟩ : ∃ k,t = k + 1:=⟨t - 1,by omega⟩
   have f7 : decide ((0 : Int) < ((k + 1 : Nat) : Int)) = true:=decide_eq_true (by omega)
   have fw : IntKind.i64.wrap (((k + 1 : Nat) : Int) - 1) = (k : Int):=by rw [IntWalk.i64_in _ (by omega)];omega
   have hkn : (k : Int) < (n : Int):=by omega
   obtain ⟨b,o,p,rfl,hrd⟩:=Hrd.out k (by omega)
   have htl:=Htl.out k
   have hs0:=@A6u (gq l k)
   obtain ⟨X,hX⟩ : ∃ X,X = gq l k:=⟨_,rfl⟩
   rw [← hX] at htl hs0
   simp only [← hX] at hrd
   obtain ⟨S,hS⟩ : ∃ S,S = X.num.sign:=⟨_,rfl⟩
   rw [← hS] at hs0
   have hsg:=fun W=>B2W p.1 p.2 X W
   simp only [← hS] at hsg
   have Hrd1:=Lib.hid hrd
   have Hsg1:=Lib.hid hsg
   obtain ⟨t,hte⟩ : ∃ t,t = k + 1:=⟨_,rfl⟩
   rw [← hte] at f7 fw hR ht htl h0 ⊢
   by_cases hx : X = 0
   ·have fs : (S == 0) = true:=by rw [hs0];simp [hx]
    have HR:=Lib.hid (show J5 l k = R by rw [← hR,htl,if_pos hx])
    have Hte:=Lib.hid hte
    clear hrd hsg hx hS hX hs0 htl hR hte
    refine wp_seq ?_
    refine wp_seq (rsE A5 [0,0,0,0,0,0,0,0,1,0,0] hB hG fun L hL=>?_)
    repeat first | refine gya ?_ | refine gyr ?_ | refine gna ?_ | refine gyb (by (rintro v ⟨hgu,hB,hG,-⟩ N hN;have r:=hB.r;simp only [BxR] at r;obtain ⟨q1,q2,q3⟩:=Hrd1.out v hG;go_simp;exact hN)) ?_
    first | refine gmw (C:=fun v=>Hsg1.out _) ?_ | refine H6 ?_
    refine gs ?_
    refine geT hL ?_
    clear hB hG hL L
    rintro u ⟨-,hB,hG,-⟩
    refine wp_cond_true (rfl) ?_
    refine wp_skip ?_
    refine A4 ?_
    refine wp_block ?_
    refine r0E ?_
    refine D5 ?_
    refine A4 ?_
    go_roundw
    case rel=>exact ⟨k,by omega,HR.out,rfl,hG⟩
    case measure=>have hte:=Hte.out;simp [intOf];omega
   ·have fs : (S == 0) = false:=by rw [hs0];simp [hx]
    have HR:=Lib.hid (show t = R by rw [← hR,htl,if_neg hx,hte])
    have Hte:=Lib.hid hte
    clear hrd hsg hx hS hX hs0 htl hR hte
    refine wp_seq ?_
    refine wp_seq (rsE A5 [0,0,0,0,0,0,0,0,1,0,0] hB hG fun L hL=>?_)
    repeat first | refine gya ?_ | refine gyr ?_ | refine gna ?_ | refine gyb (by (rintro v ⟨hgu,hB,hG,-⟩ N hN;have r:=hB.r;simp only [BxR] at r;obtain ⟨q1,q2,q3⟩:=Hrd1.out v hG;go_simp;exact hN)) ?_
    first | refine gmw (C:=fun v=>Hsg1.out _) ?_ | refine H6 ?_
    refine gs ?_
    refine geT hL ?_
    clear hB hG hL L
    rintro u ⟨-,hB,hG,-⟩
    refine wp_cond_false (rfl) ?_
    refine wp_exit ?_
    refine B4 ?_
    refine B4 ?_
    refine E1 ?_
    refine A4 ?_
    refine wp_seq ?_
    have hRt:=HR.out
    obtain ⟨ba,oa,eA,hap⟩:=Hap.out (by omega)
    cases eA
    subst hRt
    obtain ⟨x5,w5,hr5,ho5,hg5⟩:=hap (World.alloc u (.cells #[] 66)) (hG.trans (A3.alloc u _)) u.heap.size
    refine K7 ?_
    intro K hN
    go_wp2_with (at_builtin;refine A5c rfl (.tmp 19) (.tmp 22) 25 rfl rfl rfl hr5 ?_)
    have hG5:=(hG.trans (A3.alloc u _)).trans hg5
    have hO5:=ho5.mono (B':=w.heap.size) (Nat.le_trans hG.size (by rw [I4];omega))
    clear hr5 ho5 hg5 hG hB hap
    have hG:=hG5
    have hB:=Bx.nil w5
    clear hG5
    obtain ⟨u,rfl⟩ : ∃ x,x = w5:=⟨_,rfl⟩
    refine NoK.norm (hN _ _ ?_)
    clear hN K
    refine A4 ?_
    refine rt Tryz.results77 ?_
    exact ⟨x5,rfl,hO5,hG⟩
end Go.Proofs.YtlkniebmjdoopaaGreatDoor
