/- Contracts and laws. -/
import Derived.Test.YtgpglgbcobeogaaGreatDoorT31
set_option linter.unusedSimpArgs false
set_option linter.unusedVariables false
set_option maxHeartbeats 8000000
set_option maxRecDepth 100000
namespace Go.Proofs.YtgpglgbcobeogaaGreatDoor
open Go Go.RowKit
theorem A3Z {w : World} {A : Option Addr} {rs : List Rq} {N L : Nat} (hn : rs.length = N) (hrl : ∀ r ∈ rs,r.2.2.length = L) (h : Lrz w A rs) {i : Nat} (hi : i < N) : ∃ (bb ob : Nat) (P : Ax),A = some ⟨bb,ob,none⟩ ∧ (∀ W,A4 w W → W.cell? ⟨bb,ob + i,none⟩ = some (.slice P.1 L P.2) ∧ Lz W P.1 (B7 (rs.map (·.2.2)) i)) ∧ (B7 (rs.map (·.2.2)) i).length = L:=by
 obtain ⟨bb,ob,rfl⟩:=h.addr (by omega)
 have hil : i < rs.length:=by omega
 have e : B7 (rs.map (·.2.2)) i = rs[i].2.2:=by unfold B7;rw [List.getElem?_map,List.getElem?_eq_getElem hil];rfl
 refine ⟨bb,ob,(rs[i].1,rs[i].2.1),rfl,fun W hg=>?_,by rw [e];exact hrl _ (List.getElem_mem hil)⟩
 have h3:=(h.grow hg).read (List.getElem?_eq_getElem hil)
 rw [hrl _ (List.getElem_mem hil)] at h3
 rw [e]
 exact ⟨h3.1,h3.2⟩
theorem A39 {l : List Rat} {n s : Nat} (hl : l.length = n) (h : ∀ i,i < n → qs (gq l i) ≤ s) : ∀ x ∈ l,qs x ≤ s:=fun x hx=>by
 obtain ⟨i,hi,e⟩:=List.getElem_of_mem hx
 have h1:=h i (by omega)
 have h2:=A0H hi
 rw [List.getElem?_eq_getElem hi] at h2
 injection h2 with h2
 rw [← h2,e] at h1
 exact h1
theorem B3H (A : Option Addr) (rs : List Rq) (N L c j : Nat) (hn : rs.length = N) (hN2 : N ≤ 300) (hrl : ∀ r ∈ rs,r.2.2.length = L) (hj : j < L) (hL : L ≤ 20) (w : World) (h : Lrz w A rs) :
  Calls Tryz.prog 106 #[.slice A N c,.int .i64 (j : Nat)] w (F8 (fun x : Ax=>.slice x.1 N x.2) (fun x W=>Lz W x.1 (G6 (rs.map (·.2.2)) j N)) w):=by
 have hat : ∀ i,i < N → ∃ (bb ob ba oa cr : Nat) (p : Az),A = some ⟨bb,ob,none⟩ ∧ ∀ W,A4 w W → W.cell? ⟨bb,ob + i,none⟩ = some (.slice (some ⟨ba,oa,none⟩) L cr) ∧ Rz W p (gq (B7 (rs.map (·.2.2)) i) j) ∧ Cz W ba (oa + j * 3) p (gq (B7 (rs.map (·.2.2)) i) j):=fun i hi=>by
  obtain ⟨bb,ob,⟨P1,P2⟩,e,hP,hl⟩:=A3Z hn hrl h hi
  obtain ⟨h1,h2⟩:=hP w (A4.refl w)
  obtain ⟨ba,oa,e1⟩:=h2.addr (by omega)
  simp only at e1
  subst e1
  obtain ⟨p,hp⟩:=h2.read (i:=j) (by omega)
  exact ⟨bb,ob,ba,oa,P2,p,e,fun W hg=>⟨(hP W hg).1,hp W hg⟩⟩
 unfold G6
 obtain ⟨f,hf⟩ : ∃ f : Nat → Rat,f = fun i=>gq (B7 (rs.map (·.2.2)) i) j:=⟨_,rfl⟩
 have hfi : ∀ i,gq (B7 (rs.map (·.2.2)) i) j = f i:=by rw [hf];exact fun _=>rfl
 simp only [hfi] at hat
 rw [← hf]
 have hjL : (j : Int) < (L : Int):=by omega
 have Hat:=Lib.hid hat
 clear hat hf hfi h hrl hn
 go_enter Tryz.func106,Tryz.ntmps106
 refine en0 ?_
 intro u hG hB hF
 refine r0T ?_
 refine wp_seq ?_
 refine r0T ?_
 refine wp_block ?_
 clear hB hF
 go_loopw [6,5] (fun s0 s1 wr=>∃ (i : Nat) (ps : List Zr),i ≤ N ∧ s0 = .int .i64 i ∧ ps.map (·.2) = (List.range i).map f ∧ G7 wr ps ∧ wr.ownsRow w.heap.size 33 3 s1 i (ps.flatMap zrL) ∧ A4 w wr) (fun s0 _ _=>N - (intOf s0).toNat)
 case atStart=>exact ⟨0,[],Nat.zero_le _,rfl,rfl,G7.nil _,World.ownsRow_nil _ _ _ _,hG⟩
 case round =>
  clear hG
  obtain ⟨i,ps,hi,rfl,hps,hA,ho,hG⟩:=hrel
  obtain ⟨u,rfl⟩ : ∃ x,x = wr:=⟨_,rfl⟩
  have hB:=Bx.nil u
  have hF:=Fr.nil w
  have Ho:=Lib.hid ho
  have Hps:=Lib.hid hps
  clear ho hps
  rcases Nat.lt_or_ge i N with hlt | hge
  ·have hdec : decide ((i : Int) < (N : Int)) = true:=by simp;omega
   have hin : (i : Int) < (N : Int):=by omega
   have hsu:=A5c f i
   obtain ⟨bb,ob,ba,oa,cr,pz,rfl,hrd⟩:=Hat.out i hlt
   obtain ⟨Q,hQ⟩ : ∃ q,q = f i:=⟨_,rfl⟩
   rw [← hQ] at hsu
   simp only [← hQ] at hrd
   have Hsu:=Lib.hid hsu
   have Hrd:=Lib.hid hrd
   clear hsu hrd hQ
   refine wp_seq ?_
   refine r0T ?_
   refine wp_cond_true (rfl) ?_
   refine wp_skip ?_
   refine A6 ?_
   refine wp_seq ?_
   refine wp_block ?_
   refine O7 (w:=w) A8 8 [0,0,0,0,0,0,0,0] (by kernel_rfl) (by simp only [List.drop_succ_cons,List.drop_zero];exact rfl) (fun _=>True) noG hB hG trivial ?_
   intro K L hN hL
   simp only [List.zip_cons_cons,List.zip_nil_left]
   repeat first | refine gya ?_ | refine gyr ?_ | refine gna ?_ | refine gyb (by (rintro v ⟨hgu,hB,hG,-⟩ N hN;have r:=hB.r;simp only [BxR] at r;obtain ⟨q0,-,q1,q2,q3⟩:=Hrd.out v hG;go_simp;exact hN)) ?_
   refine H5 ?_
   rintro v ⟨hgu,hB1,hG1,-⟩
   replace hA:=hA.grow hgu
   have ROWn:=Lib.hid (D1 Ho.out hgu)
   clear Ho
   have Ho:=ROWn
   clear ROWn
   clear hB hG
   have hB:=hB1
   have hG:=hG1
   clear hB1 hG1
   refine hL _ _ ?_
   clear hL L hgu
   obtain ⟨u,rfl⟩ : ∃ x,x = v:=⟨_,rfl⟩
   refine Q6 A2P w.heap.size _ _ _ _ (zL pz Q) rfl rfl (A20 pz.1 pz.2 Q u) rfl (fun _=>rfl) (fun _=>rfl) (fun _ _=>rfl) Ho.out (by omega) (by omega) hG.sz fun p v' w' g1 g2 g3=>?_
   have hBn:=Bx.nil w'
   have hGn:=R0 Ho.out hG g2
   replace hA:=hA.own Ho.out (by decide) g2
   clear Ho hB hG
   have Ho:=Lib.hid g1
   have hB:=hBn
   have hG:=hGn
   clear g1 g2 g3 hBn hGn
   obtain ⟨u,rfl⟩ : ∃ x,x = w':=⟨_,rfl⟩
   simp only [Act.put,List.setIfInBounds_toArray,List.set_cons_succ,List.set_cons_zero]
   refine NoK.norm (hN _ _ ?_)
   clear hN K
   refine C3 ?_
   refine A6 ?_
   refine r0E ?_
   refine A6 ?_
   go_roundw
   case rel=>exact ⟨i + 1,ps ++ [(pz,Q)],by omega,by go_num,by rw [List.map_append,Hps.out,Hsu.out];rfl,hA.snoc (Hrd.out _ hG).2.1.a (Hrd.out _ hG).2.1.b,by have := Ho.out;rw [List.flatMap_append];simpa [zrL] using this,hG⟩
   case measure=>simp [intOf];omega
  ·obtain rfl : N = i:=by omega
   have hdec : decide ((N : Int) < (N : Int)) = false:=by simp
   obtain ⟨A',cc,rfl,hcc1,hcc2,hL,hkl⟩:=A1A Ho.out hA
   rw [Hps.out] at hL
   have HL:=Lib.hid hL
   clear hL hkl Ho Hps hA
   refine wp_seq ?_
   refine r0T ?_
   refine wp_cond_false (rfl) ?_
   refine wp_exit ?_
   refine B8 ?_
   refine B8 ?_
   refine D6 ?_
   refine A6 ?_
   refine r0T ?_
   refine rt Tryz.results106 ?_
   exact ⟨(A',cc),rfl,HL.out,hG⟩
theorem A4N (A B : Option Addr) (l l' : List Rat) (c d n : Nat) (hl : l.length = n) (hl' : l'.length = n) (hm : n ≤ 20) (s : Nat) (hs2 : s ≤ 50000) (hs : ∀ i,i < n → qs (gq l i) ≤ s) (hs' : ∀ i,i < n → qs (gq l' i) ≤ s) (w : World) (h : Lz w A l) (h' : Lz w B l') :
  Calls Tryz.prog 105 #[.slice A n c,.slice B n d] w (Ret (D7 (E4 l l' n)) w):=by
 have hBB : 100000000 ≤ BIG:=by unfold BIG;omega
 have h4 : n * (s + s + 1) ≤ 20 * (s + s + 1):=Nat.mul_le_mul_right _ hm
 refine B1w A B l l' c d n hl.symm hl'.symm (by omega) s (20 * (s + s + 1) + 1) (A39 hl hs) (A39 hl' hs') (fun j hj=>?_) (by omega) w h h'
 have h5:=Y7 hs hs' j hj
 have h6 : j * (s + s + 1) ≤ n * (s + s + 1):=Nat.mul_le_mul_right _ hj
 exact Nat.le_trans h5 (by omega)
theorem A55 (A Y V : Option Addr) (rs : List Rq) (y v : List Rat) (N L c d k : Nat) (hn : rs.length = N) (hN2 : N ≤ 20) (hrl : ∀ r ∈ rs,r.2.2.length = L) (hy : y.length = N) (hv : v.length = L) (hL : L ≤ 20) (s : Nat) (hs : s ≤ 1000) (hX : ∀ i,i < N → ∀ j,j < L → qs (gq (B7 (rs.map (·.2.2)) i) j) ≤ s) (hys : ∀ i,i < N → qs (gq y i) ≤ s) (hvs : ∀ j,j < L → qs (gq v j) ≤ s) (w : World) (h : Lrz w A rs) (h2 : Lz w Y y) (h3 : Lz w V v) :
  Calls Tryz.prog 39 #[.slice A N c,.slice Y N d,.slice V L k] w (F8 (fun x : Ax=>.slice x.1 L x.2) (fun x W=>Lz W x.1 (J7 (rs.map (·.2.2)) y v N L)) w):=by
 have hBB : 100000000 ≤ BIG:=by unfold BIG;omega
 have hat : ∀ i,i < N → ∃ (bb ob by0 oy : Nat) (P : Ax) (p : Az) (Z D : Rat),A = some ⟨bb,ob,none⟩ ∧ Y = some ⟨by0,oy,none⟩ ∧ (∀ W,A4 w W → W.cell? ⟨bb,ob + i,none⟩ = some (.slice P.1 L P.2) ∧ Rz W p Z ∧ Cz W by0 (oy + i * 3) p Z) ∧ (∀ W,A4 w W → Calls Tryz.prog 105 #[.slice P.1 L P.2,.slice V L k] W (Ret (D7 D) W)) ∧ qs Z + qs D + 10 ≤ BIG ∧ G5 Z D = G5 (gq y i) (E4 v (B7 (rs.map (·.2.2)) i) L):=fun i hi=>by
  obtain ⟨bb,ob,P,e,hP,hl⟩:=A3Z hn hrl h hi
  obtain ⟨by0,oy,e2⟩:=h2.addr (by omega)
  subst e2
  obtain ⟨p,hp⟩:=h2.read (i:=i) (by omega)
  refine ⟨bb,ob,by0,oy,P,p,gq y i,E4 (B7 (rs.map (·.2.2)) i) v L,e,rfl,fun W hg=>⟨(hP W hg).1,hp W hg⟩,fun W hg=>?_,?_,by rw [A6T]⟩
  ·exact A4N P.1 V _ v P.2 k L hl hv hL s (by omega) (hX i hi) hvs W (hP W hg).2 (h3.grow hg)
  ·have z1:=Y7 (a:=B7 (rs.map (·.2.2)) i) (b:=v) (n:=L) (hX i hi) hvs L (Nat.le_refl _)
   have z2:=hys i hi
   have h4 : L * (s + s + 1) ≤ 20 * (s + s + 1):=Nat.mul_le_mul_right _ hL
   omega
 have hcl:=fun W (hg : A4 w W) j (hj : j < L)=>B3H A rs N L c j hn (by omega) hrl hj hL W (h.grow hg)
 have hR:=A18 (X:=rs.map (·.2.2)) (y:=y) (w:=v) hN2 hL hs hX hys hvs
 have hRl:=A4n (rs.map (·.2.2)) y v N L
 have hCs : ∀ j,j < L → ∀ i,i < N → qs (gq (G6 (rs.map (·.2.2)) j N) i) ≤ 50000:=fun j hj i hi=>by rw [A5l _ j N hi];have := hX i hi j hj;omega
 have hdt : ∀ W j,j < L → ∀ (P1 P2 : Ax),Lz W P1.1 (G6 (rs.map (·.2.2)) j N) → Lz W P2.1 (K5 (rs.map (·.2.2)) y v N L) → Calls Tryz.prog 105 #[.slice P1.1 N P1.2,.slice P2.1 N P2.2] W (Ret (D7 (E4 (G6 (rs.map (·.2.2)) j N) (K5 (rs.map (·.2.2)) y v N L) N)) W):=fun W j hj P1 P2 g1 g2 =>
  A4N P1.1 P2.1 _ _ P1.2 P2.2 N (A6Z _ j N) hRl hN2 50000 (by omega) (hCs j hj) hR W g1 g2
 unfold J7
 obtain ⟨R,hRe⟩ : ∃ R,R = K5 (rs.map (·.2.2)) y v N L:=⟨_,rfl⟩
 simp only [← hRe] at hdt ⊢
 obtain ⟨fr,hfr⟩ : ∃ f : Nat → Rat,f = fun i=>G5 (gq y i) (E4 v (B7 (rs.map (·.2.2)) i) L):=⟨_,rfl⟩
 have hfri : ∀ i,G5 (gq y i) (E4 v (B7 (rs.map (·.2.2)) i) L) = fr i:=by rw [hfr];exact fun _=>rfl
 have hRf : R = (List.range N).map fr:=by rw [hRe,hfr];rfl
 simp only [hfri] at hat
 obtain ⟨C,hC⟩ : ∃ C : Nat → List Rat,C = fun j=>G6 (rs.map (·.2.2)) j N:=⟨_,rfl⟩
 have hCi : ∀ j,G6 (rs.map (·.2.2)) j N = C j:=by rw [hC];exact fun _=>rfl
 simp only [hCi] at hcl hdt ⊢
 obtain ⟨f,hf⟩ : ∃ f : Nat → Rat,f = fun j=>E4 (C j) R N:=⟨_,rfl⟩
 have hfi : ∀ j,E4 (C j) R N = f j:=by rw [hf];exact fun _=>rfl
 simp only [hfi] at hdt
 rw [← hf]
 have Hat:=Lib.hid hat
 have Hcl:=Lib.hid hcl
 have Hdt:=Lib.hid hdt
 have HRf:=Lib.hid hRf
 clear hat hcl hdt hRf hf hfi hC hCi hRe hfr hfri hR hRl hCs h h2 h3 hrl hn hX hys hvs hs hy hv
 go_enter Tryz.func39,Tryz.ntmps39
 refine en0 ?_
 intro u hG hB hF
 refine r0T ?_
 refine wp_seq ?_
 refine r0T ?_
 refine wp_block ?_
 clear hB hF
 go_loopw [9,7] (fun s0 s1 wr=>∃ (i : Nat) (ps : List Zr),i ≤ N ∧ s0 = .int .i64 i ∧ ps.map (·.2) = (List.range i).map fr ∧ G7 wr ps ∧ wr.ownsRow w.heap.size 33 3 s1 i (ps.flatMap zrL) ∧ A4 w wr) (fun s0 _ _=>N - (intOf s0).toNat)
 case atStart=>exact ⟨0,[],Nat.zero_le _,rfl,rfl,G7.nil _,World.ownsRow_nil _ _ _ _,hG⟩
 case round =>
  clear hG
  obtain ⟨i,ps,hi,rfl,hps,hA,ho,hG⟩:=hrel
  obtain ⟨u,rfl⟩ : ∃ x,x = wr:=⟨_,rfl⟩
  have hB:=Bx.nil u
  have hF:=Fr.nil w
  have Ho:=Lib.hid ho
  have Hps:=Lib.hid hps
  clear ho hps
  rcases Nat.lt_or_ge i N with hlt | hge
  ·have hdec : decide ((i : Int) < (N : Int)) = true:=by simp;omega
   have hin : (i : Int) < (N : Int):=by omega
   have hsu:=A5c fr i
   obtain ⟨bb,ob,by0,oy,P,p,Z,D,rfl,rfl,hrd,hdt,zz,e⟩:=Hat.out i hlt
   rw [← e] at hsu
   have Hsu:=Lib.hid hsu
   have Hrd:=Lib.hid hrd
   have Hdt1:=Lib.hid hdt
   clear hsu hrd hdt e
   refine wp_seq ?_
   refine r0T ?_
   refine wp_cond_true (rfl) ?_
   refine wp_skip ?_
   refine A6 ?_
   refine wp_seq ?_
   refine wp_block ?_
   refine A2g (w:=w) A8 12 [0] [(0,0),(0,1),(0,2),(0,3),(0,4),(0,5),(0,6),(0,7),(0,8),(0,9),(1,10),(1,11)] (by kernel_rfl) (by kernel_rfl) (by simp only [List.drop_succ_cons,List.drop_zero];exact rfl) (fun _=>True) noG hB hG trivial ?_
   intro K L hN hL
   simp only [G1,List.getElem?_toArray,List.getElem?_cons_zero,List.getElem?_cons_succ]
   repeat first | refine gya ?_ | refine gyr ?_ | refine gna ?_ | refine gyb (by (rintro v ⟨hgu,hB,hG,-⟩ N hN;have r:=hB.r;simp only [BxR] at r;obtain ⟨q0,-,q1,q2,q3⟩:=Hrd.out v hG;go_simp;exact hN)) ?_
   refine grd (D7 D) (fun (x27 : Ax × Ax)=>?_) (C:=by (rintro v ⟨hgu,hB,hG,-⟩;exact Hdt1.out _ hG))
   refine grd (D7 (G5 Z D)) (fun (x28 : Ax × Ax)=>?_) (C:=by (rintro v ⟨⟨hgu,hB,hG,-⟩,hx27⟩;obtain ⟨hx27a,hx27b⟩ : Rn v x27.1 _ ∧ Rn v x27.2 _:=hx27;exact A8Z p.1 p.2 x27.1 x27.2 Z D _ (Hrd.out _ hG).2.1.a (Hrd.out _ hG).2.1.b hx27a hx27b (by omega)))
   refine H5 ?_
   rintro v ⟨⟨⟨hgu,hB1,hG1,-⟩,hx27⟩,hx28⟩
   replace hA:=hA.grow hgu
   obtain ⟨hx27a,hx27b⟩ : Rn v x27.1 _ ∧ Rn v x27.2 _:=hx27
   obtain ⟨hx28a,hx28b⟩ : Rn v x28.1 _ ∧ Rn v x28.2 _:=hx28
   have ROWn:=Lib.hid (D1 Ho.out hgu)
   clear Ho
   have Ho:=ROWn
   clear ROWn
   clear hB hG
   have hB:=hB1
   have hG:=hG1
   clear hB1 hG1
   refine hL _ _ ?_
   clear hL L hgu
   obtain ⟨u,rfl⟩ : ∃ x,x = v:=⟨_,rfl⟩
   refine Q6 A2P w.heap.size _ _ _ _ (zL x28 (G5 Z D)) rfl rfl (A20 x28.1 x28.2 (G5 Z D) u) rfl (fun _=>rfl) (fun _=>rfl) (fun _ _=>rfl) Ho.out (by omega) (by omega) hG.sz fun p v' w' g1 g2 g3=>?_
   have hBn:=Bx.nil w'
   have hGn:=R0 Ho.out hG g2
   replace hA:=hA.own Ho.out (by decide) g2
   replace hx27a:=hx27a.own Ho.out (by decide) g2
   replace hx27b:=hx27b.own Ho.out (by decide) g2
   replace hx28a:=hx28a.own Ho.out (by decide) g2
   replace hx28b:=hx28b.own Ho.out (by decide) g2
   clear Ho hB hG
   have Ho:=Lib.hid g1
   have hB:=hBn
   have hG:=hGn
   clear g1 g2 g3 hBn hGn
   obtain ⟨u,rfl⟩ : ∃ x,x = w':=⟨_,rfl⟩
   simp only [Act.put,List.setIfInBounds_toArray,List.set_cons_succ,List.set_cons_zero]
   refine NoK.norm (hN _ _ ?_)
   clear hN K
   refine C3 ?_
   refine A6 ?_
   refine r0E ?_
   refine A6 ?_
   go_roundw
   case rel=>exact ⟨i + 1,ps ++ [(x28,G5 Z D)],by omega,by go_num,by rw [List.map_append,Hps.out,Hsu.out];rfl,hA.snoc hx28a hx28b,by have := Ho.out;rw [List.flatMap_append];simpa [zrL] using this,hG⟩
   case measure=>simp [intOf];omega
  ·obtain rfl : N = i:=by omega
   have hdec : decide ((N : Int) < (N : Int)) = false:=by simp
   obtain ⟨A7,c7,rfl,hcc1,hcc2,hL7,hkl⟩:=A1A Ho.out hA
   rw [Hps.out,← HRf.out] at hL7
   have HR:=Lib.hid hL7
   clear hL7 hkl Ho Hps hA hcc1 hcc2
   refine wp_seq ?_
   refine r0T ?_
   refine wp_cond_false (rfl) ?_
   refine wp_exit ?_
   refine B8 ?_
   refine B8 ?_
   refine D6 ?_
   refine A6 ?_
   refine wp_seq ?_
   refine r0T ?_
   have HG0:=Lib.hid hG
   clear hB hF hG
   obtain ⟨w0,rfl⟩ : ∃ x,x = w:=⟨_,rfl⟩
   obtain ⟨w,hwu⟩ : ∃ x,x = u:=⟨_,rfl⟩
   rw [← hwu] at HG0 HR
   have hB:=Bx.nil u
   have hF:=Fr.nil w
   have hG : A4 w u:=hwu ▸ A4.refl u
   clear hwu
   have hcl:=fun W (hg : A4 w W)=>Hcl.out W (HG0.out.trans hg)
   clear Hcl
   have Hcl:=Lib.hid hcl
   clear hcl Hat
   refine wp_block ?_
   clear hB hF
   go_loopw [10,8] (fun s0 s1 wr=>∃ (i : Nat) (ps : List Zr),i ≤ L ∧ s0 = .int .i64 i ∧ ps.map (·.2) = (List.range i).map f ∧ G7 wr ps ∧ wr.ownsRow w.heap.size 33 3 s1 i (ps.flatMap zrL) ∧ A4 w wr) (fun s0 _ _=>L - (intOf s0).toNat)
   case atStart=>exact ⟨0,[],Nat.zero_le _,rfl,rfl,G7.nil _,World.ownsRow_nil _ _ _ _,hG⟩
   case round =>
    clear hG
    obtain ⟨i,ps,hi2,rfl,hps,hA,ho,hG⟩:=hrel
    obtain ⟨u,rfl⟩ : ∃ x,x = wr:=⟨_,rfl⟩
    have hB:=Bx.nil u
    have hF:=Fr.nil w
    have Ho:=Lib.hid ho
    have Hps:=Lib.hid hps
    clear ho hps
    rcases Nat.lt_or_ge i L with hlt | hge2
    ·have hdec2 : decide ((i : Int) < (L : Int)) = true:=by simp;omega
     have hsu:=A5c f i
     have hcl:=fun W (hg : A4 w W)=>Hcl.out W hg i hlt
     have hdt:=fun W=>Hdt.out W i hlt
     obtain ⟨Q,hQ⟩ : ∃ q,q = f i:=⟨_,rfl⟩
     rw [← hQ] at hsu
     simp only [← hQ] at hdt
     obtain ⟨Ci,hCi⟩ : ∃ q,q = C i:=⟨_,rfl⟩
     simp only [← hCi] at hdt hcl
     have Hsu:=Lib.hid hsu
     have Hcli:=Lib.hid hcl
     have Hdti:=Lib.hid hdt
     clear hsu hcl hdt hQ hCi
     refine wp_seq ?_
     refine r0T ?_
     refine wp_cond_true (rfl) ?_
     refine wp_skip ?_
     refine A6 ?_
     refine wp_seq ?_
     refine wp_block ?_
     refine O7 (w:=w) A8 6 [0,0,0,1,0,1] (by kernel_rfl) (by simp only [List.drop_succ_cons,List.drop_zero];exact rfl) (fun _=>True) noG hB hG trivial ?_
     intro K L hN hL
     simp only [List.zip_cons_cons,List.zip_nil_left]
     refine gs ?_
     refine gxd (X:=Ax) (fun x : Ax=>.slice x.1 N x.2) (fun x W=>Lz W x.1 Ci) (fun x u u' hg h=>Lz.grow h hg) (fun x40=>?_) (C:=by (rintro v ⟨hgu,hB,hG,-⟩;exact Hcli.out _ hG))
     refine gs ?_
     refine grd (D7 Q) (fun (x42 : Ax × Ax)=>?_) (C:=by (rintro v ⟨⟨hgu,hB,hG,-⟩,hx40⟩;exact Hdti.out _ x40 (A7,c7) hx40 (HR.out.grow hG)))
     refine H5 ?_
     rintro v ⟨⟨⟨hgu,hB1,hG1,-⟩,hx40⟩,hx42⟩
     replace hA:=hA.grow hgu
     obtain ⟨hx42a,hx42b⟩ : Rn v x42.1 _ ∧ Rn v x42.2 _:=hx42
     have ROWn:=Lib.hid (D1 Ho.out hgu)
     clear Ho
     have Ho:=ROWn
     clear ROWn
     clear hx40
     clear hB hG
     have hB:=hB1
     have hG:=hG1
     clear hB1 hG1
     refine hL _ _ ?_
     clear hL L hgu
     obtain ⟨u,rfl⟩ : ∃ x,x = v:=⟨_,rfl⟩
     refine Q6 A2P w.heap.size _ _ _ _ (zL x42 Q) rfl rfl (A20 x42.1 x42.2 Q u) rfl (fun _=>rfl) (fun _=>rfl) (fun _ _=>rfl) Ho.out (by omega) (by omega) hG.sz fun p v' w' g1 g2 g3=>?_
     have hBn:=Bx.nil w'
     have hGn:=R0 Ho.out hG g2
     replace hA:=hA.own Ho.out (by decide) g2
     replace hx42a:=hx42a.own Ho.out (by decide) g2
     replace hx42b:=hx42b.own Ho.out (by decide) g2
     clear Ho hB hG
     have Ho:=Lib.hid g1
     have hB:=hBn
     have hG:=hGn
     clear g1 g2 g3 hBn hGn
     obtain ⟨u,rfl⟩ : ∃ x,x = w':=⟨_,rfl⟩
     simp only [Act.put,List.setIfInBounds_toArray,List.set_cons_succ,List.set_cons_zero]
     refine NoK.norm (hN _ _ ?_)
     clear hN K
     refine C3 ?_
     refine A6 ?_
     refine r0E ?_
     refine A6 ?_
     go_roundw
     case rel=>exact ⟨i + 1,ps ++ [(x42,Q)],by omega,by go_num,by rw [List.map_append,Hps.out,Hsu.out];rfl,hA.snoc hx42a hx42b,by have := Ho.out;rw [List.flatMap_append];simpa [zrL] using this,hG⟩
     case measure=>simp [intOf];omega
    ·obtain rfl : L = i:=by omega
     have hdec2 : decide ((L : Int) < (L : Int)) = false:=by simp
     obtain ⟨A',cc,rfl,hcc1,hcc2,hL,hkl⟩:=A1A Ho.out hA
     rw [Hps.out] at hL
     have HL:=Lib.hid hL
     clear hL hkl Ho Hps hA
     refine wp_seq ?_
     refine r0T ?_
     refine wp_cond_false (rfl) ?_
     refine wp_exit ?_
     refine B8 ?_
     refine B8 ?_
     refine D6 ?_
     refine A6 ?_
     refine r0T ?_
     refine rt Tryz.results39 ?_
     exact ⟨(A',cc),rfl,HL.out,HG0.out.trans hG⟩
end Go.Proofs.YtgpglgbcobeogaaGreatDoor
