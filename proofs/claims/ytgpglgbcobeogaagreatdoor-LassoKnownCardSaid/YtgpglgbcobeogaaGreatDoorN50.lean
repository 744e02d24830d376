/-
  The claim's theorem: LsXb LassoKnownZ.
-/
import Derived.Test.YtgpglgbcobeogaaGreatDoorN49
set_option linter.unusedSimpArgs false
set_option linter.unusedVariables false
set_option maxHeartbeats 4000000
set_option maxRecDepth 100000
namespace Go.Proofs.YtgpglgbcobeogaaGreatDoor
open Go Go.RowKit
theorem A02(n d:Int)(h0 : -5<=n)(h1:n<=5)(h2:1<=d)(h3:d<=5)(hz:qs (D0 n d)<=10)(W:World):Calls Tryz.prog 52 #[qV (D0 n d),.int .i64 n,.int .i64 d] W λe w'=>e = .returned (.bool true)/\A4 W w' :=
 A7P n d (by omega) (by omega) (by omega) (by omega) (by omega) (B9A hz (by unfold LIM;omega)) W
theorem B0F{W:World}{A:Option Addr}{p q:Rat}(h:Lq W A [p,q]):∃(b o:Nat),A=some ⟨b,o,none⟩/\∀W',A4 W W'->Cq W' b o p/\Cq W' b (o+5) q:=by
 obtain⟨b,o,rfl⟩:∃b o,A=some ⟨b,o,none⟩:=Lq.addr h (by simp);refine⟨b,o,rfl,λW' hg=>⟨?_,?_⟩⟩
 ·have:=(h.grow hg).read (i:=0) (by simp)
  rwa [B9i,Nat.add_zero]at this
 ·have:=(h.grow hg).read (i:=1) (by simp)
  rwa [C0O]at this
theorem B1T(w:World)(HT:Tab w):Calls Tryz.prog 10 #[] w λe w'=>e = .returned (.bool true)/\A4 w w':=by
 have z31:qs (D0 3 1)<=10:=by decide +kernel
 have z21:qs (D0 2 1)<=10:=by decide +kernel
 have z01:qs (D0 0 1)<=10:=by decide +kernel
 have z11:qs (D0 1 1)<=10:=by decide +kernel
 have z12:qs (D0 (-1) 2)<=10:=by decide +kernel
 have z14:qs (D0 (-1) 4)<=10:=by decide +kernel
 have zm2:qs (D0 (-2) 1)<=10:=by decide +kernel
 go_enter Tryz.func10,Tryz.ntmps10;refine en0 ?_;intro u hG hB hF;refine B9D (rsE C4 [1,1,1,1,1,1,1,0] hB hG λL hL=>?_);refine gmw (C:=λv=>I5 1 (by omega) (by omega) _) ?_;refine gmw (C:=λv=>I5 0 (by omega) (by omega) _) ?_;refine gx Nat (λb=>.slice (some ⟨b,0,none⟩) 2 2) (λb W=>Lq W (some ⟨b,0,none⟩) [B4 1,B4 0]) (λ_ _ _ hg h=>h.grow hg) rfl ?_ (λx22=>?_)
 ·(rintro v ⟨hgu,hB,hG,-⟩ N hN;go_simp;exact hN v.heap.size _ (A0D v [B4 1,B4 0]) (A4.alloc _ _))
 refine okf (by simp only[Act.put,List.setIfInBounds_toArray,List.set_cons_succ,List.set_cons_zero];exact rfl) ?_;refine gmw (C:=λv=>I5 0 (by omega) (by omega) _) ?_;refine gmw (C:=λv=>I5 2 (by omega) (by omega) _) ?_;refine gx Nat (λb=>.slice (some ⟨b,0,none⟩) 2 2) (λb W=>Lq W (some ⟨b,0,none⟩) [B4 0,B4 2]) (λ_ _ _ hg h=>h.grow hg) rfl ?_ (λx25=>?_)
 ·(rintro v ⟨⟨hgu,hB,hG,-⟩,hx22⟩ N hN;go_simp;exact hN v.heap.size _ (A0D v [B4 0,B4 2]) (A4.alloc _ _))
 refine okf (by simp only[Act.put,List.setIfInBounds_toArray,List.set_cons_succ,List.set_cons_zero];exact rfl) ?_;refine gx Nat (λb=>.slice (some ⟨b,0,none⟩) 2 2) (λb W=>Lrq W (some ⟨b,0,none⟩) (klR (some ⟨x22,0,none⟩,2) (some ⟨x25,0,none⟩,2))) (λ_ _ _ hg h=>h.grow hg) rfl ?_ (λx26=>?_)
 ·(rintro v ⟨⟨⟨hgu,hB,hG,-⟩,hx22⟩,hx25⟩ N hN;go_simp;exact hN v.heap.size _ (A3n v (klR (some ⟨x22,0,none⟩,2) (some ⟨x25,0,none⟩,2)) (λr hr=>by simp only[klR,List.mem_cons,List.not_mem_nil,or_false]at hr;rcases hr with rfl|rfl<;>first|exact hx22|exact hx25)) (A4.alloc _ _))
 refine okf (by simp only[Act.put,List.setIfInBounds_toArray,List.set_cons_succ,List.set_cons_zero];exact rfl) ?_;refine gs ?_;refine geT hL ?_;clear hB hG hL L;rintro u ⟨⟨⟨⟨hgu,hB,hG,-⟩,hx22⟩,hx25⟩,hx26⟩;obtain⟨w1,hw1⟩:=exQ u;have HX:=B9I (show Lrq w1 (some ⟨x26,0,none⟩) (klR (some ⟨x22,0,none⟩,2) (some ⟨x25,0,none⟩,2))from hw1 ▸ hx26);have hG1:A4 w1 u:=hw1 ▸ A4.refl u;clear hx22 hx25 hx26 hw1;clear hgu;refine B9D (rsE C4 [1,1,1,0] hB hG λL hL=>?_);refine gmw (C:=λv=>I5 3 (by omega) (by omega) _) ?_;refine gmw (C:=λv=>I5 (-1) (by omega) (by omega) _) ?_;refine gx Nat (λb=>.slice (some ⟨b,0,none⟩) 2 2) (λb W=>Lq W (some ⟨b,0,none⟩) klY) (λ_ _ _ hg h=>Lq.grow h hg) rfl ?_ (λx29=>?_)
 ·(rintro v ⟨hgu,hB,hG,-⟩ N hN;go_simp;exact hN v.heap.size _ (A0D v klY) (A4.alloc _ _))
 refine okf (by simp only[Act.put,List.setIfInBounds_toArray,List.set_cons_succ,List.set_cons_zero];exact rfl) ?_;refine gs ?_;refine geT hL ?_;clear hB hG hL L;rintro u ⟨⟨hgu,hB,hG,-⟩,hx29⟩;replace hG1:=hG1.trans hgu;obtain⟨w2,hw2⟩:=exQ u;have HY:=B9I (show Lq w2 (some ⟨x29,0,none⟩) klY from hw2 ▸ hx29);have hG2:A4 w2 u:=hw2 ▸ A4.refl u;clear hx29 hw2;clear hgu;refine B9D (rsE C4 [0,0,1,0,0,0,0,0] hB hG λL hL=>?_);refine gs ?_;refine gxd (X:=(Ax×List Kq)) (λx:Ax×List Kq=>.tuple #[.slice x.1.1 3 x.1.2,.int .i64 0]) (λx W'=>Lk W' x.1.1 x.2/\x.2.map C3=klP) (λx u u' hg h=>⟨h.1.grow hg,h.2⟩) (λx33=>?_) (C:=by(rintro v ⟨hgu,hB,hG,-⟩;exact B65 _ (some ⟨x29,0,none⟩,2) (some ⟨x22,0,none⟩,2) (some ⟨x25,0,none⟩,2) _ (HX.out.grow (hG1.trans hgu)) (HY.out.grow (hG2.trans hgu)) (HT.grow hG)));refine gs ?_;refine geT hL ?_;clear hB hG hL L;rintro u ⟨⟨hgu,hB,hG,-⟩,hx33⟩;replace hG1:=hG1.trans hgu;replace hG2:=hG2.trans hgu;obtain⟨w3,hw3⟩:=exQ u;obtain⟨⟨KA,KC⟩,ks⟩:=x33;have HK:=B9I (show Lk w3 KA ks/\ks.map C3=klP from hw3 ▸ hx33);have hG3:A4 w3 u:=hw3 ▸ A4.refl u;obtain⟨bk,ok,bw,ow,cw,eKA,hkc⟩:=B3u HK.out.1 HK.out.2;have HKc:=B9I hkc;subst eKA;clear hx33 hw3 hkc;clear hgu;refine B9D (rsE C4 [0,1,1,0,0,0,0,0] hB hG λL hL=>?_);refine gs ?_;refine gmw (C:=λv=>I5 1 (by omega) (by omega) _) ?_;refine gxd (X:=Ax) (λx:Ax=>.tuple #[.slice x.1 2 x.2,.int .i64 0]) (λx W=>Lq W x.1 [D0 2 1,D0 (-1) 4]) (λx u u' hg h=>Lq.grow h hg) (λx39=>?_) (C:=by(rintro v ⟨hgu,hB,hG,-⟩;exact B27 _ KC ks HK.out.2 _ (HK.out.1.grow (hG3.trans hgu)) (HT.grow hG)));refine gs ?_;refine geT hL ?_;clear hB hG hL L;rintro u ⟨⟨hgu,hB,hG,-⟩,hx39⟩;replace hG1:=hG1.trans hgu;replace hG2:=hG2.trans hgu;replace hG3:=hG3.trans hgu;obtain⟨w4,hw4⟩:=exQ u;obtain⟨VA,VC⟩:=x39;obtain⟨bv,ov,eVA,hvc⟩:=B0F (show Lq w4 VA [D0 2 1,D0 (-1) 4]from hw4 ▸ hx39);have HVc:=B9I hvc;subst eVA;have hG4:A4 w4 u:=hw4 ▸ A4.refl u;clear hx39 hw4 hvc;clear hgu;refine B9D (rsE C4 [0,0,1,1,1,1,1,0,0,0,0,0,0,0] hB hG λL hL=>?_);refine gs ?_;refine gmw (C:=λv=>I5 2 (by omega) (by omega) _) ?_;refine gmw (C:=λv=>I5 0 (by omega) (by omega) _) ?_;refine gx Nat (λb=>.slice (some ⟨b,0,none⟩) 2 2) (λb W=>Lq W (some ⟨b,0,none⟩) klV) (λ_ _ _ hg h=>Lq.grow h hg) rfl ?_ (λx47=>?_)
 ·(rintro v ⟨hgu,hB,hG,-⟩ N hN;go_simp;exact hN v.heap.size _ (A0D v klV) (A4.alloc _ _))
 refine okf (by simp only[Act.put,List.setIfInBounds_toArray,List.set_cons_succ,List.set_cons_zero];exact rfl) ?_;refine gmw (C:=λv=>I5 1 (by omega) (by omega) _) ?_;refine gmd (C:=λv ⟨⟨hgu,hB,hG,_⟩,hx47⟩=>B4J _ _ _ (some ⟨x22,0,none⟩,2) (some ⟨x25,0,none⟩,2) _ (HX.out.grow (hG1.trans hgu)) (HY.out.grow (hG2.trans hgu)) hx47 (HT.grow hG)) ?_;refine gs ?_;refine geT hL ?_;clear hB hG hL L;rintro u ⟨⟨hgu,hB,hG,-⟩,hx47⟩;replace hG1:=hG1.trans hgu;replace hG2:=hG2.trans hgu;replace hG3:=hG3.trans hgu;replace hG4:=hG4.trans hgu;clear hx47;clear hgu;refine B9D (rsC C4 [0,0,1,1,1,1,1,0,0,0,2] hB hG λK L hN hL=>?_);refine gs ?_;refine gmw (C:=λv=>I5 2 (by omega) (by omega) _) ?_;refine gmw (C:=λv=>I5 0 (by omega) (by omega) _) ?_;refine gx Nat (λb=>.slice (some ⟨b,0,none⟩) 2 2) (λb W=>Lq W (some ⟨b,0,none⟩) klV) (λ_ _ _ hg h=>Lq.grow h hg) rfl ?_ (λx58=>?_)
 ·(rintro v ⟨hgu,hB,hG,-⟩ N hN;go_simp;exact hN v.heap.size _ (A0D v klV) (A4.alloc _ _))
 refine okf (by simp only[Act.put,List.setIfInBounds_toArray,List.set_cons_succ,List.set_cons_zero];exact rfl) ?_;refine gmw (C:=λv=>I5 1 (by omega) (by omega) _) ?_;refine gmd (C:=λv ⟨⟨hgu,hB,hG,_⟩,hx58⟩=>B8g _ _ _ (some ⟨x22,0,none⟩,2) (some ⟨x25,0,none⟩,2) _ (HX.out.grow (hG1.trans hgu)) (HY.out.grow (hG2.trans hgu)) hx58 (HT.grow hG)) ?_;refine gs ?_;refine gaa (G6 _ _ _ _ _) λb10 hb10 hn10=>?_;replace hF:=hF.n1 [] hB hG hb10 hn10;refine geC hL ?_;clear hB hG hL L;rintro u ⟨⟨⟨hgu,hB,hG,-⟩,hx58⟩,h10⟩;replace hB:=hB.cons' h10;clear h10;have hs1:w1.heap.size<=b10:=B9A hG1.size hb10;have hs2:w2.heap.size<=b10:=B9A hG2.size hb10;have hs3:w3.heap.size<=b10:=B9A hG3.size hb10;have hs4:w4.heap.size<=b10:=B9A hG4.size hb10;replace hG1:=hG1.trans hgu;replace hG2:=hG2.trans hgu;replace hG3:=hG3.trans hgu;replace hG4:=hG4.trans hgu;clear hx58;clear hb10 hn10;clear hgu;refine gtT ?_;clear hN K;refine sv hB hF hG 0 0 [_,_,_,_,_] ?_;intro u hu hBG;replace hG1:=P9 hG1 hs1 hu;replace hG2:=P9 hG2 hs2 hu;replace hG3:=P9 hG3 hs3 hu;replace hG4:=P9 hG4 hs4 hu;clear hB hG hu;obtain⟨hB,hG⟩:=hBG;refine B9D (rsE C4 [0,0,1,1,1,1,0,0,0,0,0] hB hG λL hL=>?_);refine gs ?_;refine gmw (C:=λv=>I5 2 (by omega) (by omega) _) ?_;refine gmw (C:=λv=>I5 0 (by omega) (by omega) _) ?_;refine gx Nat (λb=>.slice (some ⟨b,0,none⟩) 2 2) (λb W=>Lq W (some ⟨b,0,none⟩) klV) (λ_ _ _ hg h=>Lq.grow h hg) rfl ?_ (λx68=>?_)
 ·(rintro v ⟨hgu,hB,hG,-⟩ N hN;go_simp;exact hN v.heap.size _ (A0D v klV) (A4.alloc _ _))
 refine okf (by simp only[Act.put,List.setIfInBounds_toArray,List.set_cons_succ,List.set_cons_zero];exact rfl) ?_;refine gxd (X:=Ax) (λx:Ax=>.tuple #[.slice x.1 2 x.2,.int .i64 0]) (λx W=>Lq W x.1 [D0 1 1,D0 (-2) 1]) (λx u u' hg h=>Lq.grow h hg) (λx69=>?_) (C:=by(rintro v ⟨⟨hgu,hB,hG,-⟩,hx68⟩;exact B8B _ _ _ (some ⟨x22,0,none⟩,2) (some ⟨x25,0,none⟩,2) _ (HX.out.grow (hG1.trans hgu)) (HY.out.grow (hG2.trans hgu)) hx68 (HT.grow hG)));refine gs ?_;refine geT hL ?_;clear hB hG hL L;rintro u ⟨⟨⟨hgu,hB,hG,-⟩,hx68⟩,hx69⟩;replace hG1:=hG1.trans hgu;replace hG2:=hG2.trans hgu;replace hG3:=hG3.trans hgu;replace hG4:=hG4.trans hgu;obtain⟨w5,hw5⟩:=exQ u;obtain⟨UA,UC⟩:=x69;obtain⟨bu,ou,eUA,huc⟩:=B0F (show Lq w5 UA [D0 1 1,D0 (-2) 1]from hw5 ▸ hx69);have HUc:=B9I huc;subst eUA;have hG5:A4 w5 u:=hw5 ▸ A4.refl u;clear hx68 hx69 hw5 huc;clear hgu;refine B9D ?_;generalize hA:({ tmps:=_,defers:=_ }:Act)=A0;have hgu8:A4 u u:=A4.refl u;have hmono:∀ {Q Q':Exit->Act->World->Prop} {c:Code} {a:Act} {w:World},c.wp Tryz.prog Q a w->(∀x a w,Q x a w->Q' x a w)->c.wp Tryz.prog Q' a w:=λh hm=>B80 (λx a w h=>hm x a w h) h;refine hmono (Q:=λx a' w'=>x = .normal/\∃b c:Nat,a'=((((((((((((A0.put (some 77) (.slice (some ⟨x29,0,none⟩) 2 2)).put (some 78) (.slice (some ⟨x29,0,none⟩) 1 2)).put (some 73) (qV (B4 1))).put (some 74) (qV (B4 1))).put (some 75) (.slice (some ⟨b,0,none⟩) 2 2)).put (some 76) (.slice (some ⟨c,0,none⟩) 1 1)).put (some 79) (qV (B4 1))).put (some 80) (.tuple #[.slice none 0 0,.int .i64 9])).put (some 72) (.tuple #[.slice none 0 0,.int .i64 9])).put (some 81) (.slice none 0 0)).put (some 82) (.int .i64 9)).put (some 14) (.slice none 0 0)).put (some 15) (.int .i64 9)/\A4 u w') ?_ ?_
 ·subst hA;refine B80 NoP.up ?_;refine wp_region_held_drew (S:=λ_=>True) (by kernel_rfl) trivial (λhHeld=>?_);clear hHeld;have hgg:=A4.drew u;obtain⟨v0,hv0⟩:=exQ u.drew;rw[<-hv0]at hgg⊢;clear hv0;refine C1A (i:=4) (v:=?_) rfl (by kernel_rfl) (by kernel_rfl) (by kernel_rfl) (λ_ _ _ h=>h) (Or.inl ⟨by rfl,?_⟩) trivial ?_
  rotate_left
  ·(intro w hSw;go_simp;(try with_reducible rfl))
  (try simp only[Act.put,List.setIfInBounds_toArray,List.set_cons_zero,List.set_cons_succ])
  refine C1A (i:=5) (v:=?_) rfl (by kernel_rfl) (by kernel_rfl) (by kernel_rfl) (λ_ _ _ h=>h) (Or.inl ⟨by rfl,?_⟩) trivial ?_
  rotate_left
  ·(intro w hSw;go_simp;(try with_reducible rfl))
  (try simp only[Act.put,List.setIfInBounds_toArray,List.set_cons_zero,List.set_cons_succ])
  refine wpAnyH_ready (rs:=[0]) (by kernel_rfl) (by simp) (AllReadyH.cons rfl (λK hK=>?_) AllReadyH.nil);go_simp;refine(I5 1 (by omega) (by omega) _).mono ?_;rintro e v1 ⟨rfl,hgc⟩;refine hK.out _ _ trivial (λhHeld=>?_);clear hK K hHeld;replace hgg:=hgg.trans hgc
  (try simp only[Act.put,List.setIfInBounds_toArray,List.set_cons_zero,List.set_cons_succ])
  refine wpAnyH_ready (rs:=[1]) (by kernel_rfl) (by simp) (AllReadyH.cons rfl (λK hK=>?_) AllReadyH.nil);go_simp;refine(I5 1 (by omega) (by omega) _).mono ?_;rintro e v2 ⟨rfl,hgc⟩;refine hK.out _ _ trivial (λhHeld=>?_);clear hK K hHeld;replace hgg:=hgg.trans hgc
  (try simp only[Act.put,List.setIfInBounds_toArray,List.set_cons_zero,List.set_cons_succ])
  refine wpAnyH_ready (rs:=[2,6]) (by kernel_rfl) (by simp) (AllReadyH.cons rfl (λK hK=>?_) (AllReadyH.cons rfl (λK hK=>?_) AllReadyH.nil))
  ·go_simp;refine hK.out _ _ trivial (λhHeld=>?_);clear hK K hHeld
   (try simp only[Act.put,List.setIfInBounds_toArray,List.set_cons_zero,List.set_cons_succ])
   generalize hv3:World.alloc v2 _=v3;have h75:Lq v3 (some ⟨v2.heap.size,0,none⟩) [B4 1,B4 1]:=by rw[<-hv3];exact A0D v2 [B4 1,B4 1]
   have hgc:A4 v2 v3:=hv3 ▸ A4.alloc v2 _;generalize v2.heap.size=c75 at h75⊢;replace hgg:=hgg.trans hgc;clear hgc hv3;refine wpAnyH_ready (rs:=[3,6]) (by kernel_rfl) (by simp) (AllReadyH.cons rfl (λK hK=>?_) (AllReadyH.cons rfl (λK hK=>?_) AllReadyH.nil))
   ·go_simp;refine hK.out _ _ trivial (λhHeld=>?_);clear hK K hHeld
    (try simp only[Act.put,List.setIfInBounds_toArray,List.set_cons_zero,List.set_cons_succ])
    generalize hv4:World.alloc v3 _=v4;have h76:Lrq v4 (some ⟨v3.heap.size,0,none⟩) [(some ⟨c75,0,none⟩,2,[B4 1,B4 1])]:=by rw[<-hv4];exact A3n v3 [(some ⟨c75,0,none⟩,2,[B4 1,B4 1])] (λr hr=>by simp only[List.mem_cons,List.not_mem_nil,or_false]at hr;rcases hr with rfl;exact h75)
    have hgc:A4 v3 v4:=hv4 ▸ A4.alloc v3 _;generalize v3.heap.size=c76 at h76⊢;replace hgg:=hgg.trans hgc;clear hgc hv4;refine wpAnyH_ready (rs:=[6]) (by kernel_rfl) (by simp) (AllReadyH.cons rfl (λK hK=>?_) AllReadyH.nil);go_simp;refine(I5 1 (by omega) (by omega) _).mono ?_;rintro e v5 ⟨rfl,hgc⟩;refine hK.out _ _ trivial (λhHeld=>?_);clear hK K hHeld;replace hgg:=hgg.trans hgc
    (try simp only[Act.put,List.setIfInBounds_toArray,List.set_cons_zero,List.set_cons_succ])
    replace h76:=h76.grow hgc;refine wpAnyH_ready (rs:=[7]) (by kernel_rfl) (by simp) (AllReadyH.cons rfl (λK hK=>?_) AllReadyH.nil);go_simp;refine(A6m _ _ 2 (some ⟨c75,0,none⟩,2) _ h76 (HT.grow (hG.trans hgg))).mono ?_;rintro e v6 ⟨rfl,hgc⟩;refine hK.out _ _ trivial (λhHeld=>?_);clear hK K hHeld h75 h76;replace hgg:=hgg.trans hgc
    (try simp only[Act.put,List.setIfInBounds_toArray,List.set_cons_zero,List.set_cons_succ])
    refine C1A (i:=8) (v:=?_) rfl (by kernel_rfl) (by kernel_rfl) (by kernel_rfl) (λ_ _ _ h=>h) (Or.inl ⟨by rfl,?_⟩) trivial ?_
    rotate_left
    ·(intro w hSw;go_simp;(try with_reducible rfl))
    (try simp only[Act.put,List.setIfInBounds_toArray,List.set_cons_zero,List.set_cons_succ])
    refine C1A (i:=9) (v:=?_) rfl (by kernel_rfl) (by kernel_rfl) (by kernel_rfl) (λ_ _ _ h=>h) (Or.inl ⟨by rfl,?_⟩) trivial ?_
    rotate_left
    ·(intro w hSw;go_simp;(try with_reducible rfl))
    (try simp only[Act.put,List.setIfInBounds_toArray,List.set_cons_zero,List.set_cons_succ])
    refine C1A (i:=10) (v:=?_) rfl (by kernel_rfl) (by kernel_rfl) (by kernel_rfl) (λ_ _ _ h=>h) (Or.inl ⟨by rfl,?_⟩) trivial ?_
    rotate_left
    ·(intro w hSw;go_simp;(try with_reducible rfl))
    (try simp only[Act.put,List.setIfInBounds_toArray,List.set_cons_zero,List.set_cons_succ])
    refine C1A (i:=11) (v:=?_) rfl (by kernel_rfl) (by kernel_rfl) (by kernel_rfl) (λ_ _ _ h=>h) (Or.inl ⟨by rfl,?_⟩) trivial ?_
    rotate_left
    ·(intro w hSw;go_simp;(try with_reducible rfl))
    (try simp only[Act.put,List.setIfInBounds_toArray,List.set_cons_zero,List.set_cons_succ])
    refine C1A (i:=12) (v:=?_) rfl (by kernel_rfl) (by kernel_rfl) (by kernel_rfl) (λ_ _ _ h=>h) (Or.inl ⟨by rfl,?_⟩) trivial ?_
    rotate_left
    ·(intro w hSw;go_simp;(try with_reducible rfl))
    (try simp only[Act.put,List.setIfInBounds_toArray,List.set_cons_zero,List.set_cons_succ])
    refine wpAnyH_done (by kernel_rfl) ?_ _;refine NoP.norm ?_;exact⟨rfl,c75,c76,by rfl,hgg⟩
   ·go_simp;refine(I5 1 (by omega) (by omega) _).mono ?_;rintro e v4 ⟨rfl,hgc⟩;refine hK.out _ _ trivial (λhHeld=>?_);clear hK K hHeld;replace hgg:=hgg.trans hgc
    (try simp only[Act.put,List.setIfInBounds_toArray,List.set_cons_zero,List.set_cons_succ])
    replace h75:=h75.grow hgc;refine wpAnyH_ready (rs:=[3]) (by kernel_rfl) (by simp) (AllReadyH.cons rfl (λK hK=>?_) AllReadyH.nil);go_simp;refine hK.out _ _ trivial (λhHeld=>?_);clear hK K hHeld
    (try simp only[Act.put,List.setIfInBounds_toArray,List.set_cons_zero,List.set_cons_succ])
    generalize hv5:World.alloc v4 _=v5;have h76:Lrq v5 (some ⟨v4.heap.size,0,none⟩) [(some ⟨c75,0,none⟩,2,[B4 1,B4 1])]:=by rw[<-hv5];exact A3n v4 [(some ⟨c75,0,none⟩,2,[B4 1,B4 1])] (λr hr=>by simp only[List.mem_cons,List.not_mem_nil,or_false]at hr;rcases hr with rfl;exact h75)
    have hgc:A4 v4 v5:=hv5 ▸ A4.alloc v4 _;generalize v4.heap.size=c76 at h76⊢;replace hgg:=hgg.trans hgc;clear hgc hv5;refine wpAnyH_ready (rs:=[7]) (by kernel_rfl) (by simp) (AllReadyH.cons rfl (λK hK=>?_) AllReadyH.nil);go_simp;refine(A6m _ _ 2 (some ⟨c75,0,none⟩,2) _ h76 (HT.grow (hG.trans hgg))).mono ?_;rintro e v6 ⟨rfl,hgc⟩;refine hK.out _ _ trivial (λhHeld=>?_);clear hK K hHeld h75 h76;replace hgg:=hgg.trans hgc
    (try simp only[Act.put,List.setIfInBounds_toArray,List.set_cons_zero,List.set_cons_succ])
    refine C1A (i:=8) (v:=?_) rfl (by kernel_rfl) (by kernel_rfl) (by kernel_rfl) (λ_ _ _ h=>h) (Or.inl ⟨by rfl,?_⟩) trivial ?_
    rotate_left
    ·(intro w hSw;go_simp;(try with_reducible rfl))
    (try simp only[Act.put,List.setIfInBounds_toArray,List.set_cons_zero,List.set_cons_succ])
    refine C1A (i:=9) (v:=?_) rfl (by kernel_rfl) (by kernel_rfl) (by kernel_rfl) (λ_ _ _ h=>h) (Or.inl ⟨by rfl,?_⟩) trivial ?_
    rotate_left
    ·(intro w hSw;go_simp;(try with_reducible rfl))
    (try simp only[Act.put,List.setIfInBounds_toArray,List.set_cons_zero,List.set_cons_succ])
    refine C1A (i:=10) (v:=?_) rfl (by kernel_rfl) (by kernel_rfl) (by kernel_rfl) (λ_ _ _ h=>h) (Or.inl ⟨by rfl,?_⟩) trivial ?_
    rotate_left
    ·(intro w hSw;go_simp;(try with_reducible rfl))
    (try simp only[Act.put,List.setIfInBounds_toArray,List.set_cons_zero,List.set_cons_succ])
    refine C1A (i:=11) (v:=?_) rfl (by kernel_rfl) (by kernel_rfl) (by kernel_rfl) (λ_ _ _ h=>h) (Or.inl ⟨by rfl,?_⟩) trivial ?_
    rotate_left
    ·(intro w hSw;go_simp;(try with_reducible rfl))
    (try simp only[Act.put,List.setIfInBounds_toArray,List.set_cons_zero,List.set_cons_succ])
    refine C1A (i:=12) (v:=?_) rfl (by kernel_rfl) (by kernel_rfl) (by kernel_rfl) (λ_ _ _ h=>h) (Or.inl ⟨by rfl,?_⟩) trivial ?_
    rotate_left
    ·(intro w hSw;go_simp;(try with_reducible rfl))
    (try simp only[Act.put,List.setIfInBounds_toArray,List.set_cons_zero,List.set_cons_succ])
    refine wpAnyH_done (by kernel_rfl) ?_ _;refine NoP.norm ?_;exact⟨rfl,c75,c76,by rfl,hgg⟩
  ·go_simp;refine(I5 1 (by omega) (by omega) _).mono ?_;rintro e v3 ⟨rfl,hgc⟩;refine hK.out _ _ trivial (λhHeld=>?_);clear hK K hHeld;replace hgg:=hgg.trans hgc
   (try simp only[Act.put,List.setIfInBounds_toArray,List.set_cons_zero,List.set_cons_succ])
   refine wpAnyH_ready (rs:=[2]) (by kernel_rfl) (by simp) (AllReadyH.cons rfl (λK hK=>?_) AllReadyH.nil);go_simp;refine hK.out _ _ trivial (λhHeld=>?_);clear hK K hHeld
   (try simp only[Act.put,List.setIfInBounds_toArray,List.set_cons_zero,List.set_cons_succ])
   generalize hv4:World.alloc v3 _=v4;have h75:Lq v4 (some ⟨v3.heap.size,0,none⟩) [B4 1,B4 1]:=by rw[<-hv4];exact A0D v3 [B4 1,B4 1]
   have hgc:A4 v3 v4:=hv4 ▸ A4.alloc v3 _;generalize v3.heap.size=c75 at h75⊢;replace hgg:=hgg.trans hgc;clear hgc hv4;refine wpAnyH_ready (rs:=[3]) (by kernel_rfl) (by simp) (AllReadyH.cons rfl (λK hK=>?_) AllReadyH.nil);go_simp;refine hK.out _ _ trivial (λhHeld=>?_);clear hK K hHeld
   (try simp only[Act.put,List.setIfInBounds_toArray,List.set_cons_zero,List.set_cons_succ])
   generalize hv5:World.alloc v4 _=v5;have h76:Lrq v5 (some ⟨v4.heap.size,0,none⟩) [(some ⟨c75,0,none⟩,2,[B4 1,B4 1])]:=by rw[<-hv5];exact A3n v4 [(some ⟨c75,0,none⟩,2,[B4 1,B4 1])] (λr hr=>by simp only[List.mem_cons,List.not_mem_nil,or_false]at hr;rcases hr with rfl;exact h75)
   have hgc:A4 v4 v5:=hv5 ▸ A4.alloc v4 _;generalize v4.heap.size=c76 at h76⊢;replace hgg:=hgg.trans hgc;clear hgc hv5;refine wpAnyH_ready (rs:=[7]) (by kernel_rfl) (by simp) (AllReadyH.cons rfl (λK hK=>?_) AllReadyH.nil);go_simp;refine(A6m _ _ 2 (some ⟨c75,0,none⟩,2) _ h76 (HT.grow (hG.trans hgg))).mono ?_;rintro e v6 ⟨rfl,hgc⟩;refine hK.out _ _ trivial (λhHeld=>?_);clear hK K hHeld h75 h76;replace hgg:=hgg.trans hgc
   (try simp only[Act.put,List.setIfInBounds_toArray,List.set_cons_zero,List.set_cons_succ])
   refine C1A (i:=8) (v:=?_) rfl (by kernel_rfl) (by kernel_rfl) (by kernel_rfl) (λ_ _ _ h=>h) (Or.inl ⟨by rfl,?_⟩) trivial ?_
   rotate_left
   ·(intro w hSw;go_simp;(try with_reducible rfl))
   (try simp only[Act.put,List.setIfInBounds_toArray,List.set_cons_zero,List.set_cons_succ])
   refine C1A (i:=9) (v:=?_) rfl (by kernel_rfl) (by kernel_rfl) (by kernel_rfl) (λ_ _ _ h=>h) (Or.inl ⟨by rfl,?_⟩) trivial ?_
   rotate_left
   ·(intro w hSw;go_simp;(try with_reducible rfl))
   (try simp only[Act.put,List.setIfInBounds_toArray,List.set_cons_zero,List.set_cons_succ])
   refine C1A (i:=10) (v:=?_) rfl (by kernel_rfl) (by kernel_rfl) (by kernel_rfl) (λ_ _ _ h=>h) (Or.inl ⟨by rfl,?_⟩) trivial ?_
   rotate_left
   ·(intro w hSw;go_simp;(try with_reducible rfl))
   (try simp only[Act.put,List.setIfInBounds_toArray,List.set_cons_zero,List.set_cons_succ])
   refine C1A (i:=11) (v:=?_) rfl (by kernel_rfl) (by kernel_rfl) (by kernel_rfl) (λ_ _ _ h=>h) (Or.inl ⟨by rfl,?_⟩) trivial ?_
   rotate_left
   ·(intro w hSw;go_simp;(try with_reducible rfl))
   (try simp only[Act.put,List.setIfInBounds_toArray,List.set_cons_zero,List.set_cons_succ])
   refine C1A (i:=12) (v:=?_) rfl (by kernel_rfl) (by kernel_rfl) (by kernel_rfl) (λ_ _ _ h=>h) (Or.inl ⟨by rfl,?_⟩) trivial ?_
   rotate_left
   ·(intro w hSw;go_simp;(try with_reducible rfl))
   (try simp only[Act.put,List.setIfInBounds_toArray,List.set_cons_zero,List.set_cons_succ])
   refine wpAnyH_done (by kernel_rfl) ?_ _;refine NoP.norm ?_;exact⟨rfl,c75,c76,by rfl,hgg⟩
 rintro x a' v ⟨rfl,b75,c76,rfl,hg8⟩;subst hA;simp only[Act.put,List.setIfInBounds_toArray,List.set_cons_zero,List.set_cons_succ];have hB2:=hB.grow hg8;have hG0:=hG.trans hg8;replace hG1:=hG1.trans hg8;replace hG2:=hG2.trans hg8;replace hG3:=hG3.trans hg8;replace hG4:=hG4.trans hg8;replace hG5:=hG5.trans hg8;clear hB hG hg8 hgu8 hmono;have hB:=hB2;have hG:=hG0;clear hB2 hG0;obtain⟨u,rfl⟩:=exQ v;refine A6 ?_;refine B9D (rsE C4 [0,1,0,0,0,0,0] hB hG λL hL=>?_);refine gs ?_;refine gmw (C:=λv=>B59 _ _) ?_;refine gs ?_;refine geT hL ?_;clear hB hG hL L;rintro u ⟨hgu,hB,hG,-⟩;replace hG1:=hG1.trans hgu;replace hG2:=hG2.trans hgu;replace hG3:=hG3.trans hgu;replace hG4:=hG4.trans hgu;replace hG5:=hG5.trans hgu;clear hgu;refine B9D (rsE C4 [0,0,1,1,0,0,0,0,0] hB hG λL hL=>?_);refine gs ?_;refine gmw (C:=λv=>I5 (-1) (by omega) (by omega) _) ?_;refine gmd (C:=λv ⟨hgu,hB,hG,_⟩=>B7L _ _ (some ⟨x22,0,none⟩,2) (some ⟨x25,0,none⟩,2) _ (HX.out.grow (hG1.trans hgu))) ?_;refine gs ?_;refine geT hL ?_;clear hB hG hL L;rintro u ⟨hgu,hB,hG,-⟩;replace hG1:=hG1.trans hgu;replace hG2:=hG2.trans hgu;replace hG3:=hG3.trans hgu;replace hG4:=hG4.trans hgu;replace hG5:=hG5.trans hgu;clear hgu;refine B9D ?_;simp only[List.append];refine rsE C4 [1,0,0,0,0,0,0,0,0,0,0,0,0,0,0,1,0,0,0,0,0,0,1,0,0,0,0,0,0,1,0,0,0,0,0,0,0,0,1,0,0,0,0,0,0,0,0,0,0,0,0,0,0,1,0,0,0,0,0,1,0,0,0,0,0,0,0,0,0,0,0,0,0,0,0,0,0,0,0,1,0,0,0,0,0,0,0,0,0,0,0,0,0,0,1,0,0,0,0,0,1,0,0,0,0,0,0,0,0,0,0,0,0,0,0] hB hG λL hL=>?_;refine gmd (C:=λv ⟨hgu,hB,hG,_⟩=>B6O _ (HT.grow hG)) ?_
 repeat first|refine gya ?_|refine gyr ?_|refine gna ?_|refine gyb (by(rintro v ⟨hgu,hB,hG,-⟩ N hN;have r:=hB.r;simp only[BxR]at r;obtain⟨⟨⟨a1,a2,a3,a4,a5⟩,⟨b1,b2,b3,b4,b5⟩,⟨c1,c2,c3,c4,c5⟩,c6⟩,d1,d2,d3,d4,d5⟩:=HKc.out v (hG3.trans hgu);obtain⟨⟨e1,e2,e3,e4,e5⟩,f1,f2,f3,f4,f5⟩:=HVc.out v (hG4.trans hgu);obtain⟨⟨g1,g2,g3,g4,g5⟩,i1,i2,i3,i4,i5⟩:=HUc.out v (hG5.trans hgu);go_simp;exact hN)) ?_
 first|refine gmw (C:=λv=>A02 3 1 (by omega) (by omega) (by omega) (by omega) z31 _) ?_|refine I0 ?_
 repeat first|refine gya ?_|refine gyr ?_|refine gna ?_|refine gyb (by(rintro v ⟨hgu,hB,hG,-⟩ N hN;have r:=hB.r;simp only[BxR]at r;obtain⟨⟨⟨a1,a2,a3,a4,a5⟩,⟨b1,b2,b3,b4,b5⟩,⟨c1,c2,c3,c4,c5⟩,c6⟩,d1,d2,d3,d4,d5⟩:=HKc.out v (hG3.trans hgu);obtain⟨⟨e1,e2,e3,e4,e5⟩,f1,f2,f3,f4,f5⟩:=HVc.out v (hG4.trans hgu);obtain⟨⟨g1,g2,g3,g4,g5⟩,i1,i2,i3,i4,i5⟩:=HUc.out v (hG5.trans hgu);go_simp;exact hN)) ?_
 first|refine gmw (C:=λv=>A02 2 1 (by omega) (by omega) (by omega) (by omega) z21 _) ?_|refine I0 ?_
 repeat first|refine gya ?_|refine gyr ?_|refine gna ?_|refine gyb (by(rintro v ⟨hgu,hB,hG,-⟩ N hN;have r:=hB.r;simp only[BxR]at r;obtain⟨⟨⟨a1,a2,a3,a4,a5⟩,⟨b1,b2,b3,b4,b5⟩,⟨c1,c2,c3,c4,c5⟩,c6⟩,d1,d2,d3,d4,d5⟩:=HKc.out v (hG3.trans hgu);obtain⟨⟨e1,e2,e3,e4,e5⟩,f1,f2,f3,f4,f5⟩:=HVc.out v (hG4.trans hgu);obtain⟨⟨g1,g2,g3,g4,g5⟩,i1,i2,i3,i4,i5⟩:=HUc.out v (hG5.trans hgu);go_simp;exact hN)) ?_
 first|refine gmw (C:=λv=>A02 0 1 (by omega) (by omega) (by omega) (by omega) z01 _) ?_|refine I0 ?_
 repeat first|refine gya ?_|refine gyr ?_|refine gna ?_|refine gyb (by(rintro v ⟨hgu,hB,hG,-⟩ N hN;have r:=hB.r;simp only[BxR]at r;obtain⟨⟨⟨a1,a2,a3,a4,a5⟩,⟨b1,b2,b3,b4,b5⟩,⟨c1,c2,c3,c4,c5⟩,c6⟩,d1,d2,d3,d4,d5⟩:=HKc.out v (hG3.trans hgu);obtain⟨⟨e1,e2,e3,e4,e5⟩,f1,f2,f3,f4,f5⟩:=HVc.out v (hG4.trans hgu);obtain⟨⟨g1,g2,g3,g4,g5⟩,i1,i2,i3,i4,i5⟩:=HUc.out v (hG5.trans hgu);go_simp;exact hN)) ?_
 first|refine gmw (C:=λv=>A02 (-1) 2 (by omega) (by omega) (by omega) (by omega) z12 _) ?_|refine I0 ?_
 repeat first|refine gya ?_|refine gyr ?_|refine gna ?_|refine gyb (by(rintro v ⟨hgu,hB,hG,-⟩ N hN;have r:=hB.r;simp only[BxR]at r;obtain⟨⟨⟨a1,a2,a3,a4,a5⟩,⟨b1,b2,b3,b4,b5⟩,⟨c1,c2,c3,c4,c5⟩,c6⟩,d1,d2,d3,d4,d5⟩:=HKc.out v (hG3.trans hgu);obtain⟨⟨e1,e2,e3,e4,e5⟩,f1,f2,f3,f4,f5⟩:=HVc.out v (hG4.trans hgu);obtain⟨⟨g1,g2,g3,g4,g5⟩,i1,i2,i3,i4,i5⟩:=HUc.out v (hG5.trans hgu);go_simp;exact hN)) ?_
 first|refine gmw (C:=λv=>A02 2 1 (by omega) (by omega) (by omega) (by omega) z21 _) ?_|refine I0 ?_
 repeat first|refine gya ?_|refine gyr ?_|refine gna ?_|refine gyb (by(rintro v ⟨hgu,hB,hG,-⟩ N hN;have r:=hB.r;simp only[BxR]at r;obtain⟨⟨⟨a1,a2,a3,a4,a5⟩,⟨b1,b2,b3,b4,b5⟩,⟨c1,c2,c3,c4,c5⟩,c6⟩,d1,d2,d3,d4,d5⟩:=HKc.out v (hG3.trans hgu);obtain⟨⟨e1,e2,e3,e4,e5⟩,f1,f2,f3,f4,f5⟩:=HVc.out v (hG4.trans hgu);obtain⟨⟨g1,g2,g3,g4,g5⟩,i1,i2,i3,i4,i5⟩:=HUc.out v (hG5.trans hgu);go_simp;exact hN)) ?_
 first|refine gmw (C:=λv=>A02 (-1) 4 (by omega) (by omega) (by omega) (by omega) z14 _) ?_|refine I0 ?_
 repeat first|refine gya ?_|refine gyr ?_|refine gna ?_|refine gyb (by(rintro v ⟨hgu,hB,hG,-⟩ N hN;have r:=hB.r;simp only[BxR]at r;obtain⟨⟨⟨a1,a2,a3,a4,a5⟩,⟨b1,b2,b3,b4,b5⟩,⟨c1,c2,c3,c4,c5⟩,c6⟩,d1,d2,d3,d4,d5⟩:=HKc.out v (hG3.trans hgu);obtain⟨⟨e1,e2,e3,e4,e5⟩,f1,f2,f3,f4,f5⟩:=HVc.out v (hG4.trans hgu);obtain⟨⟨g1,g2,g3,g4,g5⟩,i1,i2,i3,i4,i5⟩:=HUc.out v (hG5.trans hgu);go_simp;exact hN)) ?_
 first|refine gmw (C:=λv=>A02 3 1 (by omega) (by omega) (by omega) (by omega) z31 _) ?_|refine I0 ?_
 repeat first|refine gya ?_|refine gyr ?_|refine gna ?_|refine gyb (by(rintro v ⟨hgu,hB,hG,-⟩ N hN;have r:=hB.r;simp only[BxR]at r;obtain⟨⟨⟨a1,a2,a3,a4,a5⟩,⟨b1,b2,b3,b4,b5⟩,⟨c1,c2,c3,c4,c5⟩,c6⟩,d1,d2,d3,d4,d5⟩:=HKc.out v (hG3.trans hgu);obtain⟨⟨e1,e2,e3,e4,e5⟩,f1,f2,f3,f4,f5⟩:=HVc.out v (hG4.trans hgu);obtain⟨⟨g1,g2,g3,g4,g5⟩,i1,i2,i3,i4,i5⟩:=HUc.out v (hG5.trans hgu);go_simp;exact hN)) ?_
 first|refine gmw (C:=λv=>A02 1 1 (by omega) (by omega) (by omega) (by omega) z11 _) ?_|refine I0 ?_
 repeat first|refine gya ?_|refine gyr ?_|refine gna ?_|refine gyb (by(rintro v ⟨hgu,hB,hG,-⟩ N hN;have r:=hB.r;simp only[BxR]at r;obtain⟨⟨⟨a1,a2,a3,a4,a5⟩,⟨b1,b2,b3,b4,b5⟩,⟨c1,c2,c3,c4,c5⟩,c6⟩,d1,d2,d3,d4,d5⟩:=HKc.out v (hG3.trans hgu);obtain⟨⟨e1,e2,e3,e4,e5⟩,f1,f2,f3,f4,f5⟩:=HVc.out v (hG4.trans hgu);obtain⟨⟨g1,g2,g3,g4,g5⟩,i1,i2,i3,i4,i5⟩:=HUc.out v (hG5.trans hgu);go_simp;exact hN)) ?_
 first|refine gmw (C:=λv=>A02 (-2) 1 (by omega) (by omega) (by omega) (by omega) zm2 _) ?_|refine I0 ?_
 refine gs ?_;refine geT hL ?_;clear hB hG hL L;rintro u ⟨-,hB,hG,-⟩;refine rt Tryz.results10 ?_;exact⟨rfl,hG⟩
end Go.Proofs.YtgpglgbcobeogaaGreatDoor
namespace Go.Proofs.YtgpglgbcobeogaaGreatDoor.lassoKnown
open Go.ChangeShapes Go.WideShapes Go.ChangeAt Go.RowKit
theorem B7v:∀t∈Tryz.f10.params.toList,Tryz.prog.readableRec t=true/\t<Tryz.prog.types.size:=by
 have h:(Tryz.f10.params.toList.all λt=>Tryz.prog.readableRec t&&decide (t<Tryz.prog.types.size))=true:=by kernel_rfl
 intro t ht;have:=List.all_eq_true.1 h t ht
 simpa using this
theorem B5p(H:Type)(enc:TypeId×Value->H)(W:World)(base:Nat)(args:Array Value)(ds gs:List (DataW H))(before:List MemPlace)
  (hval:∀(j:Nat) t v,Tryz.f10.params[j]?=some t->args[j]?=some v->Value.okWide Tryz.prog W .any base t v)
  (hW:DataW.Whole enc Tryz.prog Tryz.f10.params.toList Rows.lassoKnownSpec.vars false W args.toList ds gs before) (hL:laidMetH Tryz.prog Rows.lassoKnownRow.laid W) :
  Calls Tryz.prog 10 args W λe W'=>∃v,e = .returned v/\Rows.lassoKnownSpec.post enc Tryz.prog Tryz.f10 false true false false W args v W':=by
 have hW':=hW;obtain⟨p,q,hA0,hV,rfl,hfz,hnd⟩:=hW;have hA:DataW.TrodAll enc Tryz.prog W 0 (λ_=>true) true Tryz.f10.params.toList args.toList ds p:=hA0;rw[Tryz.params10]at hA;obtain⟨hargs,rfl,rfl⟩:=trodAll_nil hA;obtain rfl:args=#[]:=by cases args;simp_all
 obtain⟨rfl,rfl⟩:=trodVars_none hV;refine(B1T  W  (B10 (by kernel_rfl) hL)).mono λe W' ⟨he,hg⟩=>?_;exact⟨_,he,B3L hW' rfl rfl rfl rfl (by kernel_rfl) B7v hg⟩
def wit:Array Value:=#[]
theorem B4p(os:Os):laidMet Tryz.prog Rows.lassoKnownRow.laid ((laidWorld os).forCall (λ_ _=>0) ⟨#[],wit,[]⟩).memory :=
 laidMet_of_run' 8 (by kernel_rfl) (by kernel_rfl)
theorem reads(os:Os){H:Type}(enc:TypeId×Value->H):∃places,DataW.whole enc Tryz.prog ((laidWorld os).forCall (λ_ _=>0) ⟨#[],wit,[]⟩).memory Tryz.f10.params.toList Rows.lassoKnownSpec.vars false wit.toList 8=some ([],[],places) :=
 ⟨[],by kernel_rfl⟩
theorem B3y(os:Os)(started:os.Started)(H:Type)(enc:TypeId×Value->H)(F:Stop.Interp) :
  ReturnsInHanded {} Tryz.checked os 10 .any ((OpenSpec.ofChange Rows.lassoKnownSpec).preRow enc Tryz.prog Tryz.f10 Rows.lassoKnownRow.domain false Rows.lassoKnownRow.laid) (((OpenSpec.ofChange Rows.lassoKnownSpec).at F).post enc Tryz.prog Tryz.f10 false true false false):=by
 obtain⟨places,hx⟩:=reads os enc
 refine returnsInHanded_of_row (C:=Tryz.checked) (s:=OpenSpec.ofChange Rows.lassoKnownSpec) B7b started (by kernel_rfl) Tryz.func10
  (witness_row_at (enc:=enc) (C:=Tryz.checked) false (laidWorld os) wit rfl (by kernel_rfl) (by kernel_rfl) (by kernel_rfl)
   (OpenSpec.preRow_of_cond 8 hx (by kernel_rfl) (λk hk=>by cases hk) (by kernel_rfl) (B4p os))) ?_
 intro W base args ds gs before hval hW _ _ _ hL _ _;exact B5p H enc W base args ds gs before hval hW hL
theorem B1H:Rows.LassoKnownSaid :=
 OpenClaim.holds_of_cond 10 Tryz.f10 rfl rfl rfl rfl rfl rfl rfl ⟨rfl,rfl,rfl,rfl,rfl⟩ rfl rfl rfl rfl rfl (by kernel_rfl) Tryz.func10 (by kernel_rfl)
  (B9w (by kernel_rfl)) (by unfold Func.isWrapper;first|(rw[if_pos (by decide +kernel)];kernel_rfl)|(rw[if_neg (by decide +kernel)];exact⟨rfl,rfl⟩))
  (λos started H enc _ F=>by rw[OpenClaim.pre_eq_preRow];exact B3y os started H enc F)
theorem plain(f:FuncId)(fn:Func)(hf:Tryz.pinned.checked.prog.funcNamed Rows.lassoKnownRow.func=some f)(hfn:Tryz.pinned.checked.prog.funcs[f]?=some fn) :
  false=Tryz.pinned.checked.prog.looks []/\∀(j:Nat) t,fn.params[j]?=some t->Tryz.pinned.checked.prog.wantsStandIn t=false:=by
 obtain rfl:f=10:=B8y ((show Tryz.prog.funcNamed Rows.lassoKnownRow.func=some 10 by kernel_rfl).symm.trans hf) |>.symm;obtain rfl:fn=Tryz.f10:=(B8y (Tryz.func10.symm.trans hfn)).symm;refine⟨by kernel_rfl,λj t ht=>?_⟩;have h:(Tryz.f10.params.toList.all λt=>!Tryz.prog.wantsStandIn t)=true:=by kernel_rfl
 have:=List.all_eq_true.1 h t (Array.mem_toList_iff.2 (Array.mem_of_getElem? ht));have h2:Tryz.prog.wantsStandIn t=false:=by simpa using this
 exact h2
theorem card:Rows.LassoKnownCardSaid :=
 Claim7.holds_tied_plain_at .later [] _ _ _ _ B1H (λ_ h=>by cases h) (by kernel_rfl) (λ_ h=>by cases h) lassoKnown_row_tie rfl ⟨rfl,rfl⟩ (by kernel_rfl) rfl plain (by kernel_rfl)
end Go.Proofs.YtgpglgbcobeogaaGreatDoor.lassoKnown
namespace Go.Proofs.YtgpglgbcobeogaaGreatDoor
theorem lassoKnown_holds:Rows.LassoKnownCardSaid:=lassoKnown.card
#print axioms lassoKnown_holds
end Go.Proofs.YtgpglgbcobeogaaGreatDoor
