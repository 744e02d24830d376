/- Contracts and laws. -/
import Derived.Test.YtgpglgbcobeogaaGreatDoorA46
import Derived.Test.YtgpglgbcobeogaaGreatDoorA48
set_option linter.unusedSimpArgs false
set_option linter.unusedVariables false
set_option maxHeartbeats 32000000
set_option maxRecDepth 100000
namespace Go.Proofs.YtgpglgbcobeogaaGreatDoor
open Go Go.RowKit
theorem B37 {l : List Kn} {i : Nat} (h : i < l.length) : ∃ x ∈ l,knQ l i = x.1 ∧ knW l i = x.2:=⟨l[i],List.getElem_mem h,by unfold knQ;rw [List.getElem?_eq_getElem h];rfl,by unfold knW;rw [List.getElem?_eq_getElem h];rfl⟩
theorem B4V {A A' : Option Addr} {zs : List Kz} {qz : List Kq} {n c c' : Nat} {s : Rat} {ps : Az} {w : World} (hn : n ≤ 20) (hz : zs.length = n) (hq : qz.length = n) (he : zs.map H8 = qz.map G0) (hs : ∀ x ∈ qz,qs x.1 ≤ 50 ∧ x.2.2.length ≤ 3 ∧ ∀ y ∈ x.2.2,qs y ≤ 5) (hsz : qs s ≤ 5) (h1 : Lkz w A zs) (h2 : Lk w A' qz) (h3 : Rz w ps s) (HT : Tab w) :
  ∃ (e kr : Int) (ls : Nat) (PL : List Rat),(∀ W,A4 w W → Calls Tryz.prog 45 #[.slice A' n c'] W fun e' w'=>e' = .returned (.int .i64 e) ∧ A4 W w') ∧ (∀ W,A4 w W → Calls Tryz.prog 44 #[.slice A n c] W fun e' w'=>e' = .returned (.int .i64 e) ∧ A4 W w') ∧
   (∀ W,A4 w W → Calls Tryz.prog 43 #[.slice A' n c',qV s] W (G7 (fun x : Ax=>.tuple #[.slice x.1 ls x.2,.int .i64 kr]) (fun x W=>Lq W x.1 PL) W)) ∧
   (((e ≠ 0 ∨ s < 0) ∧ kr = 1 ∧ ls = 0) ∨ (e = 0 ∧ ¬ s < 0 ∧ kr = 0 ∧ PL.length = ls ∧ ls ≤ 20 ∧ (∀ x ∈ PL,qs x ≤ LIM) ∧ ∀ W,A4 w W → Calls Tryz.prog 46 #[.slice A n c,rqV ps.1 ps.2 s] W (G7 (fun x : Ax=>.slice x.1 ls x.2) (fun x W=>Lz W x.1 PL) W))):=by
 have hBB : 100000 ≤ BIG:=by unfold BIG;omega
 have hLIM : LIM = 1099511627760:=rfl
 have hno : ∀ e : Int,(e ≠ 0 ∨ s < 0) → (∀ W,A4 w W → Calls Tryz.prog 45 #[.slice A' n c'] W fun e' w'=>e' = .returned (.int .i64 e) ∧ A4 W w') → ∀ W,A4 w W → Calls Tryz.prog 43 #[.slice A' n c',qV s] W (G7 (fun x : Ax=>.tuple #[.slice x.1 0 x.2,.int .i64 1]) (fun x W=>Lq W x.1 []) W):=fun e h hck W hg =>
  (B2S A' n c' s e (by omega) h W fun W' hg'=>hck W' (hg.trans hg')).mono fun e' w' ⟨e1,e2⟩=>⟨(none,0),e1,Lq.nil _ _,e2⟩
 rcases Nat.eq_zero_or_pos n with h0 | h0
 ·subst h0
  have hck : ∀ W,A4 w W → Calls Tryz.prog 45 #[.slice A' 0 c'] W fun e' w'=>e' = .returned (.int .i64 5) ∧ A4 W w':=fun W _=>B1G A' c' W
  exact ⟨5,1,0,[],hck,fun W _=>B3F A c W,hno 5 (.inl (by omega)) hck,.inl ⟨.inl (by omega),rfl,rfl⟩⟩
 ·obtain ⟨e,hE⟩:=A9l (qz.map G0)
  have hl : (qz.map G0).length = n:=by rw [List.length_map];exact hq
  have hsm : ∀ i,i < n → qs (knQ (qz.map G0) i) ≤ 50 ∧ (knW (qz.map G0) i).length ≤ 3 ∧ ∀ j,qs (gq (knW (qz.map G0) i) j) ≤ 50:=fun i hi=>by
   obtain ⟨x,hx,g1,g2⟩:=B37 (l:=qz.map G0) (i:=i) (by omega)
   obtain ⟨y,hy,rfl⟩:=List.mem_map.1 hx
   obtain ⟨z1,z2,z3⟩:=hs y hy
   rw [g1,g2]
   refine ⟨z1,z2,fun j=>?_⟩
   rcases Nat.lt_or_ge j y.2.2.length with h | h
   ·exact Nat.le_trans (z3 _ (A4w h)) (by omega)
   ·have : gq y.2.2 j = 0:=by unfold gq;rw [List.getElem?_eq_none h];rfl
    show qs (gq y.2.2 j) ≤ 50
    rw [this,A1Y]
    omega
  have hck : ∀ W,A4 w W → Calls Tryz.prog 45 #[.slice A' n c'] W fun e' w'=>e' = .returned (.int .i64 e) ∧ A4 W w':=fun W hg=>A6m A' qz n c' e hq h0 (by omega) (Nat.le_trans (hsm 0 h0).2.1 (by omega)) hE 50 (fun i hi=>(hsm i hi).1) (hsm 0 h0).2.2 (by omega) W (h2.grow hg)
  have hcr : ∀ W,A4 w W → Calls Tryz.prog 44 #[.slice A n c] W fun e' w'=>e' = .returned (.int .i64 e) ∧ A4 W w':=fun W hg=>A9v A zs n c e hz h0 (by omega) (by rw [he];exact Nat.le_trans (hsm 0 h0).2.1 (by omega)) (by rw [he];exact hE) 50 (by rw [he];exact fun i hi=>(hsm i hi).1) (by omega) W (h1.grow hg)
  by_cases hbad : e ≠ 0 ∨ s < 0
  ·exact ⟨e,1,0,[],hck,hcr,hno e hbad hck,.inl ⟨hbad,rfl,rfl⟩⟩
  ·have he0 : e = 0:=Decidable.not_not.1 fun h=>hbad (.inl h)
   have hs0 : ¬ s < 0:=fun h=>hbad (.inr h)
   have hs1 : 0 ≤ s:=by grind
   obtain ⟨sh,od⟩:=hE.zero he0
   obtain ⟨K1,-,-⟩:=A3i sh od hs1
   have hPl : (A0b (qz.map G0) s).length = (knW (qz.map G0) 0).length:=by
    unfold A0b
    split
    ·exact sh.all _ K1
    ·simp
   have hPs:=A9D (l:=qz.map G0) (a:=s) (n:=n) (s:=50) hl (fun i hi=>(hsm i hi).1) (fun i hi=>(hsm i hi).2.2) (by omega) (by rw [← hl];exact K1)
   refine ⟨e,0,(knW (qz.map G0) 0).length,A0b (qz.map G0) s,hck,hcr,fun W hg=>A9H A' qz n c' s hq sh od hs1 50 (by omega) (fun i hi=>(hsm i hi).1) (fun i hi=>(hsm i hi).2.2) (by omega) W (h2.grow hg) (HT.grow hg),.inr ⟨he0,hs0,rfl,hPl,sh.cols,fun x hx=>Nat.le_trans (hPs x hx) (by omega),fun W hg=>?_⟩⟩
   have h:=B4L A zs n c s ps hz (by rw [he];exact sh) (by rw [he];exact od) hs1 50 (by omega) (by rw [he];exact fun i hi=>(hsm i hi).1) (by rw [he];exact fun i hi=>(hsm i hi).2.2) (by omega) W (h1.grow hg) (h3.grow hg)
   rw [he,B2Y sh od hs1] at h
   exact h
theorem B01 (A : Option Addr) (la : List Int) (ca : Nat) (B : Option Addr) (lb : List Int) (cb : Nat) (n kk way at0 sa : Int) (hla : la.length ≤ 9223372036854775807) (hba : ∀ x ∈ la,-9223372036854775808 ≤ x ∧ x ≤ 9223372036854775807) (hlb : lb.length ≤ 9223372036854775807) (hbc : lb.length ≤ cb) (hbb : ∀ x ∈ lb,-9223372036854775808 ≤ x ∧ x ≤ 9223372036854775807) (lo2 : -9223372036854775808 ≤ n) (hi2 : n ≤ 9223372036854775807) (lo3 : -9223372036854775808 ≤ kk) (hi3 : kk ≤ 9223372036854775807) (lo4 : -9223372036854775808 ≤ way) (hi4 : way ≤ 9223372036854775807) (lo5 : -9223372036854775808 ≤ at0) (hi5 : at0 ≤ 9223372036854775807) (lo6 : -9223372036854775808 ≤ sa) (hi6 : sa ≤ 9223372036854775807)
  (w : World) (h1 : Li w A la) (h2 : Li w B lb) (HT : Tab w) :
  Calls Tryz.prog 6 #[.slice A la.length ca,.slice B lb.length cb,.int .i64 n,.int .i64 kk,.int .i64 way,.int .i64 at0,.int .i64 sa] w fun e w'=>e = .returned (.bool true) ∧ A4 w w':=by
 clear lo2 hi2 lo3 hi3 lo4 hi4 lo5 hi5 h1 hla hba
 obtain ⟨pa,hpa⟩ : ∃ p,p = la.length:=⟨_,rfl⟩
 obtain ⟨pb,hpb⟩ : ∃ p,p = lb.length:=⟨_,rfl⟩
 rw [← hpa]
 rw [← hpb] at hbc hlb ⊢
 have hBB : 100000 ≤ BIG:=by unfold BIG;omega
 have rN:=A1U n (m:=5) (by omega)
 have rK:=A1U kk (m:=3) (by omega)
 have rW:=A1U way (m:=6) (by omega)
 have rA:=A1U at0 (m:=5) (by omega)
 have hp1:=fun W=>A1t n 5 (by omega) (by omega) W
 have hp2:=fun W=>A1t kk 3 (by omega) (by omega) W
 have hp3:=fun W=>A1t way 6 (by omega) (by omega) W
 have hp4:=fun W=>A1t at0 5 (by omega) (by omega) W
 obtain ⟨N,hN⟩ : ∃ N : Nat,K5 n 5 = (N : Int):=⟨(K5 n 5).toNat,by omega⟩
 obtain ⟨KW,hK⟩ : ∃ KW : Nat,K5 kk 3 + 1 = (KW : Int):=⟨(K5 kk 3 + 1).toNat,by omega⟩
 obtain ⟨y2,hy2⟩ : ∃ y,y = K5 kk 3:=⟨_,rfl⟩
 obtain ⟨y3,hy3⟩ : ∃ y,y = K5 way 6:=⟨_,rfl⟩
 obtain ⟨y4,hy4⟩ : ∃ y,y = K5 at0 5:=⟨_,rfl⟩
 simp only [hN] at hp1
 rw [← hy2] at hK rK
 simp only [← hy2] at hp2
 rw [← hy3] at rW
 simp only [← hy3] at hp3
 rw [← hy4] at rA
 simp only [← hy4] at hp4
 have fy : IntKind.i64.wrap (y2 + 1) = (KW : Int):=by rw [IntWalk.i64_in _ (by omega)];exact hK
 have hN4 : N ≤ 4:=by omega
 have hK1 : 1 ≤ KW:=by omega
 have hK3 : KW ≤ 3:=by omega
 have hr:=fun W=>A7o sa W lo6 hi6
 have zsz : qs (A0V sa) ≤ 5:=A6B sa
 generalize A0V sa = s at *
 have hnil:=fun W=>A8I none [] 0 0 KW rfl (by omega) (by omega) (fun x hx=>absurd hx List.not_mem_nil) (by omega) W (Li.nil W none)
 have lNil:=A7h [] KW
 have sNil:=A6k [] KW
 generalize U8 [] KW = PN at *
 have hsg:=fun W (x : Az)=>A34 x.1 x.2 s W
 have hsn:=@A2N s
 obtain ⟨sg,hsge⟩ : ∃ t,t = s.num.sign:=⟨_,rfl⟩
 rw [← hsge] at hsn
 simp only [← hsge] at hsg
 have hsg3 : sg = 1 ∨ sg = -1 ∨ sg = 0:=by rw [hsge];exact A4r s
 have szB : qs s ≤ BIG:=by omega
 have Hp1:=Lib.hid hp1
 have Hp2:=Lib.hid hp2
 have Hp3:=Lib.hid hp3
 have Hp4:=Lib.hid hp4
 have Hr:=Lib.hid hr
 have Hnil:=Lib.hid hnil
 have HNil:=Lib.hid (And.intro lNil sNil)
 have Hsg:=Lib.hid hsg
 have Hsn:=Lib.hid (And.intro hsn hsg3)
 have Hb:=Lib.hid (And.intro hpb (And.intro hbb h2))
 have HrW:=Lib.hid rW
 clear rN rK rW rA hN hK hy2 hy3 hy4 hp1 hp2 hp3 hp4 hr hnil lNil sNil hsg hsn hsg3 hsge hpb hbb h2 lo6 hi6 hpa
 go_enter Tryz.func6,Tryz.ntmps6
 refine en0 ?_
 intro u hG hB hF
 refine wp_seq (rsE K4 [0,1,0,1,0,0,0] hB hG fun L hL=>?_)
 refine gs ?_
 refine gmw (C:=fun v=>Hp1.out _) ?_
 refine gs ?_
 refine gmw (C:=fun v=>Hp2.out _) ?_
 refine gs ?_
 refine geT hL ?_
 clear hB hG hL L
 rintro u ⟨-,hB,hG,-⟩
 refine r0T ?_
 refine r0T ?_
 refine wp_seq ?_
 refine r0T ?_
 refine wp_block ?_
 clear hB hF
 go_loopw [17,15,16] (fun s0 s1 s2 wr=>∃ (i : Nat) (zs : List Kz) (qz : List Kq),i ≤ N ∧ s0 = .int .i64 i ∧ KnW w.heap.size i s1 s2 zs qz wr ∧ A4 w wr) (fun s0 _ _ _=>N - (intOf s0).toNat)
 case atStart=>exact ⟨0,[],[],Nat.zero_le _,rfl,KnW.start _ _,hG⟩
 case round =>
  clear hG
  obtain ⟨i,zs,qz,hi,rfl,hk,hG⟩:=hrel
  obtain ⟨u,rfl⟩ : ∃ x,x = wr:=⟨_,rfl⟩
  have hB:=Bx.nil u
  have hF:=Fr.nil w
  have HKW:=Lib.hid hk
  clear hk
  rcases Nat.lt_or_ge i N with hlt | hge
  ·have hdec : decide ((i : Int) < (N : Int)) = true:=by simp;omega
   have hiN : (i : Int) < (N : Int):=by omega
   obtain ⟨D,hD⟩ : ∃ D : Nat,D = N - 1 - i:=⟨_,rfl⟩
   obtain ⟨N1,hN1⟩ : ∃ D : Nat,D = N - 1:=⟨_,rfl⟩
   have fw1 : IntKind.i64.wrap ((N : Int) - 1) = (N1 : Int):=by rw [IntWalk.i64_in _ (by omega)];omega
   have fw2 : IntKind.i64.wrap ((N1 : Int) - (i : Int)) = (D : Int):=by rw [IntWalk.i64_in _ (by omega)];omega
   have hof:=fun W=>A7Y (D : Int) (by omega) (by omega) W
   have zD : qs (C5 (D : Int)) ≤ 41:=A8v D (by omega)
   obtain ⟨Q0,hQ0⟩ : ∃ q,q = C5 (D : Int):=⟨_,rfl⟩
   rw [← hQ0] at zD
   simp only [← hQ0] at hof
   obtain ⟨ik,hik⟩ : ∃ x,x = i * KW:=⟨_,rfl⟩
   have hikb : ik ≤ 4 * 3:=by rw [hik];exact Nat.mul_le_mul (by omega) hK3
   have fik : IntKind.i64.wrap ((i : Int) * (KW : Int)) = (ik : Int):=by rw [hik,Int.natCast_mul];exact IntWalk.i64_in _ (by rw [← Int.natCast_mul,← hik];omega)
   obtain ⟨m,hm⟩ : ∃ x,x = min pb ik:=⟨_,rfl⟩
   have fmin : min (pb : Int) (ik : Int) = (m : Int):=by omega
   have hmp : m ≤ pb:=by omega
   obtain ⟨A',hsl,hLi⟩:=B2d B lb cb pb m Hb.out.1 hbc hmp w Hb.out.2.2
   have hrw : ∀ W,A4 w W → Calls Tryz.prog 31 #[.slice A' (pb - m) (cb - m),.int .i64 KW] W (G7 (fun x : Nat × Nat=>.slice (some ⟨x.1,0,none⟩) KW x.2) (fun x W=>KW ≤ x.2 ∧ Lzt W (some ⟨x.1,0,none⟩) (U8 (lb.drop m) KW)) W):=fun W hg =>
    A8I A' (lb.drop m) (cb - m) (pb - m) KW (by rw [List.length_drop,Hb.out.1]) (by omega) (by omega) (fun x hx=>Hb.out.2.1 x (List.mem_of_mem_drop hx)) (by omega) W (hLi.grow hg)
   have lP:=A7h (lb.drop m) KW
   have sP:=A6k (lb.drop m) KW
   generalize U8 (lb.drop m) KW = P0 at *
   obtain ⟨pm,hpm2⟩ : ∃ x,x = pb - m:=⟨_,rfl⟩
   obtain ⟨cm,hcm⟩ : ∃ x,x = cb - m:=⟨_,rfl⟩
   rw [← hpm2,← hcm] at hrw
   simp only [← hpm2,← hcm] at hsl
   have Hof:=Lib.hid hof
   have Hrw:=Lib.hid hrw
   have HP0:=Lib.hid (And.intro lP sP)
   obtain ⟨w1,hw1⟩ : ∃ x,x = u:=⟨_,rfl⟩
   rw [← hw1] at HKW
   have hG1 : A4 w1 u:=hw1 ▸ A4.refl u
   clear hof hrw lP sP hLi hpm2 hcm hm hik hikb hQ0 hD hN1 hw1
   refine wp_seq ?_
   refine r0T ?_
   refine wp_cond_true (rfl) ?_
   refine wp_skip ?_
   refine A6 ?_
   refine wp_seq ?_
   refine wp_block ?_
   refine wp_seq (rdC K4 [] [(0,0),(0,1),(0,2),(0,3),(0,5),(0,6),(0,7),(0,8),(0,9),(0,10),(0,11),(0,12),(0,13),(1,4),(1,14),(0,15),(2,16)] hB hG fun K L hN hL=>?_)
   refine gs ?_
   refine grd (H6 Q0) (fun (x37 : Ax × Ax)=>?_) (C:=fun v _=>Hof.out _)
   refine gxd (X:=(Nat × Nat)) (fun x : Nat × Nat=>.slice (some ⟨x.1,0,none⟩) KW x.2) (fun x W=>KW ≤ x.2 ∧ Lzt W (some ⟨x.1,0,none⟩) P0) (fun x u u' hg h=>⟨h.1,h.2.grow hg⟩) (fun x47=>?_) (C:=by (rintro v ⟨⟨hgu,hB,hG,-⟩,hx37⟩;obtain ⟨hx37a,hx37b⟩ : Rn v x37.1 _ ∧ Rn v x37.2 _:=hx37;exact Hrw.out _ hG))
   refine gs ?_
   refine gaa (A7U _ _ _ _ _) fun b18 hb18 hn18=>?_
   replace hF:=hF.n1 [] hB hG hb18 hn18
   refine geC hL ?_
   clear hB hG hL L
   rintro u ⟨⟨⟨⟨hgu,hB,hG,-⟩,hx37⟩,hx47⟩,h18⟩
   replace hB:=hB.cons' h18
   clear h18
   obtain ⟨hx37a,hx37b⟩ : Rn u x37.1 _ ∧ Rn u x37.2 _:=hx37
   have hw18 : w1.heap.size ≤ b18:=Nat.le_trans hG1.size hb18
   replace hG1:=hG1.trans hgu
   clear hb18 hn18
   clear hgu
   refine gtT ?_
   clear hN K
   refine sv hB hF hG 0 0 [_,_,_,_] ?_
   intro u2 hu2 hBG
   replace hG1:=X4 hG1 hw18 hu2
   have hx47c:=hx47.1
   have HZ:=Lib.hid (hx47.2.put hB 0 rfl (by decide) (by decide) 0 _ hu2)
   have HR:=Lib.hid (A0x (hx37a.put hB 0 rfl (by decide) 0 _ hu2) (hx37b.put hB 0 rfl (by decide) 0 _ hu2))
   clear hB hG hu2 hx47 hx37a hx37b
   obtain ⟨hB,hG⟩:=hBG
   obtain ⟨u,rfl⟩ : ∃ x,x = u2:=⟨_,rfl⟩
   refine A4b fun Kj hKj=>?_
   go_cut [] from 49 to 58 (fun wx=>∃ (gW cW : Nat) (P : List Rat),P.length = KW ∧ (∀ y ∈ P,qs y ≤ 5) ∧ KW ≤ cW ∧ Lzt wx (some ⟨gW,0,none⟩) P ∧ Rz wx x37 Q0 ∧ A4 w1 wx ∧ Bx wx [(b18,82,#[.bool (E4 Q0.num),.slice x37.1.1 (ln Q0.num.natAbs) x37.1.2,.slice x37.2.1 (ln Q0.den) x37.2.2,.slice (some ⟨gW,0,none⟩) KW cW])] ∧ A4 w wx)
   case first =>
    rename_i Jj Kk hJj hMj
    by_cases hi0 : i = 0 ∧ y3 ≠ 0
    ·have fi : ((i : Int) == 0) = true:=by simp [hi0.1]
     have fi2 : decide (i = 0) = true:=by simp [hi0.1]
     have fy3 : (y3 != 0) = true:=by simp [hi0.2]
     have fy3d : decide (y3 = 0) = false:=by simp [hi0.2]
     clear hi0
     refine wp_seq (rsE K4 [0,0,0,0,1,0,0] hB hG fun L hL=>?_)
     refine gs ?_
     first | refine gmw (C:=fun v=>Hp3.out _) ?_ | refine H3 ?_
     refine gs ?_
     refine geT hL ?_
     clear hB hG hL L
     rintro u ⟨hgu,hB,hG,-⟩
     replace hG1:=hG1.trans hgu
     have HZ2:=Lib.hid (HZ.out.grow hgu)
     have HR2:=Lib.hid (HR.out.grow hgu)
     clear HZ HR
     have HZ:=HZ2
     have HR:=HR2
     clear HZ2 HR2
     clear hgu
     refine wp_cond_true (rfl) ?_
     refine rsC K4 [0,1,0] hB hG fun K L hN hL=>?_
     refine gs ?_
     refine gxd (X:=(Nat × Nat)) (fun x : Nat × Nat=>.slice (some ⟨x.1,0,none⟩) KW x.2) (fun x W=>KW ≤ x.2 ∧ Lzt W (some ⟨x.1,0,none⟩) PN) (fun x u u' hg h=>⟨h.1,h.2.grow hg⟩) (fun x57=>?_) (C:=fun v _=>Hnil.out _)
     refine gs ?_
     refine geC hL ?_
     clear hB hG hL L
     rintro u ⟨⟨hgu,hB,hG,-⟩,hx57⟩
     replace hG1:=hG1.trans hgu
     have HR2:=Lib.hid (HR.out.grow hgu)
     clear HZ HR
     have HR:=HR2
     clear HR2
     clear hgu
     refine gtT ?_
     clear hN K
     refine sv hB hF hG 0 3 [_] ?_
     intro u2 hu2 hBG
     replace hG1:=X4 hG1 hw18 hu2
     have hx57c:=hx57.1
     have HZ:=Lib.hid (hx57.2.put hB 0 rfl (by decide) (by decide) 3 _ hu2)
     have HR2:=Lib.hid (A0x (HR.out.1.put hB 0 rfl (by decide) 3 _ hu2) (HR.out.2.put hB 0 rfl (by decide) 3 _ hu2))
     clear hB hG hu2 hx57 HR
     have HR:=HR2
     clear HR2
     obtain ⟨hB,hG⟩:=hBG
     obtain ⟨u,rfl⟩ : ∃ x,x = u2:=⟨_,rfl⟩
     refine hMj _ _ (Met.intro (hJj _ _ ?_))
     repeat apply Exists.intro
     refine ⟨?rel,rfl⟩
     case rel =>
      exact ⟨x57.1,x57.2,PN,HNil.out.1,HNil.out.2,hx57c,HZ.out,HR.out,hG1,hB,hG⟩
    ·by_cases hi1 : i = 0
     ·have fi : ((i : Int) == 0) = true:=by simp [hi1]
      have fi2 : decide (i = 0) = true:=by simp [hi1]
      have fy3 : (y3 != 0) = false:=by simp;exact Decidable.not_not.1 fun h=>hi0 ⟨hi1,h⟩
      have fy3d : decide (y3 = 0) = true:=by simp;exact Decidable.not_not.1 fun h=>hi0 ⟨hi1,h⟩
      clear hi0 hi1
      refine wp_seq (rsE K4 [0,0,0,0,1,0,0] hB hG fun L hL=>?_)
      refine gs ?_
      first | refine gmw (C:=fun v=>Hp3.out _) ?_ | refine H3 ?_
      refine gs ?_
      refine geT hL ?_
      clear hB hG hL L
      rintro u ⟨hgu,hB,hG,-⟩
      replace hG1:=hG1.trans hgu
      have HZ2:=Lib.hid (HZ.out.grow hgu)
      have HR2:=Lib.hid (HR.out.grow hgu)
      clear HZ HR
      have HZ:=HZ2
      have HR:=HR2
      clear HZ2 HR2
      clear hgu
      refine wp_cond_false (rfl) ?_
      refine wp_skip ?_
      refine A6 ?_
      refine hMj _ _ (Met.intro (hJj _ _ ?_))
      repeat apply Exists.intro
      refine ⟨?rel,rfl⟩
      case rel =>
       exact ⟨x47.1,x47.2,P0,HP0.out.1,HP0.out.2,hx47c,HZ.out,HR.out,hG1,hB,hG⟩
     ·have fi : ((i : Int) == 0) = false:=by simp;omega
      have fi2 : decide (i = 0) = false:=by simp [hi1]
      clear hi0 hi1
      refine wp_seq (rsE K4 [0,0,0,0,1,0,0] hB hG fun L hL=>?_)
      refine gs ?_
      first | refine gmw (C:=fun v=>Hp3.out _) ?_ | refine H3 ?_
      refine gs ?_
      refine geT hL ?_
      clear hB hG hL L
      rintro u ⟨hgu,hB,hG,-⟩
      replace hG1:=hG1.trans hgu
      have HZ2:=Lib.hid (HZ.out.grow hgu)
      have HR2:=Lib.hid (HR.out.grow hgu)
      clear HZ HR
      have HZ:=HZ2
      have HR:=HR2
      clear HZ2 HR2
      clear hgu
      refine wp_cond_false (rfl) ?_
      refine wp_skip ?_
      refine A6 ?_
      refine hMj _ _ (Met.intro (hJj _ _ ?_))
      repeat apply Exists.intro
      refine ⟨?rel,rfl⟩
      case rel =>
       exact ⟨x47.1,x47.2,P0,HP0.out.1,HP0.out.2,hx47c,HZ.out,HR.out,hG1,hB,hG⟩
   case rest =>
    clear hB hG hG1 HZ HR hx47c HP0 Hrw Hof
    obtain ⟨gW,cW,P,hPl,hPs,hPc,hZ,hR,hG1,hB,hG⟩:=hcut
    obtain ⟨u,rfl⟩ : ∃ x,x = wc:=⟨_,rfl⟩
    have HP:=Lib.hid (And.intro hPl hPs)
    have HZ:=Lib.hid hZ
    have HR:=Lib.hid hR
    clear hPl hPs hZ hR
    refine hKj _ _ ?_
    clear hKj Kj
    refine A4b fun Kj hKj=>?_
    go_cut [] from 59 to 75 (fun wx=>∃ (pz : Az) (Q : Rat) (PA : Ax) (P : List Rat) (m : Nat),P.length = m ∧ m ≤ 3 ∧ (∀ y ∈ P,qs y ≤ 5) ∧ qs Q ≤ 50 ∧ Lzt wx PA.1 P ∧ Rz wx pz Q ∧ A4 w1 wx ∧ Bx wx [(b18,82,#[.bool (E4 Q.num),.slice pz.1.1 (ln Q.num.natAbs) pz.1.2,.slice pz.2.1 (ln Q.den) pz.2.2,.slice PA.1 m PA.2])] ∧ A4 w wx)
    case first =>
     rename_i Jj Kk hJj hMj
     by_cases hia : (i : Int) = y4
     ·have fa : ((i : Int) == y4) = true:=by simp [hia]
      have fad : decide ((i : Int) = y4) = true:=by simp [hia]
      clear hia
      by_cases hy1 : y3 = 1
      ·have f1 : (y3 == 1) = true:=by simp [hy1]
       have f1d : decide (y3 = 1) = true:=by simp [hy1]
       clear hy1
       refine wp_seq (rsE K4 [0,0,1,0] hB hG fun L hL=>?_)
       refine gs ?_
       refine gmw (C:=fun v=>Hp4.out _) ?_
       refine gs ?_
       refine geT hL ?_
       clear hB hG hL L
       rintro u ⟨hgu,hB,hG,-⟩
       replace hG1:=hG1.trans hgu
       have HZ2:=Lib.hid (HZ.out.grow hgu)
       have HR2:=Lib.hid (HR.out.grow hgu)
       clear HZ HR
       have HZ:=HZ2
       have HR:=HR2
       clear HZ2 HR2
       clear hgu
       refine wp_cond_true (rfl) ?_
       refine wp_seq (rsE K4 [0,1] hB hG fun L hL=>?_)
       refine gs ?_
       refine gmw (C:=fun v=>Hp3.out _) ?_
       refine geT hL ?_
       clear hB hG hL L
       rintro u ⟨hgu,hB,hG,-⟩
       replace hG1:=hG1.trans hgu
       have HZ2:=Lib.hid (HZ.out.grow hgu)
       have HR2:=Lib.hid (HR.out.grow hgu)
       clear HZ HR
       have HZ:=HZ2
       have HR:=HR2
       clear HZ2 HR2
       clear hgu
       refine wp_block ?_
       refine r0T ?_
       refine wp_cond_true (rfl) ?_
       refine rsC K4 [0,1,0] hB hG fun K L hN hL=>?_
       refine gs ?_
       refine grd (H6 s) (fun (x68 : Ax × Ax)=>?_) (C:=fun v _=>Hr.out _)
       refine gs ?_
       refine geC hL ?_
       clear hB hG hL L
       rintro u ⟨⟨hgu,hB,hG,-⟩,hx68⟩
       obtain ⟨hx68a,hx68b⟩ : Rn u x68.1 _ ∧ Rn u x68.2 _:=hx68
       replace hG1:=hG1.trans hgu
       have HZ2:=Lib.hid (HZ.out.grow hgu)
       clear HZ HR
       have HZ:=HZ2
       clear HZ2
       clear hgu
       refine gt ?_
       clear hN K
       refine sv hB hF hG 0 0 [_,_,_] ?_
       intro u2 hu2 hBG
       replace hG1:=X4 hG1 hw18 hu2
       have HZ2:=Lib.hid (HZ.out.put hB 0 rfl (by decide) (by decide) 0 _ hu2)
       have HR:=Lib.hid (A0x (hx68a.put hB 0 rfl (by decide) 0 _ hu2) (hx68b.put hB 0 rfl (by decide) 0 _ hu2))
       clear hB hG hu2 hx68a hx68b HZ
       have HZ:=HZ2
       clear HZ2
       obtain ⟨hB,hG⟩:=hBG
       obtain ⟨u,rfl⟩ : ∃ x,x = u2:=⟨_,rfl⟩
       refine D4 ?_
       refine A6 ?_
       refine hMj _ _ (Met.intro (hJj _ _ ?_))
       repeat apply Exists.intro
       refine ⟨?rel,rfl⟩
       case rel =>
        exact ⟨x68,s,(some ⟨gW,0,none⟩,cW),P,KW,HP.out.1,hK3,HP.out.2,by omega,HZ.out,HR.out,hG1,hB,hG⟩
      ·have f1 : (y3 == 1) = false:=by simp [hy1]
       have f1d : decide (y3 = 1) = false:=by simp [hy1]
       by_cases hy2 : y3 = 2
       ·have f2 : (y3 == 2) = true:=by simp [hy2]
        have f2d : decide (y3 = 2) = true:=by simp [hy2]
        obtain ⟨A2,hs2,hz2⟩:=A9C gW KW cW P HP.out.1 hK1 hPc
        obtain ⟨K2,hK2⟩ : ∃ x,x = KW - 1:=⟨_,rfl⟩
        obtain ⟨c2,hc2⟩ : ∃ x,x = cW - 1:=⟨_,rfl⟩
        simp only [← hK2,← hc2] at hs2
        have Hz2:=Lib.hid hz2
        have HK2:=Lib.hid hK2
        clear hy1 hy2 hz2 hK2 hc2
        refine wp_seq (rsE K4 [0,0,1,0] hB hG fun L hL=>?_)
        refine gs ?_
        refine gmw (C:=fun v=>Hp4.out _) ?_
        refine gs ?_
        refine geT hL ?_
        clear hB hG hL L
        rintro u ⟨hgu,hB,hG,-⟩
        replace hG1:=hG1.trans hgu
        have HZ2:=Lib.hid (HZ.out.grow hgu)
        have HR2:=Lib.hid (HR.out.grow hgu)
        clear HZ HR
        have HZ:=HZ2
        have HR:=HR2
        clear HZ2 HR2
        clear hgu
        refine wp_cond_true (rfl) ?_
        refine wp_seq (rsE K4 [0,1] hB hG fun L hL=>?_)
        refine gs ?_
        refine gmw (C:=fun v=>Hp3.out _) ?_
        refine geT hL ?_
        clear hB hG hL L
        rintro u ⟨hgu,hB,hG,-⟩
        replace hG1:=hG1.trans hgu
        have HZ2:=Lib.hid (HZ.out.grow hgu)
        have HR2:=Lib.hid (HR.out.grow hgu)
        clear HZ HR
        have HZ:=HZ2
        have HR:=HR2
        clear HZ2 HR2
        clear hgu
        refine wp_block ?_
        refine r0T ?_
        refine wp_cond_false (rfl) ?_
        refine r0T ?_
        refine wp_cond_true (rfl) ?_
        refine r0E ?_
        refine sv hB hF hG 0 3 [_] ?_
        intro u2 hu2 hBG
        replace hG1:=X4 hG1 hw18 hu2
        have HZ2:=Lib.hid ((Hz2.out _ HZ.out).put hB 0 rfl (by decide) (by decide) 3 _ hu2)
        have HR2:=Lib.hid (A0x (HR.out.1.put hB 0 rfl (by decide) 3 _ hu2) (HR.out.2.put hB 0 rfl (by decide) 3 _ hu2))
        clear hB hG hu2 HZ HR
        have HZ:=HZ2
        have HR:=HR2
        clear HZ2 HR2
        obtain ⟨hB,hG⟩:=hBG
        obtain ⟨u,rfl⟩ : ∃ x,x = u2:=⟨_,rfl⟩
        refine D4 ?_
        refine A6 ?_
        refine hMj _ _ (Met.intro (hJj _ _ ?_))
        repeat apply Exists.intro
        refine ⟨?rel,rfl⟩
        case rel =>
         exact ⟨x37,Q0,(A2,c2),P.drop 1,K2,by rw [List.length_drop,HP.out.1,HK2.out],by have := HK2.out;omega,fun y hy=>HP.out.2 y (List.mem_of_mem_drop hy),by omega,HZ.out,HR.out,hG1,hB,hG⟩
       ·have f2 : (y3 == 2) = false:=by simp [hy2]
        have f2d : decide (y3 = 2) = false:=by simp [hy2]
        clear hy1 hy2
        refine wp_seq (rsE K4 [0,0,1,0] hB hG fun L hL=>?_)
        refine gs ?_
        refine gmw (C:=fun v=>Hp4.out _) ?_
        refine gs ?_
        refine geT hL ?_
        clear hB hG hL L
        rintro u ⟨hgu,hB,hG,-⟩
        replace hG1:=hG1.trans hgu
        have HZ2:=Lib.hid (HZ.out.grow hgu)
        have HR2:=Lib.hid (HR.out.grow hgu)
        clear HZ HR
        have HZ:=HZ2
        have HR:=HR2
        clear HZ2 HR2
        clear hgu
        refine wp_cond_true (rfl) ?_
        refine wp_seq (rsE K4 [0,1] hB hG fun L hL=>?_)
        refine gs ?_
        refine gmw (C:=fun v=>Hp3.out _) ?_
        refine geT hL ?_
        clear hB hG hL L
        rintro u ⟨hgu,hB,hG,-⟩
        replace hG1:=hG1.trans hgu
        have HZ2:=Lib.hid (HZ.out.grow hgu)
        have HR2:=Lib.hid (HR.out.grow hgu)
        clear HZ HR
        have HZ:=HZ2
        have HR:=HR2
        clear HZ2 HR2
        clear hgu
        refine wp_block ?_
        refine r0T ?_
        refine wp_cond_false (rfl) ?_
        refine r0T ?_
        refine wp_cond_false (rfl) ?_
        refine wp_skip ?_
        refine D4 ?_
        refine A6 ?_
        refine hMj _ _ (Met.intro (hJj _ _ ?_))
        repeat apply Exists.intro
        refine ⟨?rel,rfl⟩
        case rel =>
         exact ⟨x37,Q0,(some ⟨gW,0,none⟩,cW),P,KW,HP.out.1,hK3,HP.out.2,by omega,HZ.out,HR.out,hG1,hB,hG⟩
     ·have fa : ((i : Int) == y4) = false:=by simp [hia]
      have fad : decide ((i : Int) = y4) = false:=by simp [hia]
      clear hia
      refine wp_seq (rsE K4 [0,0,1,0] hB hG fun L hL=>?_)
      refine gs ?_
      refine gmw (C:=fun v=>Hp4.out _) ?_
      refine gs ?_
      refine geT hL ?_
      clear hB hG hL L
      rintro u ⟨hgu,hB,hG,-⟩
      replace hG1:=hG1.trans hgu
      have HZ2:=Lib.hid (HZ.out.grow hgu)
      have HR2:=Lib.hid (HR.out.grow hgu)
      clear HZ HR
      have HZ:=HZ2
      have HR:=HR2
      clear HZ2 HR2
      clear hgu
      refine wp_cond_false (rfl) ?_
      refine wp_skip ?_
      refine A6 ?_
      refine hMj _ _ (Met.intro (hJj _ _ ?_))
      repeat apply Exists.intro
      refine ⟨?rel,rfl⟩
      case rel =>
       exact ⟨x37,Q0,(some ⟨gW,0,none⟩,cW),P,KW,HP.out.1,hK3,HP.out.2,by omega,HZ.out,HR.out,hG1,hB,hG⟩
    case rest =>
     clear hB hG hG1 HZ HR HP hPc
     obtain ⟨pz,Q,PA,P2,m2,hPl,hm3,hPs,hQs,hZ,hR,hG1,hB,hG⟩:=hcut
     obtain ⟨u,rfl⟩ : ∃ x,x = wc:=⟨_,rfl⟩
     have HP:=Lib.hid (And.intro hPl hPs)
     have HKX:=Lib.hid (HKW.out.grow hG1)
     have HNX:=Lib.hid (And.intro hR hZ)
     have hne : u15.ownBlock ≠ some b18:=A1g HKW.out.o hw18
     have Ho:=Lib.hid HKX.out.o
     clear hPl hPs hZ hR HKW hG1 hw18
     refine hKj _ _ ?_
     clear hKj Kj
     refine wp_seq ?_
     refine T0 (w:=w) K4 2 [0,0] (by kernel_rfl) (by simp only [List.drop_succ_cons,List.drop_zero];exact rfl) (fun _=>True) noG hB hG trivial ?_
     intro K L hN hL
     simp only [List.zip_cons_cons,List.zip_nil_left]
     refine gs ?_
     refine I3 ?_
     rintro v ⟨hgu,hB1,hG1,-⟩
     have ROWn:=Lib.hid (C9 Ho.out hgu)
     clear Ho
     have Ho:=ROWn
     clear ROWn
     have HKX2:=Lib.hid (HKX.out.grow hgu)
     have HNX2:=Lib.hid (And.intro (HNX.out.1.grow hgu) (HNX.out.2.grow hgu))
     clear HKX HNX
     have HKX:=HKX2
     have HNX:=HNX2
     clear HKX2 HNX2
     clear hB hG
     have hB:=hB1
     have hG:=hG1
     clear hB1 hG1
     refine hL _ _ ?_
     clear hL L hgu
     obtain ⟨u,rfl⟩ : ∃ x,x = v:=⟨_,rfl⟩
     refine S7 A9h w.heap.size _ _ _ _ (kzL (pz,Q,PA,P2)) rfl rfl (B1u pz Q PA P2 m2 HP.out.1 u) rfl (fun _=>rfl) (fun _=>rfl) (fun _ _=>rfl) Ho.out (by omega) (by omega) hG.sz fun p v' w' g1 g2 g3=>?_
     have hBn:=(hB.grow (A4.alloc u _)).grown_ g2 (fun x hx hxe=>by
      simp only [List.mem_cons,List.not_mem_nil,or_false] at hx
      subst hx
      exact hne hxe.symm)
     have HKY:=Lib.hid (HKX.out.addO (x:=(pz,Q,PA,P2)) HNX.out g1 g2)
     clear HKX HNX hne
     have hGn:=S6 Ho.out hG g2
     clear Ho hB hG
     have Ho:=Lib.hid g1
     have hB:=hBn
     have hG:=hGn
     clear g1 g2 g3 hBn hGn
     obtain ⟨u,rfl⟩ : ∃ x,x = w':=⟨_,rfl⟩
     simp only [Act.put,List.setIfInBounds_toArray,List.set_cons_succ,List.set_cons_zero]
     refine NoK.norm (hN _ _ ?_)
     clear hN K
     have Hp:=Lib.hid HKY.out.p
     clear Ho
     refine A6 ?_
     refine A1c (w:=w) K4 8 [0] [(0,0),(0,1),(0,2),(0,4),(0,5),(1,3),(1,6),(0,7)] (by kernel_rfl) (by kernel_rfl) (by simp only [List.drop_succ_cons,List.drop_zero];exact rfl) (fun _=>True) noG hB hG trivial ?_
     intro K L hN hL
     simp only [G1,List.getElem?_toArray,List.getElem?_cons_zero,List.getElem?_cons_succ]
     refine gs ?_
     refine gmd (C:=fun v ⟨hgu,hB,hG,_⟩=>A4t pz.1 pz.2 Q _ (HKY.out.new.1.a.grow hgu) (HKY.out.new.1.b.grow hgu) (by omega) (HT.grow hG)) ?_
     refine gxd (X:=Ax) (fun x : Ax=>.slice x.1 m2 x.2) (fun x W=>Lqt W x.1 P2) (fun x u u' hg h=>Lqt.grow h hg) (fun x86=>?_) (C:=by (rintro v ⟨hgu,hB,hG,-⟩;exact B3B PA.1 P2 PA.2 m2 HP.out.1.symm (by omega) (fun y hy=>Nat.le_trans (HP.out.2 y hy) (by omega)) _ (HKY.out.new.2.lz.grow hgu) (HT.grow hG)))
     refine gs ?_
     refine I3 ?_
     rintro v ⟨⟨hgu,hB1,hG1,-⟩,hx86⟩
     have ROWn:=Lib.hid (C9 Hp.out hgu)
     clear Hp
     have Hp:=ROWn
     clear ROWn
     have HKY2:=Lib.hid (HKY.out.grow hgu)
     clear HKY
     have HKY:=HKY2
     clear HKY2
     clear hB hG
     have hB:=hB1
     have hG:=hG1
     clear hB1 hG1
     refine hL _ _ ?_
     clear hL L hgu
     obtain ⟨u,rfl⟩ : ∃ x,x = v:=⟨_,rfl⟩
     refine S7 B0p w.heap.size _ _ _ _ (kqL (Q,x86,P2)) rfl rfl (B2f Q x86 P2 m2 HP.out.1 u) rfl (fun _=>rfl) (fun _=>rfl) (fun _ _=>rfl) Hp.out (by omega) (by omega) hG.sz fun p v' w' g1 g2 g3=>?_
     have hBn:=A5Q Hp.out hB (by simp) g2
     have HKZ:=Lib.hid (HKY.out.addP (y:=(Q,x86,P2)) hx86 rfl ⟨hQs,by rw [HP.out.1];exact hm3,HP.out.2⟩ g1 g2)
     clear HKY
     have hGn:=S6 Hp.out hG g2
     clear Hp hB hG
     have Hp:=Lib.hid g1
     have hB:=hBn
     have hG:=hGn
     clear g1 g2 g3 hBn hGn
     obtain ⟨u,rfl⟩ : ∃ x,x = w':=⟨_,rfl⟩
     simp only [Act.put,List.setIfInBounds_toArray,List.set_cons_succ,List.set_cons_zero]
     refine NoK.norm (hN _ _ ?_)
     clear hN K
     refine D4 ?_
     refine A6 ?_
     refine r0E ?_
     refine A6 ?_
     go_roundw
     case rel=>exact ⟨i + 1,_,_,by omega,by go_num,HKZ.out,hG⟩
     case measure=>simp [intOf];omega
  ·obtain rfl : N = i:=by omega
   have hdec : decide ((N : Int) < (N : Int)) = false:=by simp
   refine wp_seq ?_
   refine r0T ?_
   refine wp_cond_false (rfl) ?_
   refine wp_exit ?_
   refine B6 ?_
   refine B6 ?_
   refine E6 ?_
   refine A6 ?_
   refine wp_seq ?_
   obtain ⟨w1,hw1⟩ : ∃ x,x = u:=⟨_,rfl⟩
   rw [← hw1] at HKW
   have hG1 : A4 w1 u:=hw1 ▸ A4.refl u
   clear hw1
   refine rsC K4 [0,1,2] hB hG fun K L hN hL=>?_
   refine gs ?_
   refine grd (H6 s) (fun (x91 : Ax × Ax)=>?_) (C:=fun v _=>Hr.out _)
   refine gaa (A3p _ _ _ _ _) fun b19 hb19 hn19=>?_
   replace hF:=hF.n1 [] hB hG hb19 hn19
   refine geC hL ?_
   clear hB hG hL L
   rintro u ⟨⟨⟨hgu,hB,hG,-⟩,hx91⟩,h19⟩
   replace hB:=hB.cons' h19
   clear h19
   obtain ⟨hx91a,hx91b⟩ : Rn u x91.1 _ ∧ Rn u x91.2 _:=hx91
   have hw19 : w1.heap.size ≤ b19:=Nat.le_trans hG1.size hb19
   replace hG1:=hG1.trans hgu
   clear hb19 hn19
   clear hgu
   refine gtT ?_
   clear hN K
   refine sv hB hF hG 0 0 [_,_,_] ?_
   intro u2 hu2 hBG
   replace hG1:=X4 hG1 hw19 hu2
   have HR:=Lib.hid (A0x (hx91a.put hB 0 rfl (by decide) 0 _ hu2) (hx91b.put hB 0 rfl (by decide) 0 _ hu2))
   clear hB hG hu2 hx91a hx91b
   obtain ⟨hB,hG⟩:=hBG
   obtain ⟨u,rfl⟩ : ∃ x,x = u2:=⟨_,rfl⟩
   have HKX:=Lib.hid (HKW.out.grow hG1)
   have HBK:=Lib.hid (A7W hB.head)
   clear HKW hG1 hw19
   have HG0:=Lib.hid hG
   clear hB hF hG
   obtain ⟨w0,rfl⟩ : ∃ x,x = w:=⟨_,rfl⟩
   obtain ⟨w,hwu⟩ : ∃ x,x = u:=⟨_,rfl⟩
   rw [← hwu] at HG0 HKX HR HBK
   have hB:=Bx.nil u
   have hF:=Fr.nil w
   have hG : A4 w u:=hwu ▸ A4.refl u
   clear hwu
   obtain ⟨Ao,co,Ap,cp,e1,e2,hlz,hlq⟩:=HKX.out.both
   subst e1 e2
   have HT':=HT.grow HG0.out
   obtain ⟨e,kr,ls,PL,c1,c2,c3,td⟩:=B4V (c:=co) (c':=cp) (by omega) HKX.out.lz HKX.out.lq HKX.out.same HKX.out.small zsz hlz hlq HR.out HT'
   have C1:=Lib.hid c1
   have C2:=Lib.hid c2
   have C3:=Lib.hid c3
   have TD:=Lib.hid td
   have fee : (e != e) = false:=by simp
   clear HKX hlz hlq c1 c2 c3 td HT hge hi hdec
   have HT:=HT'
   clear HT'
   refine wp_seq (rsE K4 [0,0,1,1,0,0,0,0,0] hB hG fun L hL=>?_)
   repeat first | refine gya ?_ | refine gyr ?_ | refine gna ?_ | refine gyb (by (rintro v ⟨hgu,hB,hG,-⟩ N hN;have r:=hB.r;simp only [BxR] at r;obtain ⟨k1,k2,k3⟩:=HBK.out v hG;go_simp;exact hN)) ?_
   refine gmd (C:=fun v ⟨hgu,hB,hG,_⟩=>A4t x91.1 x91.2 s _ (HR.out.1.grow hG) (HR.out.2.grow hG) szB (HT.grow hG)) ?_
   refine gxd (X:=Ax) (fun x : Ax=>.tuple #[.slice x.1 ls x.2,.int .i64 kr]) (fun x W=>Lq W x.1 PL) (fun x u u' hg h=>Lq.grow h hg) (fun x96=>?_) (C:=by (rintro v ⟨hgu,hB,hG,-⟩;exact C3.out _ hG))
   refine gs ?_
   refine geT hL ?_
   clear hB hG hL L
   rintro u ⟨⟨-,hB,hG,-⟩,hx96⟩
   refine wp_seq (rsE K4 [0,1,0] hB hG fun L hL=>?_)
   refine gs ?_
   refine gmd (C:=fun v ⟨hgu,hB,hG,_⟩=>C2.out _ hG) ?_
   refine gs ?_
   refine geT hL ?_
   clear hB hG hL L
   rintro u ⟨hgu,hB,hG,-⟩
   replace hx96:=hx96.grow hgu
   clear hgu
   refine wp_seq ?_
   refine wp_seq (rsE K4 [1,0,0,0,1,0,0,0] hB hG fun L hL=>?_)
   refine gmd (C:=fun v ⟨hgu,hB,hG,_⟩=>B4A _ (HT.grow hG)) ?_
   refine gs ?_
   first | refine gmd (C:=fun v ⟨hgu,hB,hG,_⟩=>C1.out _ hG) ?_ | refine H3 ?_
   refine gs ?_
   refine geT hL ?_
   clear hB hG hL L
   rintro u ⟨hgu,hB,hG,-⟩
   replace hx96:=hx96.grow hgu
   clear hgu
   refine wp_cond_false (rfl) ?_
   refine wp_skip ?_
   refine A6 ?_
   refine wp_seq ?_
   rcases TD.out with ⟨hb,t1,t2⟩ | ⟨he0,hs0,t1,hPl,hl20,hPs,hop⟩
   ·by_cases he : e = 0
    ·have fe : (e != 0) = false:=by simp [he]
     have fed : decide (e = 0) = true:=by simp [he]
     have fs : decide (sg < 0) = true:=by
      rcases hb with h | h
      ·exact absurd he h
      ·rw [Hsn.out.1.2 h];rfl
     clear TD hb he
     subst t1 t2
     refine wp_seq (rsE K4 [0,0,0,0,1,0,0] hB hG fun L hL=>?_)
     repeat first | refine gya ?_ | refine gyr ?_ | refine gna ?_ | refine gyb (by (rintro v ⟨hgu,hB,hG,-⟩ N hN;have r:=hB.r;simp only [BxR] at r;obtain ⟨k1,k2,k3⟩:=HBK.out v hG;go_simp;exact hN)) ?_
     first | refine gmw (C:=fun v=>Hsg.out _ x91) ?_ | refine H3 ?_
     refine gs ?_
     refine geT hL ?_
     clear hB hG hL L
     rintro u ⟨hgu,hB,hG,-⟩
     replace hx96:=hx96.grow hgu
     clear hgu
     refine wp_cond_true (rfl) ?_
     refine r0T ?_
     refine rt Tryz.results6 ?_
     exact ⟨rfl,HG0.out.trans hG⟩
    ·have fe : (e != 0) = true:=by simp [he]
     have fed : decide (e = 0) = false:=by simp [he]
     clear TD hb he
     subst t1 t2
     refine wp_seq (rsE K4 [0,0,0,0,1,0,0] hB hG fun L hL=>?_)
     repeat first | refine gya ?_ | refine gyr ?_ | refine gna ?_ | refine gyb (by (rintro v ⟨hgu,hB,hG,-⟩ N hN;have r:=hB.r;simp only [BxR] at r;obtain ⟨k1,k2,k3⟩:=HBK.out v hG;go_simp;exact hN)) ?_
     first | refine gmw (C:=fun v=>Hsg.out _ x91) ?_ | refine H3 ?_
     refine gs ?_
     refine geT hL ?_
     clear hB hG hL L
     rintro u ⟨hgu,hB,hG,-⟩
     replace hx96:=hx96.grow hgu
     clear hgu
     refine wp_cond_true (rfl) ?_
     refine r0T ?_
     refine rt Tryz.results6 ?_
     exact ⟨rfl,HG0.out.trans hG⟩
   ·have fs : decide (sg < 0) = false:=by
     have h4:=Hsn.out
     rcases h4.2 with e | e | e
     ·rw [e];rfl
     ·exact absurd (h4.1.1 e) hs0
     ·rw [e];rfl
    have Hop:=Lib.hid hop
    have HPs:=Lib.hid (And.intro hPl hPs)
    clear TD hs0 hPl hPs hop
    subst t1 he0
    refine wp_seq (rsE K4 [0,0,0,0,1,0,0] hB hG fun L hL=>?_)
    repeat first | refine gya ?_ | refine gyr ?_ | refine gna ?_ | refine gyb (by (rintro v ⟨hgu,hB,hG,-⟩ N hN;have r:=hB.r;simp only [BxR] at r;obtain ⟨k1,k2,k3⟩:=HBK.out v hG;go_simp;exact hN)) ?_
    first | refine gmw (C:=fun v=>Hsg.out _ x91) ?_ | refine H3 ?_
    refine gs ?_
    refine geT hL ?_
    clear hB hG hL L
    rintro u ⟨hgu,hB,hG,-⟩
    replace hx96:=hx96.grow hgu
    clear hgu
    refine wp_cond_false (rfl) ?_
    refine wp_skip ?_
    refine A6 ?_
    refine wp_seq (rsE K4 [0,0,0,0,0,0,1,1,0,0] hB hG fun L hL=>?_)
    repeat first | refine gya ?_ | refine gyr ?_ | refine gna ?_ | refine gyb (by (rintro v ⟨hgu,hB,hG,-⟩ N hN;have r:=hB.r;simp only [BxR] at r;obtain ⟨k1,k2,k3⟩:=HBK.out v hG;go_simp;exact hN)) ?_
    refine gxd (X:=Ax) (fun x : Ax=>.slice x.1 ls x.2) (fun x W=>Lz W x.1 PL) (fun x u u' hg h=>Lz.grow h hg) (fun x129=>?_) (C:=by (rintro v ⟨hgu,hB,hG,-⟩;exact Hop.out _ hG))
    first | refine gmd (C:=fun v ⟨⟨hgu,hB,hG,_⟩,hx129⟩=>B3k x96.1 x129.1 PL ls x96.2 x129.2 HPs.out.1 (by omega) HPs.out.2 _ (hx96.grow hgu) hx129) ?_ | refine H3 ?_
    refine gs ?_
    refine geT hL ?_
    clear hB hG hL L
    rintro u ⟨⟨hgu,hB,hG,-⟩,hx129⟩
    replace hx96:=hx96.grow hgu
    clear hgu
    refine rt Tryz.results6 ?_
    exact ⟨rfl,HG0.out.trans hG⟩
end Go.Proofs.YtgpglgbcobeogaaGreatDoor
