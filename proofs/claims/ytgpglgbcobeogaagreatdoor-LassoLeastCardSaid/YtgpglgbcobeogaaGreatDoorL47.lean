import Derived.Test.YtgpglgbcobeogaaGreatDoorL46
set_option linter.unusedSimpArgs false
set_option linter.unusedVariables false
set_option maxHeartbeats 4000000
set_option maxRecDepth 100000
namespace Go.Proofs.YtgpglgbcobeogaaGreatDoor
open Go Go.RowKit
def A2b:List (List Rat):=[[B9 1],[B9 1]]
def knY:List Rat:=[B9 3,B9 1]
def knG:List (List Rat):=J3 A2b 2 1
def knP:List Rat:=I1 A2b knY 2 1
def knF(k:Nat):List Rat:=Y8 knG knP (F6 1 k) 1
def knB(k:Nat):List Rat:=Y5 knG (F6 1 k) 1
def knL(k:Nat):List Lm:=Z8 knG knP (knF k) (knB k) (F6 1 k) 1 1
theorem B26:A4d A2b knY 2 1=I0 4 1:=by decide +kernel
theorem B1V:(C0 2 1 (D7 A2b,[]) 1).2.length=1:=by decide +kernel
theorem B1S:M6 (knF 2) (knB 2) 1 (B9 2)=[I0 1 1]:=by decide +kernel
theorem A5G:J8 (B9 2) (knL 2)=true/\J8 (B9 2) (knL 0)=false/\J8 (B9 2) (knL 1)=false:=by decide +kernel
theorem B4K:∀k,k<3->(1<=(F8 (F6 1 k) 1).length->(C0 (F8 (F6 1 k) 1).length ((F8 (F6 1 k) 1).length+1) (D7 (aug (M8 knG (F8 (F6 1 k) 1)) (N3 knP (F8 (F6 1 k) 1)) (F8 (F6 1 k) 1).length),[]) ((F8 (F6 1 k) 1).length+1)).2=List.range (F8 (F6 1 k) 1).length):=by decide +kernel
theorem B70:∀k,k<3->(1<=(F8 (F6 1 k) 1).length->(C0 (F8 (F6 1 k) 1).length ((F8 (F6 1 k) 1).length+1) (D7 (aug (M8 knG (F8 (F6 1 k) 1)) (N6 (F6 1 k) (F8 (F6 1 k) 1)) (F8 (F6 1 k) 1).length),[]) ((F8 (F6 1 k) 1).length+1)).2=List.range (F8 (F6 1 k) 1).length):=by decide +kernel
theorem A5F:∀k,k<3->(knF k).length=1/\(knB k).length=1/\(knL k).length<=1000/\qs (gq (knF k) 0)<=50/\qs (gq (knB k) 0)<=50/\(knL k).all (λx=>decide (qs x.1<=50)&&decide (qs x.2<=50))=true/\(F6 1 k).length=1 /\ -1<=gi (F6 1 k) 0/\gi (F6 1 k) 0<=1:=by decide +kernel
theorem A5d:knG.length=1/\(knG.all λr=>decide (r.length=1))=true/\knP.length=1/\qs (gq (B6 knG 0) 0)<=50/\qs (gq knP 0)<=50/\qs (gq (B6 A2b 0) 0)<=50/\qs (gq (B6 A2b 1) 0)<=50/\qs (gq knY 0)<=50/\qs (gq knY 1)<=50/\qs (B9 2)<=50:=by decide +kernel
theorem B1R(w:World)(rs:List Rq)(h:∀r∈rs,Lq w r.1 r.2.2):Lrq (w.alloc (.cells (rs.map λr=>Value.slice r.1 r.2.2.length r.2.1).toArray 35)) (some ⟨w.heap.size,0,none⟩) rs:=λ_ =>
 ⟨w.heap.size,0,rfl,by rw[I7];omega,λi r hi=>⟨by
  rw[Nat.zero_add,Blk.cell (Blk.new w 35 _) i]
  simp[hi],(h r (B8J hi)).grow (A4.alloc _ _)⟩⟩
theorem A9W(n d:Int)(h0:0<=n)(h1:n<=4)(h2:d=1)(hz:qs (I0 n d)<=10)(W:World):Calls Tryz.prog 52 #[qV (I0 n d),.int .i64 n,.int .i64 d] W λe w'=>e = .returned (.bool true)/\A4 W w' :=
 B7i n d (by omega) (by omega) (by omega) (by omega) (by omega) (B8K hz (by unfold LIM;omega)) W
theorem B6M(k:Nat)(hk:k<3):A2z 1 knG knP (F6 1 k) (knF k) (knB k) (knL k):=by
 obtain⟨h1,h2,h3,h4,h5,h6,h7,h8,h9⟩:=A5F k hk;obtain⟨g1,g2,g3,g4,g5,-⟩:=A5d;have e0:∀i,i<1->i=0:=λi hi=>by omega
 exact A8D 1 (by omega) (by omega) knG knP (F6 1 k) g1 (λr hr=>by
  have:=List.all_eq_true.1 g2 r hr
  simpa using this) g3 h7 (λi hi=>by rw[e0 i hi];exact⟨h8,h9⟩) 50 (by omega) (λi hi j hj=>by rw[e0 i hi,e0 j hj];exact g4) (λi hi=>by rw[e0 i hi];exact g5) (by unfold BIG;omega) (B4K k hk) (B70 k hk)
theorem B60(A Y:Option Addr)(x y:Ax)(W:World)(h:Lrq W A [(x.1,x.2,[B9 1]),(y.1,y.2,[B9 1])])(h2:Lq W Y knY)(HT:Tab W):Calls Tryz.prog 35 #[.slice A 2 2,.slice Y 2 2] W λe w'=>e = .returned (.tuple #[qV (I0 4 1),.int .i64 0])/\A4 W w':=by
 obtain⟨-,-,-,-,-,g6,g7,g8,g9,-⟩:=A5d
 have h3:=B6P A Y [(x.1,x.2,[B9 1]),(y.1,y.2,[B9 1])] knY 2 1 2 2 rfl (by omega) (by omega) (λr hr=>by
  simp only[List.mem_cons,List.not_mem_nil,or_false]at hr;rcases hr with rfl|rfl<;>rfl) rfl (by omega) (by omega) 50 (by omega) (by omega) (λi hi j hj=>by
  obtain rfl:j=0:=by omega
  have:i=0\/i=1:=by omega
  rcases this with rfl|rfl
  ·exact g6
  ·exact g7) (λi hi=>by
  have:i=0\/i=1:=by omega
  rcases this with rfl|rfl
  ·exact g8
  ·exact g9) W h h2 HT
 have e:A4d ([(x.1,x.2,[B9 1]),(y.1,y.2,[B9 1])].map (·.2.2)) knY 2 1=I0 4 1:=B26;rw[e]at h3;exact h3
theorem B7H(A:Option Addr)(Y:Ax)(x y:Ax)(W:World)(h:Lrq W A [(x.1,x.2,[B9 1]),(y.1,y.2,[B9 1])])(h2:Lq W Y.1 knY)(HT:Tab W):Calls Tryz.prog 14 #[.slice A 2 2,.slice Y.1 2 Y.2,qV (B9 2)] W (E9 (λx:Ax=>.tuple #[.slice x.1 1 x.2,.int .i64 0]) (λx W=>Lq W x.1 [I0 1 1]) W):=by
 obtain⟨-,-,-,-,-,g6,g7,g8,g9,g10⟩:=A5d
 have h3:=A77 A [(x.1,x.2,[B9 1]),(y.1,y.2,[B9 1])] 2 1 2 Y knY rfl (by omega) (by omega) (by omega) (by omega) (λr hr=>by
  simp only[List.mem_cons,List.not_mem_nil,or_false]at hr;rcases hr with rfl|rfl<;>rfl) rfl 50 (by omega) (by omega) (λi hi j hj=>by
  obtain rfl:j=0:=by omega
  have:i=0\/i=1:=by omega
  rcases this with rfl|rfl
  ·exact g6
  ·exact g7) (λi hi=>by
  have:i=0\/i=1:=by omega
  rcases this with rfl|rfl
  ·exact g8
  ·exact g9) (B9 2) (by decide +kernel) B1V knF knB knL 50 g10 (by unfold BIG;omega) (λk hk=>by
  obtain⟨h1,h2,h3,-⟩:=A5F k hk;exact⟨h1,h2,h3⟩) (λk hk=>by
  obtain⟨h1,h2,h3,h4,h5,h6,-⟩:=A5F k hk;refine⟨λi hi=>?_,λi hi=>?_,λx hx=>?_⟩
  ·obtain rfl:i=0:=by omega
   exact h4
  ·obtain rfl:i=0:=by omega
   exact h5
  ·have:=List.all_eq_true.1 h6 x hx
   simpa using this) (λk hk=>B6M k hk) 2 (by decide) A5G.1 (λj hj=>by
  have:j=0\/j=1:=by omega
  rcases this with rfl|rfl
  ·exact A5G.2.1
  ·exact A5G.2.2) W h h2 HT
 rw[B1S]at h3;exact h3
theorem A44(w:World)(HT:Tab w):Calls Tryz.prog 19 #[] w λe w'=>e = .returned (.bool true)/\A4 w w':=by
 have z41:qs (I0 4 1)<=10:=by decide +kernel
 have z11:qs (I0 1 1)<=10:=by decide +kernel
 go_enter Tryz.func19,Tryz.ntmps19;refine en0 ?_;intro u hG hB hF;refine B8N (rsE G7 [1,1,1,1,1,0] hB hG λL hL=>?_);refine gmw (C:=λv=>A0w 1 (by omega) (by omega) _) ?_;refine gx Nat (λb=>.slice (some ⟨b,0,none⟩) 1 1) (λb W=>Lq W (some ⟨b,0,none⟩) [B9 1]) (λ_ _ _ hg h=>h.grow hg) rfl ?_ (λx8=>?_)
 ·(rintro v ⟨hgu,hB,hG,-⟩ N hN;go_simp;exact hN v.heap.size _ (A4g v [B9 1]) (A4.alloc _ _))
 refine okf (by simp only[Act.put,List.setIfInBounds_toArray,List.set_cons_succ,List.set_cons_zero];exact rfl) ?_;refine gmw (C:=λv=>A0w 1 (by omega) (by omega) _) ?_;refine gx Nat (λb=>.slice (some ⟨b,0,none⟩) 1 1) (λb W=>Lq W (some ⟨b,0,none⟩) [B9 1]) (λ_ _ _ hg h=>h.grow hg) rfl ?_ (λx10=>?_)
 ·(rintro v ⟨⟨hgu,hB,hG,-⟩,hx8⟩ N hN;go_simp;exact hN v.heap.size _ (A4g v [B9 1]) (A4.alloc _ _))
 refine okf (by simp only[Act.put,List.setIfInBounds_toArray,List.set_cons_succ,List.set_cons_zero];exact rfl) ?_;refine gx Nat (λb=>.slice (some ⟨b,0,none⟩) 2 2) (λb W=>Lrq W (some ⟨b,0,none⟩) [(some ⟨x8,0,none⟩,1,[B9 1]),(some ⟨x10,0,none⟩,1,[B9 1])]) (λ_ _ _ hg h=>h.grow hg) rfl ?_ (λx11=>?_)
 ·(rintro v ⟨⟨⟨hgu,hB,hG,-⟩,hx8⟩,hx10⟩ N hN;go_simp;exact hN v.heap.size _ (B1R v [(some ⟨x8,0,none⟩,1,[B9 1]),(some ⟨x10,0,none⟩,1,[B9 1])] (λr hr=>by simp only[List.mem_cons,List.not_mem_nil,or_false]at hr;rcases hr with rfl|rfl<;>first|exact hx8|exact hx10)) (A4.alloc _ _))
 refine okf (by simp only[Act.put,List.setIfInBounds_toArray,List.set_cons_succ,List.set_cons_zero];exact rfl) ?_;refine gs ?_;refine geT hL ?_;clear hB hG hL L;rintro u ⟨⟨⟨⟨hgu,hB,hG,-⟩,hx8⟩,hx10⟩,hx11⟩;obtain⟨w1,hw1⟩:=exQ u;have HX:=B8S (show Lrq w1 (some ⟨x11,0,none⟩) [(some ⟨x8,0,none⟩,1,[B9 1]),(some ⟨x10,0,none⟩,1,[B9 1])]from hw1 ▸ hx11);have hG1:A4 w1 u:=hw1 ▸ A4.refl u;clear hx8 hx10 hx11 hw1;clear hgu;refine B8N (rsE G7 [1,1,1,0] hB hG λL hL=>?_);refine gmw (C:=λv=>A0w 3 (by omega) (by omega) _) ?_;refine gmw (C:=λv=>A0w 1 (by omega) (by omega) _) ?_;refine gx Nat (λb=>.slice (some ⟨b,0,none⟩) 2 2) (λb W=>Lq W (some ⟨b,0,none⟩) knY) (λ_ _ _ hg h=>Lq.grow h hg) rfl ?_ (λx14=>?_)
 ·(rintro v ⟨hgu,hB,hG,-⟩ N hN;go_simp;exact hN v.heap.size _ (A4g v knY) (A4.alloc _ _))
 refine okf (by simp only[Act.put,List.setIfInBounds_toArray,List.set_cons_succ,List.set_cons_zero];exact rfl) ?_;refine gs ?_;refine geT hL ?_;clear hB hG hL L;rintro u ⟨⟨hgu,hB,hG,-⟩,hx14⟩;replace hG1:=hG1.trans hgu;obtain⟨w2,hw2⟩:=exQ u;have HY:=B8S (show Lq w2 (some ⟨x14,0,none⟩) knY from hw2 ▸ hx14);have hG2:A4 w2 u:=hw2 ▸ A4.refl u;clear hx14 hw2;clear hgu;refine B8N (rsC G7 [0,0,1,0,0,0,2] hB hG λK L hN hL=>?_);refine gs ?_;refine gmd (C:=λv ⟨hgu,hB,hG,_⟩=>B60 _ _ (some ⟨x8,0,none⟩,1) (some ⟨x10,0,none⟩,1) _ (HX.out.grow (hG1.trans hgu)) (HY.out.grow (hG2.trans hgu)) (HT.grow hG)) ?_;refine gs ?_;refine gaa (Q3 _ _ _ _ _) λb3 hb3 hn3=>?_;replace hF:=hF.n1 [] hB hG hb3 hn3;refine geC hL ?_;clear hB hG hL L;rintro u ⟨⟨hgu,hB,hG,-⟩,h3⟩;replace hB:=hB.cons' h3;clear h3;have hw31:w1.heap.size<=b3:=B8K hG1.size hb3;have hw32:w2.heap.size<=b3:=B8K hG2.size hb3;replace hG1:=hG1.trans hgu;replace hG2:=hG2.trans hgu;clear hb3 hn3;clear hgu;refine gtT ?_;clear hN K;refine sv hB hF hG 0 0 [_,_,_,_,_] ?_;intro u hu hBG;replace hG1:=A11 hG1 hw31 hu;replace hG2:=A11 hG2 hw32 hu;clear hB hG hu;obtain⟨hB,hG⟩:=hBG;refine B8N (rsE G7 [0,0,1,1,0,0,0,0,0] hB hG λL hL=>?_);refine gs ?_;refine gmw (C:=λv=>A0w 2 (by omega) (by omega) _) ?_;refine gxd (X:=Ax) (λx:Ax=>.tuple #[.slice x.1 1 x.2,.int .i64 0]) (λx W=>Lq W x.1 [I0 1 1]) (λx u u' hg h=>Lq.grow h hg) (λx25=>?_) (C:=by(rintro v ⟨hgu,hB,hG,-⟩;exact B7H _ (some ⟨x14,0,none⟩,2) (some ⟨x8,0,none⟩,1) (some ⟨x10,0,none⟩,1) _ (HX.out.grow (hG1.trans hgu)) (HY.out.grow (hG2.trans hgu)) (HT.grow hG)));refine gs ?_;refine geT hL ?_;clear hB hG hL L;rintro u ⟨⟨hgu,hB,hG,-⟩,hx25⟩;obtain⟨xa,xc⟩:=x25;have HL:=B8S (λW (hg:A4 u W)=>Lq.grow (show Lq u xa [I0 1 1]from hx25) hg);obtain⟨bq,oq,rfl⟩:∃b o,xa=some ⟨b,o,none⟩:=Lq.addr (show Lq u xa [I0 1 1]from hx25) (by simp);have hcq:∀W,A4 u W->Cq W bq oq (I0 1 1):=λW hg=>by
  have h:=(HL.out W hg).read (i:=0) (by simp);rw[B8s,Nat.add_zero]at h;exact h
 have HC:=B8S hcq;clear hx25 HL hcq;clear hgu;refine B8N (rsE G7 [0,0,0,0,1,0,0,0,0,0,0,0,0,0,0,0,0,0,0,1,0,0] hB hG λL hL=>?_)
 repeat first|refine gya ?_|refine gyr ?_|refine gna ?_|refine gyb (by(rintro v ⟨hgu,hB,hG,-⟩ N hN;have r:=hB.r;simp only[BxR]at r;obtain⟨y1,y2,y3,y4,y5⟩:=HC.out v hgu;go_simp;exact hN)) ?_
 first|refine gmw (C:=λv=>A9W 4 1 (by omega) (by omega) rfl z41 _) ?_|refine J6 ?_
 repeat first|refine gya ?_|refine gyr ?_|refine gna ?_|refine gyb (by(rintro v ⟨hgu,hB,hG,-⟩ N hN;have r:=hB.r;simp only[BxR]at r;obtain⟨y1,y2,y3,y4,y5⟩:=HC.out v hgu;go_simp;exact hN)) ?_
 first|refine gmw (C:=λv=>A9W 1 1 (by omega) (by omega) rfl z11 _) ?_|refine J6 ?_
 refine gs ?_;refine geT hL ?_;clear hB hG hL L;rintro u ⟨-,hB,hG,-⟩;refine rt Tryz.results19 ?_;exact⟨rfl,hG⟩
theorem A7j(l:List Int)(n:Nat):∀x∈R5 l n,qs x<=5:=λx hx=>by
 unfold R5 at hx;obtain⟨i,-,rfl⟩:=List.mem_map.1 hx;unfold A4E;split
 ·exact A9f _
 ·rw[show B9 0=0 from rfl,A1o];omega
def A2A(N L:Nat)(rs:List Rq):Prop:=rs.length=N/\∀r∈rs,r.2.2.length=L/\∀y∈r.2.2,qs y<=5
theorem B4x{N L:Nat}{rs:List Rq}(h:A2A N L rs):∀i,i<N->∀j,j<L->qs (gq (B6 (rs.map (·.2.2)) i) j)<=5:=λi hi j hj=>by
 have hil:i<rs.length:=by rw[h.1];exact hi
 have e:B6 (rs.map (·.2.2)) i=rs[i].2.2:=by unfold B6;rw[List.getElem?_map,B8i hil];rfl
 obtain⟨h1,h2⟩:=h.2 _ (B8G hil);rw[e];exact h2 _ (A2o (by omega))
theorem B16(A:Option Addr)(l:List Int)(c p N L:Nat)(hp:p=l.length)(hc:p<=c)(hn:N<=1048576)(hk:L<=1048576)(hpm:p<=9223372036854775807)(hb:∀x∈l,-9223372036854775808<=x/\x<=9223372036854775807)(w:World)(h:Li w A l) :
  Calls Tryz.prog 56 #[.slice A p c,.int .i64 N,.int .i64 L] w (E9 (λx:Ax×List Rq=>.slice x.1.1 N x.1.2) (λx W=>A2A N L x.2/\Lrz W x.1.1 x.2) w) :=
 (B5a A l c p N L hp hc hn hk hpm hb w h).mono λe w' ⟨v,rws,he,e1,e2,e3,hg⟩=>by
  obtain⟨A2,c2,rfl,-,hz,hkl⟩:=B2I (B2:=w.heap.size) e3 (λi r hi=>e2.1 r (B8J hi));refine⟨((A2,c2),_),he,⟨⟨by rw[List.length_map];exact hkl.symm,λr hr=>?_⟩,hz⟩,hg⟩;obtain⟨x,hx,rfl⟩:=List.mem_map.1 hr;have h1:x.2.map (·.2)∈A15 l N L:=by rw[<-e1];exact List.mem_map.2 ⟨x,hx,rfl⟩
  unfold A15 at h1;obtain⟨i,-,h2⟩:=List.mem_map.1 h1;simp only;rw[<-h2];exact⟨A9P _ _,A7j _ _⟩
theorem B2D(A:Option Addr)(l:List Int)(c p n:Nat)(hp:p=l.length)(hn:n<=1048576)(hpm:p<=9223372036854775807)(hb:∀x∈l,-9223372036854775808<=x/\x<=9223372036854775807)(w:World)(h:Li w A l) :
  Calls Tryz.prog 31 #[.slice A p c,.int .i64 n] w (E9 (λx:Ax=>.slice x.1 n x.2) (λx W=>Lz W x.1 (R5 l n)) w) :=
 (B1T A l c p n hp hn hpm hb w h).mono λe w' ⟨A',c',he,h1,hg⟩=>⟨(A',c'),he,h1.1,hg⟩
theorem B25(A B:Option Addr)(la lb:List Int)(ca cb pa pb N Lw M:Nat)(n wd odd:Int)(hpa:pa=la.length)(hca:pa<=ca)(hpb:pb=lb.length)(hpm:pa<=9223372036854775807)(hpm2:pb<=9223372036854775807)(hba:∀x∈la,-9223372036854775808<=x/\x<=9223372036854775807)(hbb:∀x∈lb,-9223372036854775808<=x/\x<=9223372036854775807)
  (hN:K9 n 6=(N:Int)) (hLw:K9 wd 3+1=(Lw:Int)) (hM:M=if K9 odd 10=9 then N+1 else N) (w:World) (h:Li w A la) (h2:Li w B lb) :
  Calls Tryz.prog 12 #[.slice A pa ca,.slice B pb cb,.int .i64 n,.int .i64 wd,.int .i64 odd] w (E9 (λx:(Ax×Ax)×List Rq=>.tuple #[.slice x.1.1.1 N x.1.1.2,.slice x.1.2.1 M x.1.2.2]) (λx W=>(A2A N Lw x.2/\Lrz W x.1.1.1 x.2)/\Lz W x.1.2.1 (R5 lb M)) w):=by
 have rN:=A1z n (m:=6) (by omega);have rL:=A1z wd (m:=3) (by omega);have hp1:=λW=>A27 n 6 (by omega) (by omega) W;have hp2:=λW=>A27 wd 3 (by omega) (by omega) W;have hp3:=λW=>A27 odd 10 (by omega) (by omega) W;have hN5:N<=5:=by omega
 have hL3:Lw<=3:=by omega
 obtain⟨y,hy⟩:∃y,y=K9 wd 3:=⟨_,rfl⟩
 rw[<-hy]at hLw rL;simp only[<-hy]at hp2;have fy:IntKind.i64.wrap (y+1)=(Lw:Int):=by rw[B8j _ (by omega)];exact hLw
 simp only[hN]at hp1;have hrw:=λW (hg:A4 w W)=>B16 A la ca pa N Lw hpa hca (by omega) (by omega) hpm hba W (h.grow hg);have hrz:=λW (hg:A4 w W)=>B2D B lb cb pb M hpb (by split at hM<;>omega) hpm2 hbb W (h2.grow hg);obtain⟨t,ht⟩:∃t,t=K9 odd 10:=⟨_,rfl⟩
 rw[<-ht]at hM;simp only[<-ht]at hp3;obtain⟨yl,hyl⟩:∃l,l=R5 lb M:=⟨_,rfl⟩
 rw[<-hyl];simp only[<-hyl]at hrz;have Hp1:=B8S hp1;have Hp2:=B8S hp2;have Hp3:=B8S hp3;have Hrw:=B8S hrw;have Hrz:=B8S hrz;clear hp1 hp2 hp3 hrw hrz h h2 hba hbb hpa hpb hca hpm hpm2 hy ht hyl rN rL hN hLw;by_cases h9:t=9
 ·have f9:(t == 9)=true:=by simp[h9]
  have f9d:decide (t=9)=true:=by simp[h9]
  rw[if_pos h9]at hM;have fM:IntKind.i64.wrap ((N:Int)+1)=(M:Int):=by rw[B8j _ (by omega)];omega
  clear h9 hM;go_enter Tryz.func12,Tryz.ntmps12;refine en0 ?_;intro u hG hB hF;refine B8N (rsE A8 [0,1,0] hB hG λL hL=>?_);refine gs ?_;refine gmw (C:=λv=>Hp1.out _) ?_;refine gs ?_;refine geT hL ?_;clear hB hG hL L;rintro u ⟨-,hB,hG,-⟩;refine B8N (rsE A8 [0,0,0,1,0,1,0] hB hG λL hL=>?_);refine gs ?_;refine gmw (C:=λv=>Hp2.out _) ?_;refine gs ?_;refine gxd (X:=(Ax×List Rq)) (λx:Ax×List Rq=>.slice x.1.1 N x.1.2) (λx W=>A2A N Lw x.2/\Lrz W x.1.1 x.2) (λx u u' hg h=>⟨h.1,h.2.grow hg⟩) (λx20=>?_) (C:=by(rintro v ⟨hgu,hB,hG,-⟩;exact Hrw.out _ hG));refine gs ?_;refine geT hL ?_;clear hB hG hL L;rintro u ⟨⟨hgu,hB,hG,-⟩,hx20⟩;have HX:=B8S hx20;have hG2:A4 u u:=A4.refl u;obtain⟨w1,hw1⟩:=exQ u;rw[<-hw1]at HX;have hG1:A4 w1 u:=hw1 ▸ A4.refl u;clear hx20 hw1 hG2;clear hgu;refine B8N ?_;refine B8N (rsE A8 [0,1,0] hB hG λL hL=>?_);refine gs ?_;refine gmw (C:=λv=>Hp3.out _) ?_;refine gs ?_;refine geT hL ?_;clear hB hG hL L;rintro u ⟨hgu,hB,hG,-⟩;replace hG1:=hG1.trans hgu;clear hgu;refine B8V (rfl) ?_;refine r0N ?_;refine B8N (rsE A8 [0,0,0,1,0,0] hB hG λL hL=>?_);refine gs ?_;refine gxd (X:=Ax) (λx:Ax=>.slice x.1 M x.2) (λx W=>Lz W x.1 yl) (λx u u' hg h=>Lz.grow h hg) (λx29=>?_) (C:=by(rintro v ⟨hgu,hB,hG,-⟩;exact Hrz.out _ hG));refine gs ?_;refine geT hL ?_;clear hB hG hL L;rintro u ⟨⟨hgu,hB,hG,-⟩,hx29⟩;replace hG1:=hG1.trans hgu;clear hgu;refine rt Tryz.results12 ?_;exact⟨((x20.1,x29),x20.2),rfl,⟨⟨HX.out.1,HX.out.2.grow hG1⟩,hx29⟩,hG⟩
 ·have f9:(t == 9)=false:=by simp[h9]
  have f9d:decide (t=9)=false:=by simp[h9]
  rw[if_neg h9]at hM;subst hM;clear h9;go_enter Tryz.func12,Tryz.ntmps12;refine en0 ?_;intro u hG hB hF;refine B8N (rsE A8 [0,1,0] hB hG λL hL=>?_);refine gs ?_;refine gmw (C:=λv=>Hp1.out _) ?_;refine gs ?_;refine geT hL ?_;clear hB hG hL L;rintro u ⟨-,hB,hG,-⟩;refine B8N (rsE A8 [0,0,0,1,0,1,0] hB hG λL hL=>?_);refine gs ?_;refine gmw (C:=λv=>Hp2.out _) ?_;refine gs ?_;refine gxd (X:=(Ax×List Rq)) (λx:Ax×List Rq=>.slice x.1.1 M x.1.2) (λx W=>A2A M Lw x.2/\Lrz W x.1.1 x.2) (λx u u' hg h=>⟨h.1,h.2.grow hg⟩) (λx20=>?_) (C:=by(rintro v ⟨hgu,hB,hG,-⟩;exact Hrw.out _ hG));refine gs ?_;refine geT hL ?_;clear hB hG hL L;rintro u ⟨⟨hgu,hB,hG,-⟩,hx20⟩;have HX:=B8S hx20;obtain⟨w1,hw1⟩:=exQ u;rw[<-hw1]at HX;have hG1:A4 w1 u:=hw1 ▸ A4.refl u;clear hx20 hw1;clear hgu;refine B8N ?_;refine B8N (rsE A8 [0,1,0] hB hG λL hL=>?_);refine gs ?_;refine gmw (C:=λv=>Hp3.out _) ?_;refine gs ?_;refine geT hL ?_;clear hB hG hL L;rintro u ⟨hgu,hB,hG,-⟩;replace hG1:=hG1.trans hgu;clear hgu;refine B8T (rfl) ?_;refine B8U ?_;refine A6 ?_;refine B8N (rsE A8 [0,0,0,1,0,0] hB hG λL hL=>?_);refine gs ?_;refine gxd (X:=Ax) (λx:Ax=>.slice x.1 M x.2) (λx W=>Lz W x.1 yl) (λx u u' hg h=>Lz.grow h hg) (λx29=>?_) (C:=by(rintro v ⟨hgu,hB,hG,-⟩;exact Hrz.out _ hG));refine gs ?_;refine geT hL ?_;clear hB hG hL L;rintro u ⟨⟨hgu,hB,hG,-⟩,hx29⟩;replace hG1:=hG1.trans hgu;clear hgu;refine rt Tryz.results12 ?_;exact⟨((x20.1,x29),x20.2),rfl,⟨⟨HX.out.1,HX.out.2.grow hG1⟩,hx29⟩,hG⟩
theorem B6l(A Y:Option Addr)(c M d:Nat)(w:World):Calls Tryz.prog 18 #[.slice A 0 c,.slice Y M d] w λe w'=>e = .returned (.bool true)/\A4 w w':=by
 have hl:=λW=>B3x A c W;go_enter Tryz.func18,Tryz.ntmps18;refine en0 ?_;intro u hG hB hF;refine B8N (rsE A8 [0,1,0,0,0,0,0,0,0,0,0] hB hG λL hL=>?_);refine gs ?_;refine gmw (C:=λv=>hl _) ?_;refine gs ?_;refine geT hL ?_;clear hB hG hL L;rintro u ⟨-,hB,hG,-⟩;refine rt Tryz.results18 ?_;exact⟨rfl,hG⟩
theorem A7b(A Y:Option Addr)(rs:List Rq)(N L c M d:Nat)(hn:rs.length=N)(hN:1<=N)(hN2:N<=300)(hL1:1<=L)(hL2:L<=20)(hrl:∀r∈rs,r.2.2.length=L)(w:World)(h:Lrz w A rs):Calls Tryz.prog 18 #[.slice A N c,.slice Y M d] w λe w'=>e = .returned (.bool (decide (M≠N)))/\A4 w w':=by
 have hl:=λW (hg:A4 w W)=>B17 A rs N L c hn hN hN2 hL1 hL2 hrl W (h.grow hg);have Hl:=B8S hl;clear hl h hrl hn;by_cases e:M=N
 ·subst e;have f1:((M:Int) != (M:Int))=false:=by simp
  have f2:decide (M≠M)=false:=by simp
  rw[f2];clear f2;go_enter Tryz.func18,Tryz.ntmps18;refine en0 ?_;intro u hG hB hF;refine B8N (rsE A8 [0,1,0,0,0,0,0,0,0,0,0] hB hG λL hL=>?_);refine gs ?_;refine gmd (C:=λv ⟨hgu,hB,hG,_⟩=>Hl.out _ hG) ?_;refine gs ?_;refine geT hL ?_;clear hB hG hL L;rintro u ⟨-,hB,hG,-⟩;refine rt Tryz.results18 ?_;exact⟨rfl,hG⟩
 ·have f1:((M:Int) != (N:Int))=true:=by simp;omega
  have f2:decide (M≠N)=true:=by simp[e]
  rw[f2];clear f2 e;go_enter Tryz.func18,Tryz.ntmps18;refine en0 ?_;intro u hG hB hF;refine B8N (rsE A8 [0,1,0,0,0,0,0,0,0,0,0] hB hG λL hL=>?_);refine gs ?_;refine gmd (C:=λv ⟨hgu,hB,hG,_⟩=>Hl.out _ hG) ?_;refine gs ?_;refine geT hL ?_;clear hB hG hL L;rintro u ⟨-,hB,hG,-⟩;refine rt Tryz.results18 ?_;exact⟨rfl,hG⟩
theorem B2t:∀ {l:List Nat} {m:Nat},l.Pairwise (· < ·)->(∀x∈l,x<m)->l.length<=m:=by
 intro l m
 induction m generalizing l with
 | zero =>
  intro _ h
  cases l with
  | nil=>exact K2 _
  | cons x l=>exact absurd (h x List.mem_cons_self) (C0C _)
 | succ m ih =>
  intro h1 h2;rcases List.eq_nil_or_concat l with rfl|⟨l',x,rfl⟩
  ·exact B8k _
  ·rw[List.concat_eq_append]at h1 h2⊢;obtain⟨p1,-,p3⟩:=List.pairwise_append.1 h1;have:=ih p1 λy hy=>by
    have h3:=p3 y hy x (by simp);have h4:=h2 x (by simp);omega
   rw[List.length_append,List.length_singleton];omega
def rkR(X:List (List Rat))(N L:Nat):Nat:=(C0 N L (D7 X,[]) L).2.length
theorem A7r(X:List (List Rat))(N L:Nat):rkR X N L<=L:=by
 obtain⟨h1,h2⟩:=A5b N L (D7 X) L;exact B2t h1 h2
def lsE(X:List (List Rat))(N L:Nat):Int:=if rkR X N L=L then 0 else 9
def lsN(X:List (List Rat))(N L:Nat):Nat:=if rkR X N L=L then L else 0
def lsV(X:List (List Rat))(y:List Rat)(N L:Nat)(a:Rat):List Rat:=if rkR X N L=L then V7 X y N L a else []
section
variable {N L:Nat} {R:List (List Rat)} {y:List Rat} {a:Rat} (hRn:R.length=N) (hRl:∀r∈R,r.length=L) (hN1:1<=N) (hN:N<=5) (hL1:1<=L) (hL:L<=3) (hX:∀i,i<N->∀j,j<L->qs (gq (B6 R i) j)<=20) (hyn:y.length=N) (hys:∀i,i<N->qs (gq y i)<=20) (ha0:0<=a) (ha:qs a<=20)
theorem B0A{L:Nat}(hL:L<=3):100*(210*10^(L+1))<=BIG:=by
 have h1:10^(L+1)<=10^4:=B8Z (by omega) (by omega);have h2:210*10^(L+1)<=210*10^4:=B9L _ h1;unfold BIG;omega
include hN hL hX hys ha in
theorem B2U(i:Nat)(hi:i<L):qs (gq (V7 R y N L a) i)<=10000000:=by
 have hg:N*(20+20+1)+1<=210:=by omega
 obtain⟨z1,z2,-⟩:=A4U (X:=R) (y:=y) (N:=N) (g:=210) (by omega) (by omega) (λi hi j hj=>A34 hX hg hi hj) (λi hi=>A33 hX hys hg hi) (U6 R y N L a);have e:gq (V7 R y N L a) i=G9 (gq (N4 R y N L (U6 R y N L a)) i) (C3 (gq (N1 R N L (U6 R y N L a)) i) a):=S6 _ hi;rw[e];have h1:10^(L+1)<=10^4:=B8Z (by omega) (by omega);have h2:210*10^(L+1)<=210*10^4:=B9L _ h1;have h3:=z1 i;have h4:=z2 i;generalize 210*10^(L+1)=Z at *;have h5:=Y4 (gq (N1 R N L (U6 R y N L a)) i) a;have h6:=A2t (gq (N4 R y N L (U6 R y N L a)) i) (C3 (gq (N1 R N L (U6 R y N L a)) i) a);unfold G9;unfold C3 at *;omega
include hRn hRl hN1 hN hL1 hL hX hyn hys ha0 ha
theorem B4v(W:World)(X Y:Ax)(rs:List Rq)(hr:rs.map (·.2.2)=R)(h1:Lrq W X.1 rs)(h2:Lq W Y.1 y)(HT:Tab W) :
  Calls Tryz.prog 14 #[.slice X.1 N X.2,.slice Y.1 N Y.2,qV a] W (E9 (λx:Ax=>.tuple #[.slice x.1 (lsN R N L) x.2,.int .i64 (lsE R N L)]) (λx W'=>Lq W' x.1 (lsV R y N L a)) W):=by
 have hBB:100000000<=BIG:=by unfold BIG;omega
 have e1:rs.length=N:=by rw[<-hRn,<-hr];simp
 have hrl:∀r∈rs,r.2.2.length=L:=λr h'=>hRl _ (by rw[<-hr];exact List.mem_map.2 ⟨r,h',rfl⟩);have hp:=B0A hL;subst hr;unfold lsN lsE lsV;by_cases hk:rkR (rs.map (·.2.2)) N L=L
 ·rw[if_pos hk,if_pos hk,if_pos hk];exact B3o X.1 rs N L X.2 Y y e1 hN1 (by omega) hL1 (by omega) hrl hyn 20 210 (by omega) (by omega) hX hys (by omega) hp a ha0 (by omega) hk W h1 h2 HT
 ·rw[if_neg hk,if_neg hk,if_neg hk];have hle:=A7r (rs.map (·.2.2)) N L;refine(B63 X.1 Y.1 N N X.2 Y.2 a ha0 (by omega) 9 rfl W (λW' hg=>A3V X.1 Y.1 rs N L X.2 Y.2 e1 hN1 (by omega) hL1 (by omega) hrl W' (h1.grow hg)) λW' hg=>?_).mono ?_
  ·have h:=A89 X.1 rs N L X.2 e1 hN1 (by omega) hL1 (by omega) hrl 20 (by omega) hX (by
    have h3:10^L<=10^3:=B8Z (by omega) hL;have h4:20*10^L<=20*10^3:=B9L _ h3
    omega) W' (h1.grow hg) (HT.grow hg)
   have hlt:(C0 N L (D7 (rs.map (·.2.2)),[]) L).2.length<L:=Nat.lt_of_le_of_ne hle hk;rw[if_pos hlt]at h;exact h
  ·rintro e w' ⟨rfl,hg⟩;exact⟨(none,0),rfl,Lq.nil _ _,hg⟩
end
structure LeastC(N M:Nat)(R:List (List Rat))(y:List Rat)(a:Rat)(ls:Nat)(V:List Rat)(ke:Int):Prop where
 run:∀(W:World) (X Y:Ax) (rs:List Rq),rs.map (·.2.2)=R->Lrq W X.1 rs->Lq W Y.1 y->Tab W->Calls Tryz.prog 14 #[.slice X.1 N X.2,.slice Y.1 M Y.2,qV a] W (E9 (λx:Ax=>.tuple #[.slice x.1 ls x.2,.int .i64 ke]) (λx W'=>Lq W' x.1 V) W)
 len:V.length=ls
 sz:∀x∈V,qs x<=10000000
theorem B5p{N M L:Nat}{R:List (List Rat)}{y:List Rat}{a:Rat}(hRn:R.length=N)(hRl:∀r∈R,r.length=L)(hN:N<=5)(hL1:1<=L)(hL:L<=3)(hX:∀i,i<N->∀j,j<L->qs (gq (B6 R i) j)<=5)(hyn:y.length=M)(hys:∀i,i<M->qs (gq y i)<=5)(ha:qs a<=5) :
  ∃ls V ke,LeastC N M R y a ls V ke/\((¬(1<=N/\M=N)/\ke=5/\ls=0)\/(1<=N/\M=N/\((a<0/\ke=1/\ls=0)\/(¬a<0/\((rkR R N L<L/\ke=9/\ls=0)\/(rkR R N L=L/\ke=0/\ls=L/\V=V7 R y N L a)))))):=by
 have hBB:100000<=BIG:=by unfold BIG;omega
 have h0:∀x∈([]:List Rat),qs x<=10000000:=λx hx=>by cases hx
 have nilR:∀ {e w' W} {z:Int},(e = .returned (.tuple #[.slice none 0 0,.int .i64 z])/\A4 W w')->E9 (λx:Ax=>.tuple #[.slice x.1 0 x.2,.int .i64 z]) (λx W'=>Lq W' x.1 []) W e w':=λ⟨h,hg⟩=>⟨(none,0),h,Lq.nil _ _,hg⟩
 by_cases hw:1<=N/\M=N
 ·obtain⟨hN1,rfl⟩:=hw;by_cases ha0:a<0
  ·refine⟨0,[],1,⟨λW X Y rs hr h1 h2 HT=>?_,rfl,h0⟩,.inr ⟨hN1,rfl,.inl ⟨ha0,rfl,rfl⟩⟩⟩;have e1:rs.length=M:=by rw[<-hRn,<-hr];simp
   exact(B1p X.1 Y.1 M M X.2 Y.2 a ha0 (by omega) W λW' hg=>A3V X.1 Y.1 rs M L X.2 Y.2 e1 hN1 (by omega) hL1 (by omega) (λr h'=>hRl _ (by rw[<-hr];exact List.mem_map.2 ⟨r,h',rfl⟩)) W' (h1.grow hg)).mono λe w' h=>nilR h
  ·have hX2:∀i,i<M->∀j,j<L->qs (gq (B6 R i) j)<=20:=λi hi j hj=>B8K (hX i hi j hj) (by omega);have hys2:∀i,i<M->qs (gq y i)<=20:=λi hi=>B8K (hys i hi) (by omega);have ha2:0<=a:=by grind
   have hrun:=λW X Y rs hr h1 h2 HT=>B4v (a:=a) hRn hRl hN1 hN hL1 hL hX2 hyn hys2 ha2 (by omega) W X Y rs hr h1 h2 HT;by_cases hk:rkR R M L=L
   ·have e1:lsN R M L=L:=by unfold lsN;rw[if_pos hk]
    have e2:lsE R M L=0:=by unfold lsE;rw[if_pos hk]
    have e3:lsV R y M L a=V7 R y M L a:=by unfold lsV;rw[if_pos hk]
    rw[e1,e2,e3]at hrun;exact⟨L,V7 R y M L a,0,⟨hrun,A6V _ _ _ _ _,A5s (A6V _ _ _ _ _) (λi hi=>B2U hN hL hX2 hys2 (by omega) i hi)⟩,.inr ⟨hN1,rfl,.inr ⟨ha0,.inr ⟨hk,rfl,rfl,rfl⟩⟩⟩⟩
   ·have e1:lsN R M L=0:=by unfold lsN;rw[if_neg hk]
    have e2:lsE R M L=9:=by unfold lsE;rw[if_neg hk]
    have e3:lsV R y M L a=[]:=by unfold lsV;rw[if_neg hk]
    rw[e1,e2,e3]at hrun;exact⟨0,[],9,⟨hrun,rfl,h0⟩,.inr ⟨hN1,rfl,.inr ⟨ha0,.inl ⟨Nat.lt_of_le_of_ne (A7r _ _ _) hk,rfl,rfl⟩⟩⟩⟩
 ·refine⟨0,[],5,⟨λW X Y rs hr h1 h2 HT=>?_,rfl,h0⟩,.inl ⟨hw,rfl,rfl⟩⟩
  exact(B7y X.1 Y.1 N M X.2 Y.2 a (λW=>by
   rcases B8M N with h|h
   ·subst h;exact B1H _ _ _ M _ W
   ·exact B2j _ _ _ N M _ h (by omega) (λe=>hw ⟨h,e⟩) W) W).mono λe w' h=>nilR h
end Go.Proofs.YtgpglgbcobeogaaGreatDoor
