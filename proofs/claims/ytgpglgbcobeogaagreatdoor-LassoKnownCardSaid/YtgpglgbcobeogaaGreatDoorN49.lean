import Derived.Test.YtgpglgbcobeogaaGreatDoorN48
set_option linter.unusedSimpArgs false
set_option linter.unusedVariables false
set_option maxHeartbeats 4000000
set_option maxRecDepth 100000
namespace Go.Proofs.YtgpglgbcobeogaaGreatDoor
open Go Go.RowKit
theorem B6F(A Y:Option Addr)(N M c d:Nat)(q:Rat)(z:Int)(hz:(z != 0)=true)(ht:∀W,Calls Tryz.prog 35 #[.slice A N c,.slice Y M d] W λe w'=>e = .returned (.tuple #[qV q,.int .i64 z])/\A4 W w')(w:World) :
  Calls Tryz.prog 49 #[.slice A N c,.slice Y M d] w λe w'=>e = .returned (.tuple #[.slice none 0 0,.int .i64 z])/\A4 w w':=by
 go_enter Tryz.func49,Tryz.ntmps49;refine en0 ?_;intro u hG hB hF;refine B9D (rsC O1 [0,0,1,0,0,0,2] hB hG λK L hN hL=>?_);refine gs ?_;refine gmw (C:=λv=>ht _) ?_;refine gs ?_;refine gaa (G6 _ _ _ _ _) λb6 hb6 hn6=>?_;replace hF:=hF.n1 [] hB hG hb6 hn6;refine geC hL ?_;clear hB hG hL L;rintro u ⟨⟨-,hB,hG,-⟩,h6⟩;replace hB:=hB.cons' h6;clear h6;clear hb6 hn6;refine gtT ?_;clear hN K;refine st hB hF hG 0 0 [_,_,_,_,_] ?_;clear hB hG;intro u hB hG;refine B9D ?_;refine r0T ?_;refine B9L (rfl) ?_;refine r0T ?_;refine rt Tryz.results49 ?_;exact⟨rfl,hG⟩
theorem B09{X:List (List Rat)}{y:List Rat}{N L S:Nat}(h1:1<=S)(h:∀i,i<L->qs (gq (J5 X y N L) i)<=S):qs (M5 X y N L)<=S :=
 A5s h1 (λj hj=>by rw[B0Q X y N L hj];exact h j hj) L (B8s _)
theorem B5I(A:Option Addr)(rs:List Rq)(N Lw c:Nat)(Y:Ax)(y:List Rat)(hn:rs.length=N)(hN1:1<=N)(hN2:N<=20)(hL1:1<=Lw)(hL2:Lw<=6)(hrl:∀r∈rs,r.2.2.length=Lw)(hy:y.length=N)(s g:Nat)(hs1:1<=s)(hs:s<=1000)(hX:∀i,i<N->∀j,j<Lw->qs (gq (B7 (rs.map (·.2.2)) i) j)<=s)(hys:∀i,i<N->qs (gq y i)<=s)(hg1:1<=g)
  (hG:∀i,i<Lw->∀j,j<Lw->qs (gq (B7 (K9 (rs.map (·.2.2)) N Lw) i) j)<=g) (hP:∀i,i<Lw->qs (gq (J5 (rs.map (·.2.2)) y N Lw) i)<=g) (hBz:1600*(g*10^(Lw+1))+100<=BIG)
  (hun:A1v (rs.map (·.2.2)) N Lw) (w:World) (h:Lrq w A rs) (h2:Lq w Y.1 y) (HT:Tab w) :
  Calls Tryz.prog 49 #[.slice A N c,.slice Y.1 N Y.2] w λe w'=>∃(ks:List Kq) (v:Value),e = .returned (.tuple #[v,.int .i64 0])/\w'.ownsRow w.heap.size 84 6 v ks.length (ks.flatMap kqL)/\(∀x∈ks,Lq w' x.2.1.1 x.2.2)/\ks.map C3=A5C (rs.map (·.2.2)) y N Lw/\A4 w w':=by
 have hgZ:10*g<=g*10^(Lw+1):=by
  rw[Nat.pow_succ,B9j (10^Lw) 10,<-C0G,B9j g 10];exact C0E _ (C0j (by omega))
 have htp:=B09 hg1 hP;have hsz:∀k,k<3^Lw->(∀i,i<Lw->qs (gq (V9 (rs.map (·.2.2)) y N Lw k) i)<=20*(g*10^(Lw+1)))/\(∀i,i<Lw->qs (gq (Z0 (rs.map (·.2.2)) N Lw k) i)<=20*(g*10^(Lw+1)))/\∀x∈M4 (rs.map (·.2.2)) y N Lw k,qs x.1<=20*(g*10^(Lw+1))/\qs x.2<=20*(g*10^(Lw+1)):=λk _=>by
  obtain⟨z1,z2,z3⟩:=B2B hg1 hL2 hG hP k;generalize g*10^(Lw+1)=Z at *;exact⟨λi _=>B9A (z1 i) (by omega),λi _=>B9A (z2 i) (by omega),z3⟩
 have hsv:∀k,k<3^Lw->A2j Lw (K9 (rs.map (·.2.2)) N Lw) (J5 (rs.map (·.2.2)) y N Lw) (F5 Lw k) (V9 (rs.map (·.2.2)) y N Lw k) (Z0 (rs.map (·.2.2)) N Lw k) (M4 (rs.map (·.2.2)) y N Lw k):=λk _=>B2h hun hL1 hL2 hg1 hG hP (by generalize g*10^(Lw+1)=Z at *;omega) k;have hln:∀k,k<3^Lw->(V9 (rs.map (·.2.2)) y N Lw k).length=Lw/\(Z0 (rs.map (·.2.2)) N Lw k).length=Lw/\(M4 (rs.map (·.2.2)) y N Lw k).length<=1000:=λk _=>B46 _ y N Lw k hL2;have hall:=B2k (y:=y) hun;have hne:1<=(A1K (rs.map (·.2.2)) y N Lw).length:=by rw[B3l];exact B2H.1
 unfold A5C;rw[<-hall]at hne⊢;generalize g*10^(Lw+1)=Z at *;exact B7I A rs N Lw c Y y hn hN1 hN2 hL1 hL2 hrl hy s hs1 hs hX hys hun _ _ _ (20*Z) (40*Z) (by omega) (by omega) (by omega) (by omega) hln hsz hsv hne w h h2 HT
def klX:List (List Rat):=[[B4 1,B4 0],[B4 0,B4 2]]
def klY:List Rat:=[B4 3,B4 (-1)]
def klV:List Rat:=[B4 2,B4 0]
def klP:List Kn:=[(D0 3 1,[0,0]),(D0 2 1,[1,0]),(D0 0 1,[3,D0 (-1) 2])]
def klR(x y:Ax):List Rq:=[(x.1,x.2,[B4 1,B4 0]),(y.1,y.2,[B4 0,B4 2])]
theorem A1F{i:Nat}(h:i<2):i=0\/i=1:=by omega
theorem B5F{l m:List Rat}(h1:l.Pairwise (λa b=>b<a))(h2:m.Pairwise (λa b=>b<a))(h:∀x,x∈l↔x∈m):l=m:=by
 have n1:l.Nodup:=h1.imp fun {a b} g e=>by rw[e]at g;exact Rat.lt_irrefl g
 have n2:m.Nodup:=h2.imp fun {a b} g e=>by rw[e]at g;exact Rat.lt_irrefl g
 exact List.Perm.eq_of_pairwise (le:=λa b:Rat=>b<a) (λa b _ _ g1 g2=>(by grind)) h1 h2 ((List.perm_ext_iff_of_nodup n1 n2).2 h)
theorem B6r:I3 (M4 klX klY 2 2) (M5 klX klY 2 2) (3^2)=[0,3,0,2,3,3,2,3]:=by decide +kernel
theorem B6g:J6 (I3 (M4 klX klY 2 2) (M5 klX klY 2 2) (3^2))=[3,2,0]:=by
 rw[B6r];refine B5F (A8v _) (by decide +kernel) λx=>?_;rw[A1a];simp only[List.mem_cons,List.not_mem_nil,or_false];grind
theorem B20:A1A klX klY 2 2 3=[0,0]:=by decide +kernel
theorem B3T:A1A klX klY 2 2 2=[1,0]:=by decide +kernel
theorem B3N:A1A klX klY 2 2 0=[3,D0 (-1) 2]:=by decide +kernel
theorem B30:A1v klX 2 2:=by unfold A1v;decide +kernel
theorem B7Y:A5C klX klY 2 2=klP:=by
 unfold A5C A1K;rw[B6g];simp only[List.map_cons,List.map_nil,B20,B3T,B3N];decide +kernel
theorem B73:A5v klP (B4 1)=[D0 2 1,D0 (-1) 4]:=by decide +kernel
theorem B43:Y6 klX klY klV 2 2 (B4 1)=1:=by decide +kernel
theorem B5j:A4N klX klY klV 2 2 (B4 1)=D0 3 1:=by decide +kernel
theorem B1S:R3 klX klY klV 2 2=[D0 1 1,D0 (-2) 1]:=by decide +kernel
theorem A3u:∀i,i<2->∀j,j<2->qs (gq (B7 klX i) j)<=50:=λi hi j hj=>by
 rcases A1F hi with rfl|rfl<;>rcases A1F hj with rfl|rfl<;>decide +kernel
theorem A4a:∀i,i<2->qs (gq klY i)<=50:=λi hi=>by
 rcases A1F hi with rfl|rfl<;>decide +kernel
theorem A6J:∀i,i<2->qs (gq klV i)<=50:=λi hi=>by
 rcases A1F hi with rfl|rfl<;>decide +kernel
theorem B3R:∀i,i<2->∀j,j<2->qs (gq (B7 (K9 klX 2 2) i) j)<=50:=λi hi j hj=>by
 rcases A1F hi with rfl|rfl<;>rcases A1F hj with rfl|rfl<;>decide +kernel
theorem B7T:∀i,i<2->qs (gq (J5 klX klY 2 2) i)<=50:=λi hi=>by
 rcases A1F hi with rfl|rfl<;>decide +kernel
theorem A3U(x y:Ax):∀r∈klR x y,r.2.2.length=2:=λr hr=>by
 simp only[klR,List.mem_cons,List.not_mem_nil,or_false]at hr;rcases hr with rfl|rfl<;>rfl
theorem B65(A:Option Addr)(Y:Ax)(x y:Ax)(W:World)(h:Lrq W A (klR x y))(h2:Lq W Y.1 klY)(HT:Tab W) :
  Calls Tryz.prog 49 #[.slice A 2 2,.slice Y.1 2 Y.2] W (G9 (λx:Ax×List Kq=>.tuple #[.slice x.1.1 3 x.1.2,.int .i64 0]) (λx W'=>Lk W' x.1.1 x.2/\x.2.map C3=klP) W):=by
 refine(B5I A (klR x y) 2 2 2 Y klY rfl (by omega) (by omega) (by omega) (by omega) (A3U x y) rfl 50 50 (by omega) (by omega) A3u A4a (by omega) B3R B7T (by unfold BIG;omega) B30 W h h2 HT).mono ?_;rintro e w' ⟨ks,v,rfl,g1,g2,g3,g4⟩;have g3':ks.map C3=klP:=g3.trans B7Y;have hl:ks.length=3:=by rw[<-List.length_map (f:=C3),g3'];rfl
 obtain⟨B,c,rfl,-,g5,-⟩:=A01 A6D (by omega) g1;exact⟨((B,c),ks),by rw[hl],⟨⟨g5,g2⟩,g3'⟩,g4⟩
theorem B27(A:Option Addr)(c:Nat)(ks:List Kq)(e:ks.map C3=klP)(W:World)(h:Lk W A ks)(HT:Tab W) :
  Calls Tryz.prog 43 #[.slice A 3 c,qV (B4 1)] W (G9 (λx:Ax=>.tuple #[.slice x.1 2 x.2,.int .i64 0]) (λx W=>Lq W x.1 [D0 2 1,D0 (-1) 4]) W):=by
 have hl:ks.length=3:=by rw[<-List.length_map (f:=C3),e];rfl
 have h3:∀ {i:Nat},i<3->i=0\/i=1\/i=2:=λh=>by omega
 have hs:=B7f A ks 3 c (B4 1) hl (by
  rw[e];exact⟨by decide,by decide,by decide,by decide,λi hi=>by rcases h3 hi with rfl|rfl|rfl<;>rfl⟩) (by
  rw[e];refine⟨λi hi=>?_,λi h1 hi=>?_,rfl⟩
  ·have hi2:i<2:=hi;rcases A1F hi2 with rfl|rfl<;>rfl
  ·have hi2:i<3:=hi;obtain rfl|rfl:i=1\/i=2:=by omega
   ·decide +kernel
   ·decide +kernel) (by decide +kernel) 50 (by decide +kernel) (λi hi=>by
  rw[e];rcases h3 hi with rfl|rfl|rfl<;>decide +kernel) (λi hi j=>by
  rw[e];rcases j with _|_|j
  ·rcases h3 hi with rfl|rfl|rfl<;>decide +kernel
  ·rcases h3 hi with rfl|rfl|rfl<;>decide +kernel
  ·rcases h3 hi with rfl|rfl|rfl<;>exact(by decide +kernel:qs 0<=50)) (by unfold BIG;omega) W h HT
 rw[e,B73]at hs;exact hs
theorem B4J(A Y V:Option Addr)(x y:Ax)(W:World)(h:Lrq W A (klR x y))(h2:Lq W Y klY)(h3:Lq W V klV)(HT:Tab W) :
  Calls Tryz.prog 34 #[.slice A 2 2,.slice Y 2 2,.slice V 2 2,qV (B4 1)] W λe w'=>e = .returned (.tuple #[.int .i64 1,.bool false,.int .i64 0])/\A4 W w':=by
 have hs:=B5B A Y V (klR x y) klY klV 2 2 2 2 2 (B4 1) rfl (by omega) (by omega) (A3U x y) rfl rfl (by omega) (by omega) 50 (by omega) A3u A4a A6J (by decide +kernel) (by decide +kernel) W h h2 h3 HT;have e:Y6 ((klR x y).map (·.2.2)) klY klV 2 2 (B4 1)=1:=B43;rw[e]at hs;exact hs
theorem B8g(A Y V:Option Addr)(x y:Ax)(W:World)(h:Lrq W A (klR x y))(h2:Lq W Y klY)(h3:Lq W V klV)(HT:Tab W) :
  Calls Tryz.prog 32 #[.slice A 2 2,.slice Y 2 2,.slice V 2 2,qV (B4 1)] W λe w'=>e = .returned (.tuple #[qV (D0 3 1),.int .i64 0])/\A4 W w':=by
 have hs:=B1i A Y V (klR x y) klY klV 2 2 2 2 2 (B4 1) rfl (by omega) (by omega) (A3U x y) rfl rfl (by omega) (by omega) 50 (by omega) A3u A4a A6J (by decide +kernel) (by decide +kernel) W h h2 h3 HT;have e:A4N ((klR x y).map (·.2.2)) klY klV 2 2 (B4 1)=D0 3 1:=B5j;rw[e]at hs;exact hs
theorem B8B(A Y V:Option Addr)(x y:Ax)(W:World)(h:Lrq W A (klR x y))(h2:Lq W Y klY)(h3:Lq W V klV)(HT:Tab W) :
  Calls Tryz.prog 33 #[.slice A 2 2,.slice Y 2 2,.slice V 2 2] W (G9 (λx:Ax=>.tuple #[.slice x.1 2 x.2,.int .i64 0]) (λx W=>Lq W x.1 [D0 1 1,D0 (-2) 1]) W):=by
 have hs:=A6I A Y V (klR x y) klY klV 2 2 2 2 2 rfl (by omega) (by omega) (A3U x y) rfl rfl (by omega) (by omega) 50 (by omega) A3u A4a A6J W h h2 h3 HT;have e:R3 ((klR x y).map (·.2.2)) klY klV 2 2=[D0 1 1,D0 (-2) 1]:=B1S;rw[e]at hs;exact hs
theorem A6m(A Y:Option Addr)(d:Nat)(x:Ax)(W:World)(h:Lrq W A [(x.1,x.2,[B4 1,B4 1])])(HT:Tab W) :
  Calls Tryz.prog 14 #[.slice A 1 1,.slice Y 1 d,qV (B4 1)] W λe w'=>e = .returned (.tuple #[.slice none 0 0,.int .i64 9])/\A4 W w':=by
 have hr:∀r∈[(x.1,x.2,[B4 1,B4 1])],(r:Rq).2.2.length=2:=λr hr=>by
  simp only[List.mem_cons,List.not_mem_nil,or_false]at hr;subst hr;rfl
 refine B01 A Y 1 1 1 d (B4 1) (by decide +kernel) (by have:qs (B4 1)<=5:=(by decide +kernel);unfold BIG;omega) 9 rfl W (λW' hg=>A3l A Y [(x.1,x.2,[B4 1,B4 1])] 1 2 1 d rfl (by omega) (by omega) (by omega) (by omega) hr W' (h.grow hg)) λW' hg=>?_
 have hs:=A5p A [(x.1,x.2,[B4 1,B4 1])] 1 2 1 rfl (by omega) (by omega) (by omega) (by omega) hr 5 (by omega) (λi hi j hj=>by
  obtain rfl:i=0:=by omega
  rcases A1F hj with rfl|rfl
  ·exact(by decide +kernel:qs (gq (B7 [[B4 1,B4 1]] 0) 0)<=5)
  ·exact(by decide +kernel:qs (gq (B7 [[B4 1,B4 1]] 0) 1)<=5)) (by unfold BIG;omega) W' (h.grow hg) (HT.grow hg)
 have e:(C9 1 2 (F6 ([(x.1,x.2,[B4 1,B4 1])].map (λr:Rq=>r.2.2)),[]) 2).2.length<2:=(by decide +kernel:(C9 1 2 (F6 [[B4 1,B4 1]],[]) 2).2.length<2)
 rw[if_pos e]at hs;exact hs
theorem B59(A:Option Addr)(W:World):Calls Tryz.prog 49 #[.slice A 2 2,.slice none 0 0] W λe w'=>e = .returned (.tuple #[.slice none 0 0,.int .i64 5])/\A4 W w' :=
 B6F A none 2 0 2 0 0 5 rfl (λW=>B33 A none 2 0 2 0 (λW=>B6B A none 2 2 0 0 (by omega) (by omega) (by omega) W) W) W
theorem B7L(A Y:Option Addr)(x y:Ax)(W:World)(h:Lrq W A (klR x y)) :
  Calls Tryz.prog 14 #[.slice A 2 2,.slice Y 2 2,qV (B4 (-1))] W λe w'=>e = .returned (.tuple #[.slice none 0 0,.int .i64 1])/\A4 W w' :=
 B2W A Y 2 2 2 2 (B4 (-1)) (by decide +kernel) (by have:qs (B4 (-1))<=5:=(by decide +kernel);unfold BIG;omega) W λW' hg=>A3l A Y (klR x y) 2 2 2 2 rfl (by omega) (by omega) (by omega) (by omega) (A3U x y) W' (h.grow hg)
theorem B3u{W:World}{A:Option Addr}{ks:List Kq}(h:Lk W A ks)(e:ks.map C3=klP):∃(b o bw ow cw:Nat),A=some ⟨b,o,none⟩/\∀W',A4 W W'->(Cq W' b o (D0 3 1)/\Cq W' b (o+6) (D0 2 1)/\Cq W' b (o+12) (D0 0 1)/\W'.cell? ⟨b,o+12+5,none⟩=some (.slice (some ⟨bw,ow,none⟩) 2 cw))/\Cq W' bw (ow+5) (D0 (-1) 2):=by
 have hl:ks.length=3:=by rw[<-List.length_map (f:=C3),e];rfl
 obtain⟨b,o,P0,eA,h0⟩:=h.at (i:=0) (by omega);obtain⟨b1,o1,P1,eB,h1⟩:=h.at (i:=1) (by omega);obtain⟨b2,o2,P2,eC,h2⟩:=h.at (i:=2) (by omega);rw[eA]at eB eC;cases eB;cases eC;rw[e]at h0 h1 h2;obtain⟨PA,PC⟩:=P2;have hq:=(h2 W (A4.refl W)).2;obtain⟨bw,ow,rfl⟩:∃b o,PA=some ⟨b,o,none⟩:=Lq.addr hq (by decide);refine⟨b,o,bw,ow,PC,eA,λW' hg=>⟨⟨?_,?_,?_,?_⟩,?_⟩⟩
 ·have:=(h0 W' hg).1.1
  rwa [B9i,Nat.add_zero]at this
 ·exact(h1 W' hg).1.1
 ·exact(h2 W' hg).1.1
 ·exact(h2 W' hg).1.2
 ·have:=(h2 W' hg).2.read (i:=1) (by decide)
  rwa [C0O]at this
end Go.Proofs.YtgpglgbcobeogaaGreatDoor
