import Derived.Test.YtgpglgbcobeogaaGreatDoorW44
set_option linter.unusedSimpArgs false
set_option linter.unusedVariables false
set_option maxHeartbeats 4000000
set_option maxRecDepth 100000
namespace Go.Proofs.YtgpglgbcobeogaaGreatDoor
open Go Go.RowKit
theorem B3M(a b:Rat)(h:qs a+qs b+1≤BIG)(w:World):Calls Tryz.prog 156 #[qV a,qV b] w fun e w'=>e = .returned (qV (A0g a b))∧A4 w w':=by
 have hc:=fun W=>A1m b a W (by omega);have hz:decide (I3 b a<0)=decide (b<a):=by
  unfold I3;by_cases h1:b<a
  ·simp[h1]
  ·by_cases h2:a<b<;>simp[h1,h2]
 obtain⟨Z,hZ⟩:∃Z,Z=I3 b a:=⟨_,rfl⟩
 rw[←hZ]at hz;simp only[←hZ]at hc;have Hc:=B9g hc;clear hc hZ;by_cases hab:b<a
 ·have fZ:decide (Z<0)=true:=by rw[hz];exact C0L hab
  have e:A0g a b=b:=if_pos hab;rw[e];clear hab hz e;go_enter Tryz.func156,Tryz.ntmps156;refine en3 ?_;intro u hG b4 b3 b2 hB hF;refine B9b ?_;refine B9b (rsE A8 [0,0,1,0] hB hG fun L hL=>?_);refine gs ?_;refine gmw (C:=fun v=>Hc.out _) ?_;refine gs ?_;refine geT hL ?_;clear hB hG hL L;rintro u ⟨-,hB,hG,-⟩;refine B9j (rfl) ?_;refine r0T ?_;refine st hB hF hG 2 0 [_,_,_,_,_] ?_;clear hB hG;intro u hB hG;refine rt Tryz.results156 ?_;exact⟨rfl,hG⟩
 ·have fZ:decide (Z<0)=false:=by rw[hz];exact C0Q hab
  have e:A0g a b=a:=if_neg hab;rw[e];clear hab hz e;go_enter Tryz.func156,Tryz.ntmps156;refine en3 ?_;intro u hG b4 b3 b2 hB hF;refine B9b ?_;refine B9b (rsE A8 [0,0,1,0] hB hG fun L hL=>?_);refine gs ?_;refine gmw (C:=fun v=>Hc.out _) ?_;refine gs ?_;refine geT hL ?_;clear hB hG hL L;rintro u ⟨-,hB,hG,-⟩;refine B9h (rfl) ?_;refine B9i ?_;refine A6 ?_;refine r0T ?_;refine st hB hF hG 2 0 [_,_,_,_,_] ?_;clear hB hG;intro u hB hG;refine rt Tryz.results156 ?_;exact⟨rfl,hG⟩
theorem B2q{a b:Rat}{s:Nat}(h1:qs a≤s)(h2:qs b≤s):qs (S8 a b)≤s:=by
 unfold S8;split<;>assumption
theorem B5i{a b:Rat}{s:Nat}(h1:qs a≤s)(h2:qs b≤s):qs (A0g a b)≤s:=by
 unfold A0g;split<;>assumption
theorem A5J{u u':World}{b i:Nat}{vs:List Value}(hu:C2 u b i vs=u'):u.grownBy u' (some b):=by
 subst hu;exact V6 b vs i u
theorem B0n{w u u':World}{l l':List (Nat×TypeId×Array Value)}(h:Bx u l)(hf:Fr w (l.map (·.1)))(hG:A4 w u)(k:Nat){b:Nat}(hk:(l.map (·.1))[k]?=some b)(i:Nat)(vs:List Value)(hu:C2 u b i vs=u')
  (e:(l.modify k fun e=>(e.1,e.2.1,I2 e.2.2 i vs))=l':=by(simp only[List.modify_succ_cons,List.modify_zero_cons,I2,List.setIfInBounds_toArray,List.set_cons_zero,List.set_cons_succ,Nat.zero_add,Nat.reduceAdd];exact rfl)):Bx u' l'∧A4 w u':=e ▸ h.over hf hG k hk i vs hu
abbrev pcL(F B L:Value)(lo hi:Rat):Array Value:=#[F,B,L,.bool (D6 lo.num),.int .u64 (B8 lo.num.natAbs),.string (B6 lo.num.natAbs),.int .u64 (B8 (G9 lo.den)),.string (B6 (G9 lo.den)),.bool (D6 hi.num),.int .u64 (B8 hi.num.natAbs),.string (B6 hi.num.natAbs),.int .u64 (B8 (G9 hi.den)),.string (B6 (G9 hi.den))]
theorem B4C(F B L:Value)(hi:Rat):pcL F B L 0 hi=#[F,B,L,.bool false,.int .u64 0,.string ⟨#[]⟩,.int .u64 0,.string ⟨#[]⟩,.bool (D6 hi.num),.int .u64 (B8 hi.num.natAbs),.string (B6 hi.num.natAbs),.int .u64 (B8 (G9 hi.den)),.string (B6 (G9 hi.den))]:=by
 have h:qL 0=[.bool false,.int .u64 0,.string ⟨#[]⟩,.int .u64 0,.string ⟨#[]⟩]:=by kernel_rfl
 simp only[qL,List.cons.injEq]at h;obtain⟨h1,h2,h3,h4,h5,-⟩:=h;unfold pcL;rw[h1,h2,h3,h4,h5]
theorem B6m(b0:Nat)(FV BV:Value)(A3:Ax)(n:Nat)(l:List Lm)(top:Rat)(c3 c4 c5 c6 c7 c8 c9 c10 c11 c12:Value)(hl:l.length=n)(hn:n≤1000)(s S:Nat)(hs:∀x∈l,qs x.1≤s∧qs x.2≤s)(hS1:1≤S)(hS2:2*s≤S)(htop:qs top≤S)(hBz:2*S+10≤BIG)(w0 w:World)(HG00:A4 w0 w)(HT:Tab w0)(hb00:w0.heap.size≤b0)(hb:Blk w b0 165 #[FV,BV,.slice A3.1 n A3.2,c3,c4,c5,c6,c7,c8,c9,c10,c11,c12])(h:Le lmL 10 w A3.1 l)(hne3:∀a,A3.1=some a→a.block≠b0) :
  Calls Tryz.prog 115 #[.pointer (some ⟨b0,0,none⟩),qV top] w fun e w'=>∃lo hi,e = .returned (.bool (K7 l 0 top).isSome)∧(∀p,K7 l 0 top=some p→p=(lo,hi))∧Blk w' b0 165 (pcL FV BV (.slice A3.1 n A3.2) lo hi)∧w.grownBy w' (some b0):=by
 have hBm:=K5;have hat:∀i,i<n→∃b o,A3.1=some ⟨b,o,none⟩∧∀W,w.grownBy W (some b0)→Cq W b (o+i*10) (J8 l i).1∧Cq W b (o+i*10+5) (J8 l i).2:=fun i hi=>by
  obtain⟨b,o,e,hc⟩:=A9R h (i:=i) (by omega);refine⟨b,o,e,fun W hg=>?_⟩;have hnb:=hne3 _ e;have hcw:=hc w (A4.refl w);have key:∀(j:Nat) (v:Value),w.cell? ⟨b,j,none⟩=some v→W.cell? ⟨b,j,none⟩=some v:=fun j v hv=>hg.cell hv (fun e=>hnb (B9M e));obtain⟨⟨y1,y2,y3,y4,y5⟩,x1,x2,x3,x4,x5⟩:=hcw;exact⟨⟨key _ _ y1,key _ _ y2,key _ _ y3,key _ _ y4,key _ _ y5⟩,key _ _ x1,key _ _ x2,key _ _ x3,key _ _ x4,key _ _ x5⟩
 have hsz:∀i,i<n→qs (J8 l i).1≤s∧qs (J8 l i).2≤s:=fun i hi=>by
  have hi:i<l.length:=by omega
  have e2:J8 l i=l[i]:=by unfold J8;rw[B9w hi];rfl
  rw[e2];exact hs _ (B9U hi)
 have hdr:∀i,i<n→l.drop i=J8 l i::l.drop (i+1):=fun i hi=>by
  have hi:i<l.length:=by omega
  have e2:J8 l i=l[i]:=by unfold J8;rw[B9w hi];rfl
  rw[e2,←C0V hi]
 have hdn:l.drop n=[]:=by rw[←hl,List.drop_length]
 obtain⟨R,hR⟩:∃R,R=K7 l 0 top:=⟨_,rfl⟩
 rw[←hR];have hR0:K7 (l.drop 0) 0 top=R:=by rw[List.drop_zero,hR]
 have q0:qs 0≤S:=by
  have:qs 0=1:=by show max (bl 0) (bl 1)=1;rw[A0m,A2V.2 rfl];rfl
  omega
 obtain⟨A3,c3'⟩:=A3;simp only at hat;have Hat:=B9g hat;have Hsz:=B9g hsz;have Hdr:=B9g hdr;have Hdn:=B9g hdn;have HR0:=B9g hR0;have Hb:=B9g hb;have HG0:=B9g HG00;have hbw:=hb.lt;clear hat hsz hdr hdn hR0 hb HG00 hR h hs hl hne3;go_enter Tryz.func115,Tryz.ntmps115;refine en1 ?_;intro u hG b3 hB hF;refine B9b ?_;have hgb:=E8 (A34 w (some b0)) hG;have h3w:=hF.1 b3 (by simp);have hb0:=Hb.out.grow hG;have h03:w0.heap.size≤b3:=B9Y HG0.out.size h3w;have hne:b3≠b0:=by omega
 have hG2:=HG0.out.trans hG;have hT3:=hB.head;have h13:w.heap.size≤b3:=h3w;clear hG hB hF HG0 Hb h3w;obtain⟨w1,rfl⟩:=exQ w;obtain⟨w,rfl⟩:=exQ w0;have hG:=hG2;have hB:Bx u [(b3,48,S6 top),(b0,165,#[FV,BV,.slice A3 n c3',c3,c4,c5,c6,c7,c8,c9,c10,c11,c12])]:=Bx.cons hT3 (Bx.cons hb0 (Bx.nil u))
 have hF:Fr w [b3,b0]:=⟨fun b hb=>by
  simp only[List.mem_cons,List.not_mem_nil,or_false]at hb;rcases hb with rfl|rfl
  ·exact h03
  ·exact hb00,by simp;exact hne⟩
 have Hgb:=B9g hgb;clear hG2 hT3 hb0 hgb;refine B9O NoP.up ?_;have r:=hB.r;simp only[BxR]at r;have hD:b0≠b3∧b3≠b0:=⟨hF.ne 1 0 rfl rfl (by decide),hF.ne 0 1 rfl rfl (by decide)⟩
 go_region;clear r hD;generalize hu0:World.setCell (World.setCell (World.setCell (World.setCell (World.setCell u _ _) _ _) _ _) _ _) _ _=u0;have hBG:=B0n hB hF hG 1 rfl 3 [_,_,_,_,_] hu0;have Hgb2:=B9g (A1c Hgb.out (A5J (i:=3) (vs:=[_,_,_,_,_]) hu0));clear hB hG Hgb hu0;obtain⟨hB,hG⟩:=hBG;generalize hu1:World.setCell (World.setCell (World.setCell (World.setCell (World.setCell u0 _ _) _ _) _ _) _ _) _ _=u1;have hBG:=B0n hB hF hG 1 rfl 8 [_,_,_,_,_] hu1;have Hgb:=B9g (A1c Hgb2.out (A5J (i:=8) (vs:=[_,_,_,_,_]) hu1));clear hB hG Hgb2 hu1;obtain⟨hB,hG⟩:=hBG;obtain⟨u,rfl⟩:=exQ u1;have Hgb2:=B9g (E8 Hgb.out (A4.drew u));clear Hgb;have Hgb:=Hgb2;clear Hgb2;replace hB:=hB.grow (A4.drew u);replace hG:=hG.trans (A4.drew u);obtain⟨u,rfl⟩:=exQ u.drew;refine NoP.norm ?_;refine A6 ?_;refine B9b ?_;refine r0T ?_;refine B99 ?_;clear hF;have hgb:=Hgb.out;clear Hgb;go_loopw [23] (fun s0 wr=>∃(i:Nat) (lo hi:Rat),i≤n∧s0 = .int .i64 i∧K7 (l.drop i) lo hi=R∧qs lo≤S∧qs hi≤S∧Bx wr [(b3,48,S6 top),(b0,165,pcL FV BV (.slice A3 n c3') lo hi)]∧A4 w wr∧w1.grownBy wr (some b0)) (fun s0 _=>n-(intOf s0).toNat)
 case atStart=>exact⟨0,0,top,B9y _,rfl,HR0.out,q0,htop,by rw[B4C];exact hB,hG,hgb⟩
 case round =>
  clear hB hG hgb HR0;obtain⟨i,lo,hi,hin0,rfl,hRi,zlo,zhi,hB,hG,hgb⟩:=hrel;obtain⟨u,rfl⟩:=exQ wr
  have hF:Fr w [b3,b0]:=⟨fun b hb=>by
   simp only[List.mem_cons,List.not_mem_nil,or_false]at hb;rcases hb with rfl|rfl
   ·exact h03
   ·exact hb00,by simp;exact hne⟩
  have Hgb:=B9g hgb;clear hgb;rcases B9H i n with hlt|hge
  ·have hdec:decide ((i:Int)<(n:Int))=true:=by simp;omega
   have hin:(i:Int)<(n:Int):=by omega
   obtain⟨bl0,ol,eL,hrd⟩:=Hat.out i hlt;subst eL;obtain⟨z1,z2⟩:=Hsz.out i hlt;rw[Hdr.out i hlt]at hRi;obtain⟨⟨X,Y⟩,hX⟩:∃X,X=J8 l i:=⟨_,rfl⟩
   rw[←hX]at z1 z2 hRi;simp only[←hX]at hrd;simp only at z1 z2;have hsx:=fun W=>R3 X (by have:=G8 X;omega) W;have hsy:=fun W=>R3 Y (by have:=G8 Y;omega) W;have hng:=fun W=>A6e Y (by have:=G8 Y;omega) W;have zN:qs (I7 Y)≤s:=by unfold I7;rw[A2d];exact z2
   have hdv:=fun W hT=>A6k (I7 Y) X W (by omega) hT;have zD:qs (I8 (I7 Y) X)≤S:=by have:=A3i (I7 Y) X;unfold I8;omega
   have sx0:=@A83 X;have syn:=@A4s Y;have sxc:=A4U X;have syc:=A4U Y
   have hun:K7 ((X,Y)::l.drop (i+1)) lo hi=if X=0 then(if Y<0 then none else K7 (l.drop (i+1)) lo hi)else if 0<X then K7 (l.drop (i+1)) (S8 lo (I8 (I7 Y) X)) hi else K7 (l.drop (i+1)) lo (A0g hi (I8 (I7 Y) X)):=rfl
   rw[hun]at hRi;clear hun;obtain⟨D,hD⟩:∃D,D=I8 (I7 Y) X:=⟨_,rfl⟩
   rw[←hD]at zD hRi;simp only[←hD]at hdv;have hmx:=fun W=>A8Q lo D (by omega) W;have hmn:=fun W=>B3M hi D (by omega) W;have zmx:=B2q zlo zD;have zmn:=B5i zhi zD;obtain⟨Lo2,hLo2⟩:∃x,x=S8 lo D:=⟨_,rfl⟩
   obtain⟨Hi2,hHi2⟩:∃x,x=A0g hi D:=⟨_,rfl⟩
   rw[←hLo2]at zmx hRi;rw[←hHi2]at zmn hRi;simp only[←hLo2]at hmx;simp only[←hHi2]at hmn;obtain⟨NY,hNY⟩:∃x,x=I7 Y:=⟨_,rfl⟩
   simp only[←hNY]at hng hdv;obtain⟨nzf,hnz⟩:∃x,x=nzq X:=⟨_,rfl⟩
   simp only[←hnz]at hdv;obtain⟨SX,hSX⟩:=exQ X.num.sign;obtain⟨SY,hSY⟩:=exQ Y.num.sign;have sgp:0<X↔SX=1:=by
    rw[hSX];exact B13.symm
   rw[←hSX]at sx0 sxc;rw[←hSY]at syn syc;simp only[←hSX]at hsx;simp only[←hSY]at hsy;have Hrd:=B9g hrd;have Hsx:=B9g hsx;have Hsy:=B9g hsy;have Hng:=B9g hng;have Hdv:=B9g hdv;have Hmx:=B9g hmx;have Hmn:=B9g hmn;have Hz:=B9g (And.intro zlo (And.intro zhi (And.intro zmx zmn)));clear hrd hsx hsy hng hdv hmx hmn hX hD hLo2 hHi2 hNY hnz hSX hSY zN zD zmx zmn zlo zhi z1 z2;by_cases hX0:X=0
   ·have f0:(SX == 0)=true:=by rw[sx0];exact C0L hX0
    rw[if_pos hX0]at hRi;by_cases hY0:Y<0
    ·have f1:decide (SY<0)=true:=by rw[syn.2 hY0];rfl
     rw[if_pos hY0]at hRi;have HRi:=B9g hRi;clear hRi hX0 hY0 sx0 syn sxc syc sgp;refine r0T ?_;refine B9b ?_;refine B9j (rfl) ?_;refine B9i ?_;refine A6 ?_;refine B9b ?_;refine B99 ?_;refine B9b (rsC D3 [0,0,2] hB hG fun K L hN hL=>?_)
     repeat first|refine gya ?_|refine gyr ?_|refine gna ?_|refine gyb (by(rintro v ⟨hgu,hB,hG,-⟩ N hN;have r:=hB.r;simp only[BxR]at r;(try obtain⟨⟨y1,y2,y3,y4,y5⟩,x1,x2,x3,x4,x5⟩:=Hrd.out v (E8 Hgb.out hgu));go_simp;exact hN)) ?_
     refine gaa (A1z _ _ _ _ _) fun b6 hb6 hn6=>?_;replace hF:=hF.n1 [] hB hG hb6 hn6;refine geC hL ?_;clear hB hG hL L;rintro u ⟨⟨hgu,hB,hG,-⟩,h6⟩;replace hB:=hB.cons' h6;clear h6;have h6:w1.heap.size≤b6:=B9Y Hgb.out.size hb6;have Hgb2:=B9g (E8 Hgb.out hgu);clear Hgb;have Hgb:=Hgb2;clear Hgb2;clear hb6 hn6;clear hgu;refine gtT ?_;clear hN K;refine sv hB hF hG 0 0 [_,_,_,_,_,_,_,_,_,_] ?_;intro u2 hu hBG;have Hgb2:=B9g (A1Q (i:=0) (vs:=[_,_,_,_,_,_,_,_,_,_]) Hgb.out h6 hu);clear hB hG Hgb hu h6;obtain⟨hB,hG⟩:=hBG;have Hgb:=Hgb2;clear Hgb2;obtain⟨u,rfl⟩:=exQ u2;refine B9b ?_;refine B9b (rsE D3 [0,0,1,0] hB hG fun L hL=>?_)
     repeat first|refine gya ?_|refine gyr ?_|refine gna ?_|refine gyb (by(rintro v ⟨hgu,hB,hG,-⟩ N hN;have r:=hB.r;simp only[BxR]at r;(try obtain⟨⟨y1,y2,y3,y4,y5⟩,x1,x2,x3,x4,x5⟩:=Hrd.out v (E8 Hgb.out hgu));go_simp;exact hN)) ?_
     refine gmw (C:=fun v=>Hsx.out _) ?_;refine gs ?_;refine geT hL ?_;clear hB hG hL L;rintro u ⟨hgu,hB,hG,-⟩;have Hgb2:=B9g (E8 Hgb.out hgu);clear Hgb;have Hgb:=Hgb2;clear Hgb2;clear hgu;refine B9j (rfl) ?_;refine B9b ?_;refine B9b (rsE D3 [0,0,1,0] hB hG fun L hL=>?_)
     repeat first|refine gya ?_|refine gyr ?_|refine gna ?_|refine gyb (by(rintro v ⟨hgu,hB,hG,-⟩ N hN;have r:=hB.r;simp only[BxR]at r;(try obtain⟨⟨y1,y2,y3,y4,y5⟩,x1,x2,x3,x4,x5⟩:=Hrd.out v (E8 Hgb.out hgu));go_simp;exact hN)) ?_
     refine gmw (C:=fun v=>Hsy.out _) ?_;refine gs ?_;refine geT hL ?_;clear hB hG hL L;rintro u ⟨hgu,hB,hG,-⟩;have Hgb2:=B9g (E8 Hgb.out hgu);clear Hgb;have Hgb:=Hgb2;clear Hgb2;clear hgu;refine B9j (rfl) ?_;refine r0T ?_;refine rt Tryz.results115 ?_;exact⟨lo,hi,by rw[←HRi.out];rfl,(fun p hp=>by rw[←HRi.out]at hp;cases hp),hB.tail.tail.head,Hgb.out⟩
    ·have f1:decide (SY<0)=false:=by
      have:SY ≠ -1:=fun e=>hY0 (syn.1 e);simp;omega
     rw[if_neg hY0]at hRi;have HRi:=B9g hRi;clear hRi hX0 hY0 sx0 syn sxc syc sgp;refine r0T ?_;refine B9b ?_;refine B9j (rfl) ?_;refine B9i ?_;refine A6 ?_;refine B9b ?_;refine B99 ?_;refine B9b (rsC D3 [0,0,2] hB hG fun K L hN hL=>?_)
     repeat first|refine gya ?_|refine gyr ?_|refine gna ?_|refine gyb (by(rintro v ⟨hgu,hB,hG,-⟩ N hN;have r:=hB.r;simp only[BxR]at r;(try obtain⟨⟨y1,y2,y3,y4,y5⟩,x1,x2,x3,x4,x5⟩:=Hrd.out v (E8 Hgb.out hgu));go_simp;exact hN)) ?_
     refine gaa (A1z _ _ _ _ _) fun b6 hb6 hn6=>?_;replace hF:=hF.n1 [] hB hG hb6 hn6;refine geC hL ?_;clear hB hG hL L;rintro u ⟨⟨hgu,hB,hG,-⟩,h6⟩;replace hB:=hB.cons' h6;clear h6;have h6:w1.heap.size≤b6:=B9Y Hgb.out.size hb6;have Hgb2:=B9g (E8 Hgb.out hgu);clear Hgb;have Hgb:=Hgb2;clear Hgb2;clear hb6 hn6;clear hgu;refine gtT ?_;clear hN K;refine sv hB hF hG 0 0 [_,_,_,_,_,_,_,_,_,_] ?_;intro u2 hu hBG;have Hgb2:=B9g (A1Q (i:=0) (vs:=[_,_,_,_,_,_,_,_,_,_]) Hgb.out h6 hu);clear hB hG Hgb hu h6;obtain⟨hB,hG⟩:=hBG;have Hgb:=Hgb2;clear Hgb2;obtain⟨u,rfl⟩:=exQ u2;refine B9b ?_;refine B9b (rsE D3 [0,0,1,0] hB hG fun L hL=>?_)
     repeat first|refine gya ?_|refine gyr ?_|refine gna ?_|refine gyb (by(rintro v ⟨hgu,hB,hG,-⟩ N hN;have r:=hB.r;simp only[BxR]at r;(try obtain⟨⟨y1,y2,y3,y4,y5⟩,x1,x2,x3,x4,x5⟩:=Hrd.out v (E8 Hgb.out hgu));go_simp;exact hN)) ?_
     refine gmw (C:=fun v=>Hsx.out _) ?_;refine gs ?_;refine geT hL ?_;clear hB hG hL L;rintro u ⟨hgu,hB,hG,-⟩;have Hgb2:=B9g (E8 Hgb.out hgu);clear Hgb;have Hgb:=Hgb2;clear Hgb2;clear hgu;refine B9j (rfl) ?_;refine B9b ?_;refine B9b (rsE D3 [0,0,1,0] hB hG fun L hL=>?_)
     repeat first|refine gya ?_|refine gyr ?_|refine gna ?_|refine gyb (by(rintro v ⟨hgu,hB,hG,-⟩ N hN;have r:=hB.r;simp only[BxR]at r;(try obtain⟨⟨y1,y2,y3,y4,y5⟩,x1,x2,x3,x4,x5⟩:=Hrd.out v (E8 Hgb.out hgu));go_simp;exact hN)) ?_
     refine gmw (C:=fun v=>Hsy.out _) ?_;refine gs ?_;refine geT hL ?_;clear hB hG hL L;rintro u ⟨hgu,hB,hG,-⟩;have Hgb2:=B9g (E8 Hgb.out hgu);clear Hgb;have Hgb:=Hgb2;clear Hgb2;clear hgu;refine B9h (rfl) ?_;refine B9i ?_;refine A6 ?_;refine C0B ?_;refine C0 ?_;refine E4 ?_;refine A6 ?_;refine r0E ?_;refine A6 ?_;go_roundw
     case rel=>exact⟨i+1,lo,hi,by omega,by go_num,HRi.out,Hz.out.1,Hz.out.2.1,hB.tail,hG,Hgb.out⟩
     case measure=>simp[intOf];omega
   ·have f0:(SX == 0)=false:=by rw[sx0];exact C0Q hX0
    rw[if_neg hX0]at hRi;by_cases hXp:0<X
    ·have f1:decide (0<SX)=true:=by rw[sgp.1 hXp];rfl
     rw[if_pos hXp]at hRi;have HRi:=B9g hRi;clear hRi hX0 hXp sx0 syn sxc syc sgp;refine r0T ?_;refine B9b ?_;refine B9j (rfl) ?_;refine B9i ?_;refine A6 ?_;refine B9b ?_;refine B99 ?_;refine B9b (rsC D3 [0,0,2] hB hG fun K L hN hL=>?_)
     repeat first|refine gya ?_|refine gyr ?_|refine gna ?_|refine gyb (by(rintro v ⟨hgu,hB,hG,-⟩ N hN;have r:=hB.r;simp only[BxR]at r;(try obtain⟨⟨y1,y2,y3,y4,y5⟩,x1,x2,x3,x4,x5⟩:=Hrd.out v (E8 Hgb.out hgu));go_simp;exact hN)) ?_
     refine gaa (A1z _ _ _ _ _) fun b6 hb6 hn6=>?_;replace hF:=hF.n1 [] hB hG hb6 hn6;refine geC hL ?_;clear hB hG hL L;rintro u ⟨⟨hgu,hB,hG,-⟩,h6⟩;replace hB:=hB.cons' h6;clear h6;have h6:w1.heap.size≤b6:=B9Y Hgb.out.size hb6;have Hgb2:=B9g (E8 Hgb.out hgu);clear Hgb;have Hgb:=Hgb2;clear Hgb2;clear hb6 hn6;clear hgu;refine gtT ?_;clear hN K;refine sv hB hF hG 0 0 [_,_,_,_,_,_,_,_,_,_] ?_;intro u2 hu hBG;have Hgb2:=B9g (A1Q (i:=0) (vs:=[_,_,_,_,_,_,_,_,_,_]) Hgb.out h6 hu);clear hB hG Hgb hu h6;obtain⟨hB,hG⟩:=hBG;have Hgb:=Hgb2;clear Hgb2;obtain⟨u,rfl⟩:=exQ u2;refine B9b ?_;refine B9b (rsE D3 [0,0,1,0] hB hG fun L hL=>?_)
     repeat first|refine gya ?_|refine gyr ?_|refine gna ?_|refine gyb (by(rintro v ⟨hgu,hB,hG,-⟩ N hN;have r:=hB.r;simp only[BxR]at r;(try obtain⟨⟨y1,y2,y3,y4,y5⟩,x1,x2,x3,x4,x5⟩:=Hrd.out v (E8 Hgb.out hgu));go_simp;exact hN)) ?_
     refine gmw (C:=fun v=>Hsx.out _) ?_;refine gs ?_;refine geT hL ?_;clear hB hG hL L;rintro u ⟨hgu,hB,hG,-⟩;have Hgb2:=B9g (E8 Hgb.out hgu);clear Hgb;have Hgb:=Hgb2;clear Hgb2;clear hgu;refine B9h (rfl) ?_;refine B9i ?_;refine A6 ?_;refine B9b (rdC D3 [8] [(0,0),(0,1),(0,3),(0,4),(1,2),(1,5),(0,6),(0,7),(0,8),(2,9)] hB hG fun K L hN hL=>?_)
     repeat first|refine gya ?_|refine gyr ?_|refine gna ?_|refine gyb (by(rintro v ⟨hgu,hB,hG,-⟩ N hN;have r:=hB.r;simp only[BxR]at r;(try obtain⟨⟨y1,y2,y3,y4,y5⟩,x1,x2,x3,x4,x5⟩:=Hrd.out v (E8 Hgb.out hgu));go_simp;exact hN)) ?_
     refine gmw (C:=fun v=>Hng.out _) ?_;refine gmd (C:=fun v ⟨hgu,hB,hG,_⟩=>Hdv.out _ (HT.grow hG)) ?_;refine gs ?_;refine gaa (J5 _ _ _ _ _) fun b7 hb7 hn7=>?_;replace hF:=hF.n1 [] hB hG hb7 hn7;refine geC hL ?_;clear hB hG hL L;rintro u ⟨⟨hgu,hB,hG,-⟩,h7⟩;replace hB:=hB.cons' h7;clear h7;have h7:w1.heap.size≤b7:=B9Y Hgb.out.size hb7;have Hgb2:=B9g (E8 Hgb.out hgu);clear Hgb;have Hgb:=Hgb2;clear Hgb2;clear hb7 hn7;clear hgu;refine gtT ?_;clear hN K;refine sv hB hF hG 0 0 [_,_,_,_,_] ?_;intro u2 hu hBG;have Hgb2:=B9g (A1Q (i:=0) (vs:=[_,_,_,_,_]) Hgb.out h7 hu);clear hB hG Hgb hu h7;obtain⟨hB,hG⟩:=hBG;have Hgb:=Hgb2;clear Hgb2;obtain⟨u,rfl⟩:=exQ u2;refine B9b (rsE D3 [0,0,1,0] hB hG fun L hL=>?_)
     repeat first|refine gya ?_|refine gyr ?_|refine gna ?_|refine gyb (by(rintro v ⟨hgu,hB,hG,-⟩ N hN;have r:=hB.r;simp only[BxR]at r;(try obtain⟨⟨y1,y2,y3,y4,y5⟩,x1,x2,x3,x4,x5⟩:=Hrd.out v (E8 Hgb.out hgu));go_simp;exact hN)) ?_
     refine gmw (C:=fun v=>Hsx.out _) ?_;refine gs ?_;refine geT hL ?_;clear hB hG hL L;rintro u ⟨hgu,hB,hG,-⟩;have Hgb2:=B9g (E8 Hgb.out hgu);clear Hgb;have Hgb:=Hgb2;clear Hgb2;clear hgu;refine B9j (rfl) ?_;refine rdC D3 [] [(0,0),(0,1),(0,2),(0,3),(0,4),(0,5),(1,6),(0,7),(0,8)] hB hG fun K L hN hL=>?_
     repeat first|refine gya ?_|refine gyr ?_|refine gna ?_|refine gyb (by(rintro v ⟨hgu,hB,hG,-⟩ N hN;have r:=hB.r;simp only[BxR]at r;(try obtain⟨⟨y1,y2,y3,y4,y5⟩,x1,x2,x3,x4,x5⟩:=Hrd.out v (E8 Hgb.out hgu));go_simp;exact hN)) ?_
     refine gmw (C:=fun v=>Hmx.out _) ?_
     repeat first|refine gya ?_|refine gyr ?_|refine gna ?_|refine gyb (by(rintro v ⟨hgu,hB,hG,-⟩ N hN;have r:=hB.r;simp only[BxR]at r;(try obtain⟨⟨y1,y2,y3,y4,y5⟩,x1,x2,x3,x4,x5⟩:=Hrd.out v (E8 Hgb.out hgu));go_simp;exact hN)) ?_
     refine geC hL ?_;clear hB hG hL L;rintro u ⟨hgu,hB,hG,-⟩;have Hgb2:=B9g (E8 Hgb.out hgu);clear Hgb;have Hgb:=Hgb2;clear Hgb2;clear hgu;refine gt ?_;clear hN K;refine sv hB hF hG 3 3 [_,_,_,_,_] ?_;intro u2 hu hBG;have Hgb2:=B9g (A1c Hgb.out (A5J (i:=3) (vs:=[_,_,_,_,_]) hu));clear hB hG Hgb hu;obtain⟨hB,hG⟩:=hBG;have Hgb:=Hgb2;clear Hgb2;obtain⟨u,rfl⟩:=exQ u2;refine C8 ?_;refine A6 ?_;refine r0E ?_;refine A6 ?_;go_roundw
     case rel=>exact⟨i+1,Lo2,hi,by omega,by go_num,HRi.out,Hz.out.2.2.1,Hz.out.2.1,hB.tail.tail,hG,Hgb.out⟩
     case measure=>simp[intOf];omega
    ·have f1:decide (0<SX)=false:=by
      have:SX≠1:=fun e=>hXp (sgp.2 e);simp;omega
     rw[if_neg hXp]at hRi;have HRi:=B9g hRi;clear hRi hX0 hXp sx0 syn sxc syc sgp;refine r0T ?_;refine B9b ?_;refine B9j (rfl) ?_;refine B9i ?_;refine A6 ?_;refine B9b ?_;refine B99 ?_;refine B9b (rsC D3 [0,0,2] hB hG fun K L hN hL=>?_)
     repeat first|refine gya ?_|refine gyr ?_|refine gna ?_|refine gyb (by(rintro v ⟨hgu,hB,hG,-⟩ N hN;have r:=hB.r;simp only[BxR]at r;(try obtain⟨⟨y1,y2,y3,y4,y5⟩,x1,x2,x3,x4,x5⟩:=Hrd.out v (E8 Hgb.out hgu));go_simp;exact hN)) ?_
     refine gaa (A1z _ _ _ _ _) fun b6 hb6 hn6=>?_;replace hF:=hF.n1 [] hB hG hb6 hn6;refine geC hL ?_;clear hB hG hL L;rintro u ⟨⟨hgu,hB,hG,-⟩,h6⟩;replace hB:=hB.cons' h6;clear h6;have h6:w1.heap.size≤b6:=B9Y Hgb.out.size hb6;have Hgb2:=B9g (E8 Hgb.out hgu);clear Hgb;have Hgb:=Hgb2;clear Hgb2;clear hb6 hn6;clear hgu;refine gtT ?_;clear hN K;refine sv hB hF hG 0 0 [_,_,_,_,_,_,_,_,_,_] ?_;intro u2 hu hBG;have Hgb2:=B9g (A1Q (i:=0) (vs:=[_,_,_,_,_,_,_,_,_,_]) Hgb.out h6 hu);clear hB hG Hgb hu h6;obtain⟨hB,hG⟩:=hBG;have Hgb:=Hgb2;clear Hgb2;obtain⟨u,rfl⟩:=exQ u2;refine B9b ?_;refine B9b (rsE D3 [0,0,1,0] hB hG fun L hL=>?_)
     repeat first|refine gya ?_|refine gyr ?_|refine gna ?_|refine gyb (by(rintro v ⟨hgu,hB,hG,-⟩ N hN;have r:=hB.r;simp only[BxR]at r;(try obtain⟨⟨y1,y2,y3,y4,y5⟩,x1,x2,x3,x4,x5⟩:=Hrd.out v (E8 Hgb.out hgu));go_simp;exact hN)) ?_
     refine gmw (C:=fun v=>Hsx.out _) ?_;refine gs ?_;refine geT hL ?_;clear hB hG hL L;rintro u ⟨hgu,hB,hG,-⟩;have Hgb2:=B9g (E8 Hgb.out hgu);clear Hgb;have Hgb:=Hgb2;clear Hgb2;clear hgu;refine B9h (rfl) ?_;refine B9i ?_;refine A6 ?_;refine B9b (rdC D3 [8] [(0,0),(0,1),(0,3),(0,4),(1,2),(1,5),(0,6),(0,7),(0,8),(2,9)] hB hG fun K L hN hL=>?_)
     repeat first|refine gya ?_|refine gyr ?_|refine gna ?_|refine gyb (by(rintro v ⟨hgu,hB,hG,-⟩ N hN;have r:=hB.r;simp only[BxR]at r;(try obtain⟨⟨y1,y2,y3,y4,y5⟩,x1,x2,x3,x4,x5⟩:=Hrd.out v (E8 Hgb.out hgu));go_simp;exact hN)) ?_
     refine gmw (C:=fun v=>Hng.out _) ?_;refine gmd (C:=fun v ⟨hgu,hB,hG,_⟩=>Hdv.out _ (HT.grow hG)) ?_;refine gs ?_;refine gaa (J5 _ _ _ _ _) fun b7 hb7 hn7=>?_;replace hF:=hF.n1 [] hB hG hb7 hn7;refine geC hL ?_;clear hB hG hL L;rintro u ⟨⟨hgu,hB,hG,-⟩,h7⟩;replace hB:=hB.cons' h7;clear h7;have h7:w1.heap.size≤b7:=B9Y Hgb.out.size hb7;have Hgb2:=B9g (E8 Hgb.out hgu);clear Hgb;have Hgb:=Hgb2;clear Hgb2;clear hb7 hn7;clear hgu;refine gtT ?_;clear hN K;refine sv hB hF hG 0 0 [_,_,_,_,_] ?_;intro u2 hu hBG;have Hgb2:=B9g (A1Q (i:=0) (vs:=[_,_,_,_,_]) Hgb.out h7 hu);clear hB hG Hgb hu h7;obtain⟨hB,hG⟩:=hBG;have Hgb:=Hgb2;clear Hgb2;obtain⟨u,rfl⟩:=exQ u2;refine B9b (rsE D3 [0,0,1,0] hB hG fun L hL=>?_)
     repeat first|refine gya ?_|refine gyr ?_|refine gna ?_|refine gyb (by(rintro v ⟨hgu,hB,hG,-⟩ N hN;have r:=hB.r;simp only[BxR]at r;(try obtain⟨⟨y1,y2,y3,y4,y5⟩,x1,x2,x3,x4,x5⟩:=Hrd.out v (E8 Hgb.out hgu));go_simp;exact hN)) ?_
     refine gmw (C:=fun v=>Hsx.out _) ?_;refine gs ?_;refine geT hL ?_;clear hB hG hL L;rintro u ⟨hgu,hB,hG,-⟩;have Hgb2:=B9g (E8 Hgb.out hgu);clear Hgb;have Hgb:=Hgb2;clear Hgb2;clear hgu;refine B9h (rfl) ?_;refine rdC D3 [] [(0,0),(0,1),(0,2),(0,3),(0,4),(0,5),(1,6),(0,7),(0,8)] hB hG fun K L hN hL=>?_
     repeat first|refine gya ?_|refine gyr ?_|refine gna ?_|refine gyb (by(rintro v ⟨hgu,hB,hG,-⟩ N hN;have r:=hB.r;simp only[BxR]at r;(try obtain⟨⟨y1,y2,y3,y4,y5⟩,x1,x2,x3,x4,x5⟩:=Hrd.out v (E8 Hgb.out hgu));go_simp;exact hN)) ?_
     refine gmw (C:=fun v=>Hmn.out _) ?_
     repeat first|refine gya ?_|refine gyr ?_|refine gna ?_|refine gyb (by(rintro v ⟨hgu,hB,hG,-⟩ N hN;have r:=hB.r;simp only[BxR]at r;(try obtain⟨⟨y1,y2,y3,y4,y5⟩,x1,x2,x3,x4,x5⟩:=Hrd.out v (E8 Hgb.out hgu));go_simp;exact hN)) ?_
     refine geC hL ?_;clear hB hG hL L;rintro u ⟨hgu,hB,hG,-⟩;have Hgb2:=B9g (E8 Hgb.out hgu);clear Hgb;have Hgb:=Hgb2;clear Hgb2;clear hgu;refine gt ?_;clear hN K;refine sv hB hF hG 3 8 [_,_,_,_,_] ?_;intro u2 hu hBG;have Hgb2:=B9g (A1c Hgb.out (A5J (i:=8) (vs:=[_,_,_,_,_]) hu));clear hB hG Hgb hu;obtain⟨hB,hG⟩:=hBG;have Hgb:=Hgb2;clear Hgb2;obtain⟨u,rfl⟩:=exQ u2;refine C8 ?_;refine A6 ?_;refine r0E ?_;refine A6 ?_;go_roundw
     case rel=>exact⟨i+1,lo,Hi2,by omega,by go_num,HRi.out,Hz.out.1,Hz.out.2.2.2,hB.tail.tail,hG,Hgb.out⟩
     case measure=>simp[intOf];omega
  ·obtain rfl:n=i:=by omega
   have hdec:decide ((n:Int)<(n:Int))=false:=by simp
   rw[Hdn.out]at hRi;have hcm:=fun W=>A1m lo hi W (by omega);have hc0:decide (I3 lo hi≤0)=decide (lo≤hi):=by
    unfold I3;by_cases h1:lo<hi
    ·have:lo≤hi:=Rat.le_of_lt h1;simp[h1,this]
    ·by_cases h2:hi<lo
     ·have:¬lo≤hi:=by grind
      simp[h1,h2,this]
     ·have:lo≤hi:=by grind
      simp[h1,h2,this]
   have hun:K7 [] lo hi=if lo≤hi then some (lo,hi)else none:=rfl
   rw[hun]at hRi;obtain⟨SC,hSC⟩:∃x,x=I3 lo hi:=⟨_,rfl⟩
   rw[←hSC]at hc0;simp only[←hSC]at hcm;have Hcm:=B9g hcm;have hRs:R.isSome=decide (SC≤0)∧∀p,R=some p→p=(lo,hi):=by
    rw[hc0,←hRi];by_cases h1:lo≤hi
    ·rw[if_pos h1];exact⟨by simp[h1],fun p hp=>(B9M hp).symm⟩
    ·rw[if_neg h1];exact⟨by simp[h1],fun p hp=>by cases hp⟩
   have HRs:=B9g hRs;clear hcm hc0 hun hSC hRs hRi zlo zhi;refine r0T ?_;refine B9b ?_;refine B9h (rfl) ?_;refine C0B ?_;refine C0 ?_;refine C0 ?_;refine E4 ?_;refine A6 ?_;refine B9b (rdC D3 [] [(0,0),(0,1),(0,2),(0,3),(0,4),(0,5),(0,6),(0,7),(1,8),(0,9)] hB hG fun K L hN hL=>?_)
   repeat first|refine gya ?_|refine gyr ?_|refine gna ?_|refine gyb (by(rintro v ⟨hgu,hB,hG,-⟩ N hN;have r:=hB.r;simp only[BxR]at r;(try obtain⟨⟨y1,y2,y3,y4,y5⟩,x1,x2,x3,x4,x5⟩:=Hrd.out v (E8 Hgb.out hgu));go_simp;exact hN)) ?_
   refine gmw (C:=fun v=>Hcm.out _) ?_;refine gs ?_;refine geC hL ?_;clear hB hG hL L;rintro u ⟨hgu,hB,hG,-⟩;have Hgb2:=B9g (E8 Hgb.out hgu);clear Hgb;have Hgb:=Hgb2;clear Hgb2;clear hgu;refine gtT ?_;clear hN K;refine rt Tryz.results115 ?_;exact⟨lo,hi,by rw[HRs.out.1],HRs.out.2,hB.tail.head,Hgb.out⟩
end Go.Proofs.YtgpglgbcobeogaaGreatDoor
