import Derived.Test.YtgpglgbcobeogaaGreatDoorN43
set_option linter.unusedSimpArgs false
set_option linter.unusedVariables false
set_option maxHeartbeats 4000000
set_option maxRecDepth 100000
namespace Go.Proofs.YtgpglgbcobeogaaGreatDoor
open Go Go.RowKit
theorem B4x(a b:Rat)(h:qs a+qs b+1<=BIG)(w:World):Calls Tryz.prog 156 #[qV a,qV b] w λe w'=>e = .returned (qV (A0W a b))/\A4 w w':=by
 have hc:=λW=>W8 b a W (by omega);have hz:decide (E9 b a<0)=decide (b<a):=by
  unfold E9;by_cases h1:b<a
  ·simp[h1]
  ·by_cases h2:a<b<;>simp[h1,h2]
 obtain⟨Z,hZ⟩:∃Z,Z=E9 b a:=⟨_,rfl⟩
 rw[<-hZ]at hz;simp only[<-hZ]at hc;have Hc:=B9I hc;clear hc hZ;by_cases hab:b<a
 ·have fZ:decide (Z<0)=true:=by rw[hz];exact B9x hab
  have e:A0W a b=b:=if_pos hab;rw[e];clear hab hz e;go_enter Tryz.func156,Tryz.ntmps156;refine en3 ?_;intro u hG b4 b3 b2 hB hF;refine B9D ?_;refine B9D (rsE A8 [0,0,1,0] hB hG λL hL=>?_);refine gs ?_;refine gmw (C:=λv=>Hc.out _) ?_;refine gs ?_;refine geT hL ?_;clear hB hG hL L;rintro u ⟨-,hB,hG,-⟩;refine B9L (rfl) ?_;refine r0T ?_;refine st hB hF hG 2 0 [_,_,_,_,_] ?_;clear hB hG;intro u hB hG;refine rt Tryz.results156 ?_;exact⟨rfl,hG⟩
 ·have fZ:decide (Z<0)=false:=by rw[hz];exact B92 hab
  have e:A0W a b=a:=if_neg hab;rw[e];clear hab hz e;go_enter Tryz.func156,Tryz.ntmps156;refine en3 ?_;intro u hG b4 b3 b2 hB hF;refine B9D ?_;refine B9D (rsE A8 [0,0,1,0] hB hG λL hL=>?_);refine gs ?_;refine gmw (C:=λv=>Hc.out _) ?_;refine gs ?_;refine geT hL ?_;clear hB hG hL L;rintro u ⟨-,hB,hG,-⟩;refine B9J (rfl) ?_;refine B9K ?_;refine A6 ?_;refine r0T ?_;refine st hB hF hG 2 0 [_,_,_,_,_] ?_;clear hB hG;intro u hB hG;refine rt Tryz.results156 ?_;exact⟨rfl,hG⟩
theorem B1b{a b:Rat}{s:Nat}(h1:qs a<=s)(h2:qs b<=s):qs (R9 a b)<=s:=by
 unfold R9;split<;>assumption
theorem B8k{a b:Rat}{s:Nat}(h1:qs a<=s)(h2:qs b<=s):qs (A0W a b)<=s:=by
 unfold A0W;split<;>assumption
theorem A34{u u':World}{b i:Nat}{vs:List Value}(hu:C2 u b i vs=u'):u.grownBy u' (some b):=by
 subst hu;exact V6 b vs i u
theorem B0j{w u u':World}{l l':List (Nat×TypeId×Array Value)}(h:Bx u l)(hf:Fr w (l.map (·.1)))(hG:A4 w u)(k:Nat){b:Nat}(hk:(l.map (·.1))[k]?=some b)(i:Nat)(vs:List Value)(hu:C2 u b i vs=u')
  (e:(l.modify k λe=>(e.1,e.2.1,I7 e.2.2 i vs))=l':=by(simp only[List.modify_succ_cons,List.modify_zero_cons,I7,List.setIfInBounds_toArray,List.set_cons_zero,List.set_cons_succ,Nat.zero_add,Nat.reduceAdd];exact rfl)):Bx u' l'/\A4 w u':=e ▸ h.over hf hG k hk i vs hu
abbrev pcL(F B L:Value)(lo hi:Rat):Array Value:=#[F,B,L,.bool (E0 lo.num),.int .u64 (B8 lo.num.natAbs),.string (B6 lo.num.natAbs),.int .u64 (B8 (H6 lo.den)),.string (B6 (H6 lo.den)),.bool (E0 hi.num),.int .u64 (B8 hi.num.natAbs),.string (B6 hi.num.natAbs),.int .u64 (B8 (H6 hi.den)),.string (B6 (H6 hi.den))]
theorem B2r(F B L:Value)(hi:Rat):pcL F B L 0 hi=#[F,B,L,.bool false,.int .u64 0,.string ⟨#[]⟩,.int .u64 0,.string ⟨#[]⟩,.bool (E0 hi.num),.int .u64 (B8 hi.num.natAbs),.string (B6 hi.num.natAbs),.int .u64 (B8 (H6 hi.den)),.string (B6 (H6 hi.den))]:=by
 have h:qL 0=[.bool false,.int .u64 0,.string ⟨#[]⟩,.int .u64 0,.string ⟨#[]⟩]:=by kernel_rfl
 simp only[qL,List.cons.injEq]at h;obtain⟨h1,h2,h3,h4,h5,-⟩:=h;unfold pcL;rw[h1,h2,h3,h4,h5]
theorem B47(b0:Nat)(FV BV:Value)(A3:Ax)(n:Nat)(l:List Lm)(top:Rat)(c3 c4 c5 c6 c7 c8 c9 c10 c11 c12:Value)(hl:l.length=n)(hn:n<=1000)(s S:Nat)(hs:∀x∈l,qs x.1<=s/\qs x.2<=s)(hS1:1<=S)(hS2:2*s<=S)(htop:qs top<=S)(hBz:2*S+10<=BIG)(w0 w:World)(HG00:A4 w0 w)(HT:Tab w0)(hb00:w0.heap.size<=b0)(hb:Blk w b0 165 #[FV,BV,.slice A3.1 n A3.2,c3,c4,c5,c6,c7,c8,c9,c10,c11,c12])(h:Le lmL 10 w A3.1 l)(hne3:∀a,A3.1=some a->a.block≠b0) :
  Calls Tryz.prog 115 #[.pointer (some ⟨b0,0,none⟩),qV top] w λe w'=>∃lo hi,e = .returned (.bool (K6 l 0 top).isSome)/\(∀p,K6 l 0 top=some p->p=(lo,hi))/\Blk w' b0 165 (pcL FV BV (.slice A3.1 n A3.2) lo hi)/\w.grownBy w' (some b0):=by
 have hBm:=J7;have hat:∀i,i<n->∃b o,A3.1=some ⟨b,o,none⟩/\∀W,w.grownBy W (some b0)->Cq W b (o+i*10) (J9 l i).1/\Cq W b (o+i*10+5) (J9 l i).2:=λi hi=>by
  obtain⟨b,o,e,hc⟩:=A9Y h (i:=i) (by omega);refine⟨b,o,e,λW hg=>?_⟩;have hnb:=hne3 _ e;have hcw:=hc w (A4.refl w);have key:∀(j:Nat) (v:Value),w.cell? ⟨b,j,none⟩=some v->W.cell? ⟨b,j,none⟩=some v:=λj v hv=>hg.cell hv (λe=>hnb (B8y e));obtain⟨⟨y1,y2,y3,y4,y5⟩,x1,x2,x3,x4,x5⟩:=hcw;exact⟨⟨key _ _ y1,key _ _ y2,key _ _ y3,key _ _ y4,key _ _ y5⟩,key _ _ x1,key _ _ x2,key _ _ x3,key _ _ x4,key _ _ x5⟩
 have hsz:∀i,i<n->qs (J9 l i).1<=s/\qs (J9 l i).2<=s:=λi hi=>by
  have hi:i<l.length:=by omega
  have e2:J9 l i=l[i]:=by unfold J9;rw[B9Y hi];rfl
  rw[e2];exact hs _ (B86 hi)
 have hdr:∀i,i<n->l.drop i=J9 l i::l.drop (i+1):=λi hi=>by
  have hi:i<l.length:=by omega
  have e2:J9 l i=l[i]:=by unfold J9;rw[B9Y hi];rfl
  rw[e2,<-B97 hi]
 have hdn:l.drop n=[]:=by rw[<-hl,List.drop_length]
 obtain⟨R,hR⟩:∃R,R=K6 l 0 top:=⟨_,rfl⟩
 rw[<-hR];have hR0:K6 (l.drop 0) 0 top=R:=by rw[List.drop_zero,hR]
 have q0:qs 0<=S:=by
  have:qs 0=1:=by show max (bl 0) (bl 1)=1;rw[A0w,A2p.2 rfl];rfl
  omega
 obtain⟨A3,c3'⟩:=A3;simp only at hat;have Hat:=B9I hat;have Hsz:=B9I hsz;have Hdr:=B9I hdr;have Hdn:=B9I hdn;have HR0:=B9I hR0;have Hb:=B9I hb;have HG0:=B9I HG00;have hbw:=hb.lt;clear hat hsz hdr hdn hR0 hb HG00 hR h hs hl hne3;go_enter Tryz.func115,Tryz.ntmps115;refine en1 ?_;intro u hG b3 hB hF;refine B9D ?_;have hgb:=F0 (A44 w (some b0)) hG;have h3w:=hF.1 b3 (by simp);have hb0:=Hb.out.grow hG;have h03:w0.heap.size<=b3:=B9A HG0.out.size h3w;have hne:b3≠b0:=by omega
 have hG2:=HG0.out.trans hG;have hT3:=hB.head;have h13:w.heap.size<=b3:=h3w;clear hG hB hF HG0 Hb h3w;obtain⟨w1,rfl⟩:=exQ w;obtain⟨w,rfl⟩:=exQ w0;have hG:=hG2;have hB:Bx u [(b3,48,L9 top),(b0,165,#[FV,BV,.slice A3 n c3',c3,c4,c5,c6,c7,c8,c9,c10,c11,c12])]:=Bx.cons hT3 (Bx.cons hb0 (Bx.nil u))
 have hF:Fr w [b3,b0]:=⟨λb hb=>by
  simp only[List.mem_cons,List.not_mem_nil,or_false]at hb;rcases hb with rfl|rfl
  ·exact h03
  ·exact hb00,by simp;exact hne⟩
 have Hgb:=B9I hgb;clear hG2 hT3 hb0 hgb;refine B80 NoP.up ?_;have r:=hB.r;simp only[BxR]at r;have hD:b0≠b3/\b3≠b0:=⟨hF.ne 1 0 rfl rfl (by decide),hF.ne 0 1 rfl rfl (by decide)⟩
 go_region;clear r hD;generalize hu0:World.setCell (World.setCell (World.setCell (World.setCell (World.setCell u _ _) _ _) _ _) _ _) _ _=u0;have hBG:=B0j hB hF hG 1 rfl 3 [_,_,_,_,_] hu0;have Hgb2:=B9I (A1r Hgb.out (A34 (i:=3) (vs:=[_,_,_,_,_]) hu0));clear hB hG Hgb hu0;obtain⟨hB,hG⟩:=hBG;generalize hu1:World.setCell (World.setCell (World.setCell (World.setCell (World.setCell u0 _ _) _ _) _ _) _ _) _ _=u1;have hBG:=B0j hB hF hG 1 rfl 8 [_,_,_,_,_] hu1;have Hgb:=B9I (A1r Hgb2.out (A34 (i:=8) (vs:=[_,_,_,_,_]) hu1));clear hB hG Hgb2 hu1;obtain⟨hB,hG⟩:=hBG;obtain⟨u,rfl⟩:=exQ u1;have Hgb2:=B9I (F0 Hgb.out (A4.drew u));clear Hgb;have Hgb:=Hgb2;clear Hgb2;replace hB:=hB.grow (A4.drew u);replace hG:=hG.trans (A4.drew u);obtain⟨u,rfl⟩:=exQ u.drew;refine NoP.norm ?_;refine A6 ?_;refine B9D ?_;refine r0T ?_;refine B9l ?_;clear hF;have hgb:=Hgb.out;clear Hgb;go_loopw [23] (λs0 wr=>∃(i:Nat) (lo hi:Rat),i<=n/\s0 = .int .i64 i/\K6 (l.drop i) lo hi=R/\qs lo<=S/\qs hi<=S/\Bx wr [(b3,48,L9 top),(b0,165,pcL FV BV (.slice A3 n c3') lo hi)]/\A4 w wr/\w1.grownBy wr (some b0)) (λs0 _=>n-(intOf s0).toNat)
 case atStart=>exact⟨0,0,top,B9a _,rfl,HR0.out,q0,htop,by rw[B2r];exact hB,hG,hgb⟩
 case round =>
  clear hB hG hgb HR0;obtain⟨i,lo,hi,hin0,rfl,hRi,zlo,zhi,hB,hG,hgb⟩:=hrel;obtain⟨u,rfl⟩:=exQ wr
  have hF:Fr w [b3,b0]:=⟨λb hb=>by
   simp only[List.mem_cons,List.not_mem_nil,or_false]at hb;rcases hb with rfl|rfl
   ·exact h03
   ·exact hb00,by simp;exact hne⟩
  have Hgb:=B9I hgb;clear hgb;rcases B8t i n with hlt|hge
  ·have hdec:decide ((i:Int)<(n:Int))=true:=by simp;omega
   have hin:(i:Int)<(n:Int):=by omega
   obtain⟨bl0,ol,eL,hrd⟩:=Hat.out i hlt;subst eL;obtain⟨z1,z2⟩:=Hsz.out i hlt;rw[Hdr.out i hlt]at hRi;obtain⟨⟨X,Y⟩,hX⟩:∃X,X=J9 l i:=⟨_,rfl⟩
   rw[<-hX]at z1 z2 hRi;simp only[<-hX]at hrd;simp only at z1 z2;have hsx:=λW=>M8 X (by have:=G3 X;omega) W;have hsy:=λW=>M8 Y (by have:=G3 Y;omega) W;have hng:=λW=>A3w Y (by have:=G3 Y;omega) W;have zN:qs (I4 Y)<=s:=by unfold I4;rw[A2X];exact z2
   have hdv:=λW hT=>A4s (I4 Y) X W (by omega) hT;have zD:qs (H9 (I4 Y) X)<=S:=by have:=A2D (I4 Y) X;unfold H9;omega
   have sx0:=@A8m X;have syn:=@A2C Y;have sxc:=A2V X;have syc:=A2V Y
   have hun:K6 ((X,Y)::l.drop (i+1)) lo hi=if X=0 then(if Y<0 then none else K6 (l.drop (i+1)) lo hi)else if 0<X then K6 (l.drop (i+1)) (R9 lo (H9 (I4 Y) X)) hi else K6 (l.drop (i+1)) lo (A0W hi (H9 (I4 Y) X)):=rfl
   rw[hun]at hRi;clear hun;obtain⟨D,hD⟩:∃D,D=H9 (I4 Y) X:=⟨_,rfl⟩
   rw[<-hD]at zD hRi;simp only[<-hD]at hdv;have hmx:=λW=>B0k lo D (by omega) W;have hmn:=λW=>B4x hi D (by omega) W;have zmx:=B1b zlo zD;have zmn:=B8k zhi zD;obtain⟨Lo2,hLo2⟩:∃x,x=R9 lo D:=⟨_,rfl⟩
   obtain⟨Hi2,hHi2⟩:∃x,x=A0W hi D:=⟨_,rfl⟩
   rw[<-hLo2]at zmx hRi;rw[<-hHi2]at zmn hRi;simp only[<-hLo2]at hmx;simp only[<-hHi2]at hmn;obtain⟨NY,hNY⟩:∃x,x=I4 Y:=⟨_,rfl⟩
   simp only[<-hNY]at hng hdv;obtain⟨nzf,hnz⟩:∃x,x=nzq X:=⟨_,rfl⟩
   simp only[<-hnz]at hdv;obtain⟨SX,hSX⟩:=exQ X.num.sign;obtain⟨SY,hSY⟩:=exQ Y.num.sign;have sgp:0<X↔SX=1:=by
    rw[hSX];exact A8f.symm
   rw[<-hSX]at sx0 sxc;rw[<-hSY]at syn syc;simp only[<-hSX]at hsx;simp only[<-hSY]at hsy;have Hrd:=B9I hrd;have Hsx:=B9I hsx;have Hsy:=B9I hsy;have Hng:=B9I hng;have Hdv:=B9I hdv;have Hmx:=B9I hmx;have Hmn:=B9I hmn;have Hz:=B9I (And.intro zlo (And.intro zhi (And.intro zmx zmn)));clear hrd hsx hsy hng hdv hmx hmn hX hD hLo2 hHi2 hNY hnz hSX hSY zN zD zmx zmn zlo zhi z1 z2;by_cases hX0:X=0
   ·have f0:(SX == 0)=true:=by rw[sx0];exact B9x hX0
    rw[if_pos hX0]at hRi;by_cases hY0:Y<0
    ·have f1:decide (SY<0)=true:=by rw[syn.2 hY0];rfl
     rw[if_pos hY0]at hRi;have HRi:=B9I hRi;clear hRi hX0 hY0 sx0 syn sxc syc sgp;refine r0T ?_;refine B9D ?_;refine B9L (rfl) ?_;refine B9K ?_;refine A6 ?_;refine B9D ?_;refine B9l ?_;refine B9D (rsC C4 [0,0,2] hB hG λK L hN hL=>?_)
     repeat first|refine gya ?_|refine gyr ?_|refine gna ?_|refine gyb (by(rintro v ⟨hgu,hB,hG,-⟩ N hN;have r:=hB.r;simp only[BxR]at r;(try obtain⟨⟨y1,y2,y3,y4,y5⟩,x1,x2,x3,x4,x5⟩:=Hrd.out v (F0 Hgb.out hgu));go_simp;exact hN)) ?_
     refine gaa (A2E _ _ _ _ _) λb6 hb6 hn6=>?_;replace hF:=hF.n1 [] hB hG hb6 hn6;refine geC hL ?_;clear hB hG hL L;rintro u ⟨⟨hgu,hB,hG,-⟩,h6⟩;replace hB:=hB.cons' h6;clear h6;have h6:w1.heap.size<=b6:=B9A Hgb.out.size hb6;have Hgb2:=B9I (F0 Hgb.out hgu);clear Hgb;have Hgb:=Hgb2;clear Hgb2;clear hb6 hn6;clear hgu;refine gtT ?_;clear hN K;refine sv hB hF hG 0 0 [_,_,_,_,_,_,_,_,_,_] ?_;intro u2 hu hBG;have Hgb2:=B9I (A1f (i:=0) (vs:=[_,_,_,_,_,_,_,_,_,_]) Hgb.out h6 hu);clear hB hG Hgb hu h6;obtain⟨hB,hG⟩:=hBG;have Hgb:=Hgb2;clear Hgb2;obtain⟨u,rfl⟩:=exQ u2;refine B9D ?_;refine B9D (rsE C4 [0,0,1,0] hB hG λL hL=>?_)
     repeat first|refine gya ?_|refine gyr ?_|refine gna ?_|refine gyb (by(rintro v ⟨hgu,hB,hG,-⟩ N hN;have r:=hB.r;simp only[BxR]at r;(try obtain⟨⟨y1,y2,y3,y4,y5⟩,x1,x2,x3,x4,x5⟩:=Hrd.out v (F0 Hgb.out hgu));go_simp;exact hN)) ?_
     refine gmw (C:=λv=>Hsx.out _) ?_;refine gs ?_;refine geT hL ?_;clear hB hG hL L;rintro u ⟨hgu,hB,hG,-⟩;have Hgb2:=B9I (F0 Hgb.out hgu);clear Hgb;have Hgb:=Hgb2;clear Hgb2;clear hgu;refine B9L (rfl) ?_;refine B9D ?_;refine B9D (rsE C4 [0,0,1,0] hB hG λL hL=>?_)
     repeat first|refine gya ?_|refine gyr ?_|refine gna ?_|refine gyb (by(rintro v ⟨hgu,hB,hG,-⟩ N hN;have r:=hB.r;simp only[BxR]at r;(try obtain⟨⟨y1,y2,y3,y4,y5⟩,x1,x2,x3,x4,x5⟩:=Hrd.out v (F0 Hgb.out hgu));go_simp;exact hN)) ?_
     refine gmw (C:=λv=>Hsy.out _) ?_;refine gs ?_;refine geT hL ?_;clear hB hG hL L;rintro u ⟨hgu,hB,hG,-⟩;have Hgb2:=B9I (F0 Hgb.out hgu);clear Hgb;have Hgb:=Hgb2;clear Hgb2;clear hgu;refine B9L (rfl) ?_;refine r0T ?_;refine rt Tryz.results115 ?_;exact⟨lo,hi,by rw[<-HRi.out];rfl,(λp hp=>by rw[<-HRi.out]at hp;cases hp),hB.tail.tail.head,Hgb.out⟩
    ·have f1:decide (SY<0)=false:=by
      have:SY ≠ -1:=λe=>hY0 (syn.1 e);simp;omega
     rw[if_neg hY0]at hRi;have HRi:=B9I hRi;clear hRi hX0 hY0 sx0 syn sxc syc sgp;refine r0T ?_;refine B9D ?_;refine B9L (rfl) ?_;refine B9K ?_;refine A6 ?_;refine B9D ?_;refine B9l ?_;refine B9D (rsC C4 [0,0,2] hB hG λK L hN hL=>?_)
     repeat first|refine gya ?_|refine gyr ?_|refine gna ?_|refine gyb (by(rintro v ⟨hgu,hB,hG,-⟩ N hN;have r:=hB.r;simp only[BxR]at r;(try obtain⟨⟨y1,y2,y3,y4,y5⟩,x1,x2,x3,x4,x5⟩:=Hrd.out v (F0 Hgb.out hgu));go_simp;exact hN)) ?_
     refine gaa (A2E _ _ _ _ _) λb6 hb6 hn6=>?_;replace hF:=hF.n1 [] hB hG hb6 hn6;refine geC hL ?_;clear hB hG hL L;rintro u ⟨⟨hgu,hB,hG,-⟩,h6⟩;replace hB:=hB.cons' h6;clear h6;have h6:w1.heap.size<=b6:=B9A Hgb.out.size hb6;have Hgb2:=B9I (F0 Hgb.out hgu);clear Hgb;have Hgb:=Hgb2;clear Hgb2;clear hb6 hn6;clear hgu;refine gtT ?_;clear hN K;refine sv hB hF hG 0 0 [_,_,_,_,_,_,_,_,_,_] ?_;intro u2 hu hBG;have Hgb2:=B9I (A1f (i:=0) (vs:=[_,_,_,_,_,_,_,_,_,_]) Hgb.out h6 hu);clear hB hG Hgb hu h6;obtain⟨hB,hG⟩:=hBG;have Hgb:=Hgb2;clear Hgb2;obtain⟨u,rfl⟩:=exQ u2;refine B9D ?_;refine B9D (rsE C4 [0,0,1,0] hB hG λL hL=>?_)
     repeat first|refine gya ?_|refine gyr ?_|refine gna ?_|refine gyb (by(rintro v ⟨hgu,hB,hG,-⟩ N hN;have r:=hB.r;simp only[BxR]at r;(try obtain⟨⟨y1,y2,y3,y4,y5⟩,x1,x2,x3,x4,x5⟩:=Hrd.out v (F0 Hgb.out hgu));go_simp;exact hN)) ?_
     refine gmw (C:=λv=>Hsx.out _) ?_;refine gs ?_;refine geT hL ?_;clear hB hG hL L;rintro u ⟨hgu,hB,hG,-⟩;have Hgb2:=B9I (F0 Hgb.out hgu);clear Hgb;have Hgb:=Hgb2;clear Hgb2;clear hgu;refine B9L (rfl) ?_;refine B9D ?_;refine B9D (rsE C4 [0,0,1,0] hB hG λL hL=>?_)
     repeat first|refine gya ?_|refine gyr ?_|refine gna ?_|refine gyb (by(rintro v ⟨hgu,hB,hG,-⟩ N hN;have r:=hB.r;simp only[BxR]at r;(try obtain⟨⟨y1,y2,y3,y4,y5⟩,x1,x2,x3,x4,x5⟩:=Hrd.out v (F0 Hgb.out hgu));go_simp;exact hN)) ?_
     refine gmw (C:=λv=>Hsy.out _) ?_;refine gs ?_;refine geT hL ?_;clear hB hG hL L;rintro u ⟨hgu,hB,hG,-⟩;have Hgb2:=B9I (F0 Hgb.out hgu);clear Hgb;have Hgb:=Hgb2;clear Hgb2;clear hgu;refine B9J (rfl) ?_;refine B9K ?_;refine A6 ?_;refine B9n ?_;refine B9 ?_;refine E4 ?_;refine A6 ?_;refine r0E ?_;refine A6 ?_;go_roundw
     case rel=>exact⟨i+1,lo,hi,by omega,by go_num,HRi.out,Hz.out.1,Hz.out.2.1,hB.tail,hG,Hgb.out⟩
     case measure=>simp[intOf];omega
   ·have f0:(SX == 0)=false:=by rw[sx0];exact B92 hX0
    rw[if_neg hX0]at hRi;by_cases hXp:0<X
    ·have f1:decide (0<SX)=true:=by rw[sgp.1 hXp];rfl
     rw[if_pos hXp]at hRi;have HRi:=B9I hRi;clear hRi hX0 hXp sx0 syn sxc syc sgp;refine r0T ?_;refine B9D ?_;refine B9L (rfl) ?_;refine B9K ?_;refine A6 ?_;refine B9D ?_;refine B9l ?_;refine B9D (rsC C4 [0,0,2] hB hG λK L hN hL=>?_)
     repeat first|refine gya ?_|refine gyr ?_|refine gna ?_|refine gyb (by(rintro v ⟨hgu,hB,hG,-⟩ N hN;have r:=hB.r;simp only[BxR]at r;(try obtain⟨⟨y1,y2,y3,y4,y5⟩,x1,x2,x3,x4,x5⟩:=Hrd.out v (F0 Hgb.out hgu));go_simp;exact hN)) ?_
     refine gaa (A2E _ _ _ _ _) λb6 hb6 hn6=>?_;replace hF:=hF.n1 [] hB hG hb6 hn6;refine geC hL ?_;clear hB hG hL L;rintro u ⟨⟨hgu,hB,hG,-⟩,h6⟩;replace hB:=hB.cons' h6;clear h6;have h6:w1.heap.size<=b6:=B9A Hgb.out.size hb6;have Hgb2:=B9I (F0 Hgb.out hgu);clear Hgb;have Hgb:=Hgb2;clear Hgb2;clear hb6 hn6;clear hgu;refine gtT ?_;clear hN K;refine sv hB hF hG 0 0 [_,_,_,_,_,_,_,_,_,_] ?_;intro u2 hu hBG;have Hgb2:=B9I (A1f (i:=0) (vs:=[_,_,_,_,_,_,_,_,_,_]) Hgb.out h6 hu);clear hB hG Hgb hu h6;obtain⟨hB,hG⟩:=hBG;have Hgb:=Hgb2;clear Hgb2;obtain⟨u,rfl⟩:=exQ u2;refine B9D ?_;refine B9D (rsE C4 [0,0,1,0] hB hG λL hL=>?_)
     repeat first|refine gya ?_|refine gyr ?_|refine gna ?_|refine gyb (by(rintro v ⟨hgu,hB,hG,-⟩ N hN;have r:=hB.r;simp only[BxR]at r;(try obtain⟨⟨y1,y2,y3,y4,y5⟩,x1,x2,x3,x4,x5⟩:=Hrd.out v (F0 Hgb.out hgu));go_simp;exact hN)) ?_
     refine gmw (C:=λv=>Hsx.out _) ?_;refine gs ?_;refine geT hL ?_;clear hB hG hL L;rintro u ⟨hgu,hB,hG,-⟩;have Hgb2:=B9I (F0 Hgb.out hgu);clear Hgb;have Hgb:=Hgb2;clear Hgb2;clear hgu;refine B9J (rfl) ?_;refine B9K ?_;refine A6 ?_;refine B9D (rdC C4 [8] [(0,0),(0,1),(0,3),(0,4),(1,2),(1,5),(0,6),(0,7),(0,8),(2,9)] hB hG λK L hN hL=>?_)
     repeat first|refine gya ?_|refine gyr ?_|refine gna ?_|refine gyb (by(rintro v ⟨hgu,hB,hG,-⟩ N hN;have r:=hB.r;simp only[BxR]at r;(try obtain⟨⟨y1,y2,y3,y4,y5⟩,x1,x2,x3,x4,x5⟩:=Hrd.out v (F0 Hgb.out hgu));go_simp;exact hN)) ?_
     refine gmw (C:=λv=>Hng.out _) ?_;refine gmd (C:=λv ⟨hgu,hB,hG,_⟩=>Hdv.out _ (HT.grow hG)) ?_;refine gs ?_;refine gaa (G6 _ _ _ _ _) λb7 hb7 hn7=>?_;replace hF:=hF.n1 [] hB hG hb7 hn7;refine geC hL ?_;clear hB hG hL L;rintro u ⟨⟨hgu,hB,hG,-⟩,h7⟩;replace hB:=hB.cons' h7;clear h7;have h7:w1.heap.size<=b7:=B9A Hgb.out.size hb7;have Hgb2:=B9I (F0 Hgb.out hgu);clear Hgb;have Hgb:=Hgb2;clear Hgb2;clear hb7 hn7;clear hgu;refine gtT ?_;clear hN K;refine sv hB hF hG 0 0 [_,_,_,_,_] ?_;intro u2 hu hBG;have Hgb2:=B9I (A1f (i:=0) (vs:=[_,_,_,_,_]) Hgb.out h7 hu);clear hB hG Hgb hu h7;obtain⟨hB,hG⟩:=hBG;have Hgb:=Hgb2;clear Hgb2;obtain⟨u,rfl⟩:=exQ u2;refine B9D (rsE C4 [0,0,1,0] hB hG λL hL=>?_)
     repeat first|refine gya ?_|refine gyr ?_|refine gna ?_|refine gyb (by(rintro v ⟨hgu,hB,hG,-⟩ N hN;have r:=hB.r;simp only[BxR]at r;(try obtain⟨⟨y1,y2,y3,y4,y5⟩,x1,x2,x3,x4,x5⟩:=Hrd.out v (F0 Hgb.out hgu));go_simp;exact hN)) ?_
     refine gmw (C:=λv=>Hsx.out _) ?_;refine gs ?_;refine geT hL ?_;clear hB hG hL L;rintro u ⟨hgu,hB,hG,-⟩;have Hgb2:=B9I (F0 Hgb.out hgu);clear Hgb;have Hgb:=Hgb2;clear Hgb2;clear hgu;refine B9L (rfl) ?_;refine rdC C4 [] [(0,0),(0,1),(0,2),(0,3),(0,4),(0,5),(1,6),(0,7),(0,8)] hB hG λK L hN hL=>?_
     repeat first|refine gya ?_|refine gyr ?_|refine gna ?_|refine gyb (by(rintro v ⟨hgu,hB,hG,-⟩ N hN;have r:=hB.r;simp only[BxR]at r;(try obtain⟨⟨y1,y2,y3,y4,y5⟩,x1,x2,x3,x4,x5⟩:=Hrd.out v (F0 Hgb.out hgu));go_simp;exact hN)) ?_
     refine gmw (C:=λv=>Hmx.out _) ?_
     repeat first|refine gya ?_|refine gyr ?_|refine gna ?_|refine gyb (by(rintro v ⟨hgu,hB,hG,-⟩ N hN;have r:=hB.r;simp only[BxR]at r;(try obtain⟨⟨y1,y2,y3,y4,y5⟩,x1,x2,x3,x4,x5⟩:=Hrd.out v (F0 Hgb.out hgu));go_simp;exact hN)) ?_
     refine geC hL ?_;clear hB hG hL L;rintro u ⟨hgu,hB,hG,-⟩;have Hgb2:=B9I (F0 Hgb.out hgu);clear Hgb;have Hgb:=Hgb2;clear Hgb2;clear hgu;refine gt ?_;clear hN K;refine sv hB hF hG 3 3 [_,_,_,_,_] ?_;intro u2 hu hBG;have Hgb2:=B9I (A1r Hgb.out (A34 (i:=3) (vs:=[_,_,_,_,_]) hu));clear hB hG Hgb hu;obtain⟨hB,hG⟩:=hBG;have Hgb:=Hgb2;clear Hgb2;obtain⟨u,rfl⟩:=exQ u2;refine C5 ?_;refine A6 ?_;refine r0E ?_;refine A6 ?_;go_roundw
     case rel=>exact⟨i+1,Lo2,hi,by omega,by go_num,HRi.out,Hz.out.2.2.1,Hz.out.2.1,hB.tail.tail,hG,Hgb.out⟩
     case measure=>simp[intOf];omega
    ·have f1:decide (0<SX)=false:=by
      have:SX≠1:=λe=>hXp (sgp.2 e);simp;omega
     rw[if_neg hXp]at hRi;have HRi:=B9I hRi;clear hRi hX0 hXp sx0 syn sxc syc sgp;refine r0T ?_;refine B9D ?_;refine B9L (rfl) ?_;refine B9K ?_;refine A6 ?_;refine B9D ?_;refine B9l ?_;refine B9D (rsC C4 [0,0,2] hB hG λK L hN hL=>?_)
     repeat first|refine gya ?_|refine gyr ?_|refine gna ?_|refine gyb (by(rintro v ⟨hgu,hB,hG,-⟩ N hN;have r:=hB.r;simp only[BxR]at r;(try obtain⟨⟨y1,y2,y3,y4,y5⟩,x1,x2,x3,x4,x5⟩:=Hrd.out v (F0 Hgb.out hgu));go_simp;exact hN)) ?_
     refine gaa (A2E _ _ _ _ _) λb6 hb6 hn6=>?_;replace hF:=hF.n1 [] hB hG hb6 hn6;refine geC hL ?_;clear hB hG hL L;rintro u ⟨⟨hgu,hB,hG,-⟩,h6⟩;replace hB:=hB.cons' h6;clear h6;have h6:w1.heap.size<=b6:=B9A Hgb.out.size hb6;have Hgb2:=B9I (F0 Hgb.out hgu);clear Hgb;have Hgb:=Hgb2;clear Hgb2;clear hb6 hn6;clear hgu;refine gtT ?_;clear hN K;refine sv hB hF hG 0 0 [_,_,_,_,_,_,_,_,_,_] ?_;intro u2 hu hBG;have Hgb2:=B9I (A1f (i:=0) (vs:=[_,_,_,_,_,_,_,_,_,_]) Hgb.out h6 hu);clear hB hG Hgb hu h6;obtain⟨hB,hG⟩:=hBG;have Hgb:=Hgb2;clear Hgb2;obtain⟨u,rfl⟩:=exQ u2;refine B9D ?_;refine B9D (rsE C4 [0,0,1,0] hB hG λL hL=>?_)
     repeat first|refine gya ?_|refine gyr ?_|refine gna ?_|refine gyb (by(rintro v ⟨hgu,hB,hG,-⟩ N hN;have r:=hB.r;simp only[BxR]at r;(try obtain⟨⟨y1,y2,y3,y4,y5⟩,x1,x2,x3,x4,x5⟩:=Hrd.out v (F0 Hgb.out hgu));go_simp;exact hN)) ?_
     refine gmw (C:=λv=>Hsx.out _) ?_;refine gs ?_;refine geT hL ?_;clear hB hG hL L;rintro u ⟨hgu,hB,hG,-⟩;have Hgb2:=B9I (F0 Hgb.out hgu);clear Hgb;have Hgb:=Hgb2;clear Hgb2;clear hgu;refine B9J (rfl) ?_;refine B9K ?_;refine A6 ?_;refine B9D (rdC C4 [8] [(0,0),(0,1),(0,3),(0,4),(1,2),(1,5),(0,6),(0,7),(0,8),(2,9)] hB hG λK L hN hL=>?_)
     repeat first|refine gya ?_|refine gyr ?_|refine gna ?_|refine gyb (by(rintro v ⟨hgu,hB,hG,-⟩ N hN;have r:=hB.r;simp only[BxR]at r;(try obtain⟨⟨y1,y2,y3,y4,y5⟩,x1,x2,x3,x4,x5⟩:=Hrd.out v (F0 Hgb.out hgu));go_simp;exact hN)) ?_
     refine gmw (C:=λv=>Hng.out _) ?_;refine gmd (C:=λv ⟨hgu,hB,hG,_⟩=>Hdv.out _ (HT.grow hG)) ?_;refine gs ?_;refine gaa (G6 _ _ _ _ _) λb7 hb7 hn7=>?_;replace hF:=hF.n1 [] hB hG hb7 hn7;refine geC hL ?_;clear hB hG hL L;rintro u ⟨⟨hgu,hB,hG,-⟩,h7⟩;replace hB:=hB.cons' h7;clear h7;have h7:w1.heap.size<=b7:=B9A Hgb.out.size hb7;have Hgb2:=B9I (F0 Hgb.out hgu);clear Hgb;have Hgb:=Hgb2;clear Hgb2;clear hb7 hn7;clear hgu;refine gtT ?_;clear hN K;refine sv hB hF hG 0 0 [_,_,_,_,_] ?_;intro u2 hu hBG;have Hgb2:=B9I (A1f (i:=0) (vs:=[_,_,_,_,_]) Hgb.out h7 hu);clear hB hG Hgb hu h7;obtain⟨hB,hG⟩:=hBG;have Hgb:=Hgb2;clear Hgb2;obtain⟨u,rfl⟩:=exQ u2;refine B9D (rsE C4 [0,0,1,0] hB hG λL hL=>?_)
     repeat first|refine gya ?_|refine gyr ?_|refine gna ?_|refine gyb (by(rintro v ⟨hgu,hB,hG,-⟩ N hN;have r:=hB.r;simp only[BxR]at r;(try obtain⟨⟨y1,y2,y3,y4,y5⟩,x1,x2,x3,x4,x5⟩:=Hrd.out v (F0 Hgb.out hgu));go_simp;exact hN)) ?_
     refine gmw (C:=λv=>Hsx.out _) ?_;refine gs ?_;refine geT hL ?_;clear hB hG hL L;rintro u ⟨hgu,hB,hG,-⟩;have Hgb2:=B9I (F0 Hgb.out hgu);clear Hgb;have Hgb:=Hgb2;clear Hgb2;clear hgu;refine B9J (rfl) ?_;refine rdC C4 [] [(0,0),(0,1),(0,2),(0,3),(0,4),(0,5),(1,6),(0,7),(0,8)] hB hG λK L hN hL=>?_
     repeat first|refine gya ?_|refine gyr ?_|refine gna ?_|refine gyb (by(rintro v ⟨hgu,hB,hG,-⟩ N hN;have r:=hB.r;simp only[BxR]at r;(try obtain⟨⟨y1,y2,y3,y4,y5⟩,x1,x2,x3,x4,x5⟩:=Hrd.out v (F0 Hgb.out hgu));go_simp;exact hN)) ?_
     refine gmw (C:=λv=>Hmn.out _) ?_
     repeat first|refine gya ?_|refine gyr ?_|refine gna ?_|refine gyb (by(rintro v ⟨hgu,hB,hG,-⟩ N hN;have r:=hB.r;simp only[BxR]at r;(try obtain⟨⟨y1,y2,y3,y4,y5⟩,x1,x2,x3,x4,x5⟩:=Hrd.out v (F0 Hgb.out hgu));go_simp;exact hN)) ?_
     refine geC hL ?_;clear hB hG hL L;rintro u ⟨hgu,hB,hG,-⟩;have Hgb2:=B9I (F0 Hgb.out hgu);clear Hgb;have Hgb:=Hgb2;clear Hgb2;clear hgu;refine gt ?_;clear hN K;refine sv hB hF hG 3 8 [_,_,_,_,_] ?_;intro u2 hu hBG;have Hgb2:=B9I (A1r Hgb.out (A34 (i:=8) (vs:=[_,_,_,_,_]) hu));clear hB hG Hgb hu;obtain⟨hB,hG⟩:=hBG;have Hgb:=Hgb2;clear Hgb2;obtain⟨u,rfl⟩:=exQ u2;refine C5 ?_;refine A6 ?_;refine r0E ?_;refine A6 ?_;go_roundw
     case rel=>exact⟨i+1,lo,Hi2,by omega,by go_num,HRi.out,Hz.out.1,Hz.out.2.2.2,hB.tail.tail,hG,Hgb.out⟩
     case measure=>simp[intOf];omega
  ·obtain rfl:n=i:=by omega
   have hdec:decide ((n:Int)<(n:Int))=false:=by simp
   rw[Hdn.out]at hRi;have hcm:=λW=>W8 lo hi W (by omega);have hc0:decide (E9 lo hi<=0)=decide (lo<=hi):=by
    unfold E9;by_cases h1:lo<hi
    ·have:lo<=hi:=Rat.le_of_lt h1;simp[h1,this]
    ·by_cases h2:hi<lo
     ·have:¬lo<=hi:=by grind
      simp[h1,h2,this]
     ·have:lo<=hi:=by grind
      simp[h1,h2,this]
   have hun:K6 [] lo hi=if lo<=hi then some (lo,hi)else none:=rfl
   rw[hun]at hRi;obtain⟨SC,hSC⟩:∃x,x=E9 lo hi:=⟨_,rfl⟩
   rw[<-hSC]at hc0;simp only[<-hSC]at hcm;have Hcm:=B9I hcm;have hRs:R.isSome=decide (SC<=0)/\∀p,R=some p->p=(lo,hi):=by
    rw[hc0,<-hRi];by_cases h1:lo<=hi
    ·rw[if_pos h1];exact⟨by simp[h1],λp hp=>(B8y hp).symm⟩
    ·rw[if_neg h1];exact⟨by simp[h1],λp hp=>by cases hp⟩
   have HRs:=B9I hRs;clear hcm hc0 hun hSC hRs hRi zlo zhi;refine r0T ?_;refine B9D ?_;refine B9J (rfl) ?_;refine B9n ?_;refine B9 ?_;refine B9 ?_;refine E4 ?_;refine A6 ?_;refine B9D (rdC C4 [] [(0,0),(0,1),(0,2),(0,3),(0,4),(0,5),(0,6),(0,7),(1,8),(0,9)] hB hG λK L hN hL=>?_)
   repeat first|refine gya ?_|refine gyr ?_|refine gna ?_|refine gyb (by(rintro v ⟨hgu,hB,hG,-⟩ N hN;have r:=hB.r;simp only[BxR]at r;(try obtain⟨⟨y1,y2,y3,y4,y5⟩,x1,x2,x3,x4,x5⟩:=Hrd.out v (F0 Hgb.out hgu));go_simp;exact hN)) ?_
   refine gmw (C:=λv=>Hcm.out _) ?_;refine gs ?_;refine geC hL ?_;clear hB hG hL L;rintro u ⟨hgu,hB,hG,-⟩;have Hgb2:=B9I (F0 Hgb.out hgu);clear Hgb;have Hgb:=Hgb2;clear Hgb2;clear hgu;refine gtT ?_;clear hN K;refine rt Tryz.results115 ?_;exact⟨lo,hi,by rw[HRs.out.1],HRs.out.2,hB.tail.head,Hgb.out⟩
end Go.Proofs.YtgpglgbcobeogaaGreatDoor
