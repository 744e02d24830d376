import Derived.Test.YtgpglgbcobeogaaGreatDoorF37
set_option linter.unusedSimpArgs false
set_option linter.unusedVariables false
set_option maxHeartbeats 4000000
set_option maxRecDepth 100000
namespace Go.Proofs.YtgpglgbcobeogaaGreatDoor
open Go Go.RowKit
theorem A2O{u w':World}{B:Nat}{e:TypeId}{size n:Nat}{v:Value}{xs:List Value}{l:List (Nat×TypeId×Array Value)}(h:u.ownsRow B e size v n xs)(hB:Bx u l)(ht:∀x∈l,x.2.1≠e)(hg:u.grownBy w' v.ownBlock):Bx w' l :=
 hB.grown_ hg λx hx hxe=>F0 h (hB x hx) (λe1=>ht x hx e1.symm) hxe.symm
theorem MatP.kept{B n L b0 k:Nat}{g cp:Nat->Nat}{M:Mx}{W W':World}(h:MatP B n L b0 g cp M k W){r:Option Nat}(hg:W.grownBy W' r)(h0:some b0≠r)(hr:∀i,i<k->some (g i)≠r):MatP B n L b0 g cp M k W' :=
 ⟨h.hd.kept hg (.inr h0),λi hi=>(h.row i hi).kept hg (.inr (hr i hi)),h.inj⟩
theorem MatP.gb0{B n L b0 k:Nat}{g cp:Nat->Nat}{M:Mx}{W:World}(h:MatP B n L b0 g cp M k W){i:Nat}(hi:i<k):g i≠b0:=λe=>Q3 h.hd (h.row i hi) (by decide) b0 rfl (by rw[<-e];rfl)
theorem MatP.glt{B n L b0 k:Nat}{g cp:Nat->Nat}{M:Mx}{W:World}(h:MatP B n L b0 g cp M k W){i:Nat}(hi:i<k):B<=g i/\g i<W.heap.size:=(h.row i hi).lt (g i) rfl
theorem MatP.read{B n L b0 k:Nat}{g cp:Nat->Nat}{M:Mx}{W:World}(h:MatP B n L b0 g cp M k W){i:Nat}(hi:i<k)(hin:i<n):W.cell? ⟨b0,i,none⟩=some (T9 g cp L i):=by
 have h1:=A0O (enc:=M6) (size:=1) (λ_=>rfl) h.hd (A0Y g cp L n k).symm i 0 (by rw[A0Y];exact hin) (by omega);rw[C1M,Nat.add_zero]at h1;rw[h1];unfold T6;simp[hi]
theorem MatP.put{B n L b0 k:Nat}{g cp:Nat->Nat}{M:Mx}{W W':World}(h:MatP B n L b0 g cp M k W){i j:Nat}(hi:i<k)(hj:j<L)(q:Rat){o:Nat}(ho:o=j*5)(hu:C3 W (g i) o (qL q)=W'):MatP B n L b0 g cp (A0M M i j q) k W'/\W.grownBy W' (some (g i)):=by
 subst ho;obtain⟨h1,h2⟩:=T7 (enc:=qL) (size:=5) (ps:=G5 M L i) (λ_=>rfl) (h.row i hi) j q (by rw[A17];exact hj);rw[hu,A9o hj]at h1;rw[hu]at h2;refine⟨⟨h.hd.kept h2 (.inr λe=>h.gb0 hi (B95 e).symm),λi' hi'=>?_,h.inj⟩,h2⟩;by_cases e:i'=i
 ·subst e;exact h1
 ·rw[A82 e];exact(h.row i' hi').kept h2 (.inr λe2=>e (h.inj i' i hi' hi (B95 e2)))
theorem MatP.congr{B n L b0 k:Nat}{g cp:Nat->Nat}{M M':Mx}{W:World}(h:MatP B n L b0 g cp M k W)(he:∀i,i<k->G5 M L i=G5 M' L i):MatP B n L b0 g cp M' k W:=⟨h.hd,λi hi=>by rw[<-he i hi];exact h.row i hi,h.inj⟩
def Y0(G:Mx)(k j:Nat):Mx:=λi' j'=>if i'<k\/(i'=k/\j'<j)then G i' j' else 0
theorem B7Z{G:Mx}{k j:Nat}:A0M (Y0 G k j) k j (G k j)=Y0 G k (j+1):=by
 funext i' j';unfold A0M Y0;by_cases e1:i'=k
 ·subst e1;by_cases e2:j'=j
  ·subst e2;simp
  ·rw[if_neg (λe=>e2 e.2)];by_cases e3:j'<j
   ·rw[if_pos (.inr ⟨rfl,e3⟩),if_pos (.inr ⟨rfl,by omega⟩)]
   ·rw[if_neg (by omega),if_neg (by omega)]
 ·rw[if_neg (λe=>e1 e.1)];by_cases e3:i'<k
  ·rw[if_pos (.inl e3),if_pos (.inl e3)]
  ·rw[if_neg (by omega),if_neg (by omega)]
theorem B5c{G:Mx}{k L:Nat}:G5 (Y0 G k 0) L k=List.replicate L 0:=by
 unfold G5 Y0;apply C0F
 ·simp
 ·intro i h1 h2;simp
theorem B6d{G:Mx}{k L i:Nat}(hi:i<k+1):G5 (Y0 G k L) L i=G5 (Y0 G (k+1) 0) L i:=by
 unfold G5;refine C14 λj hj=>?_;have:=List.mem_range.1 hj;unfold Y0;by_cases e:i=k
 ·subst e;rw[if_pos (.inr ⟨rfl,this⟩),if_pos (.inl (by omega))]
 ·rw[if_pos (.inl (by omega)),if_pos (.inl (by omega))]
theorem B25{G:Mx}{k L i:Nat}(hi:i<k):G5 (Y0 G k 0) L i=G5 G L i:=by
 unfold G5;refine C14 λj hj=>?_;unfold Y0;rw[if_pos (.inl hi)]
def K5(X:List (List Rat))(N:Nat):Mx:=λi j=>E4 (I8 X i N) (I8 X j N) N
def H5(X:List (List Rat))(y:List Rat)(N L:Nat):List Rat:=(List.range L).map λi=>E4 (I8 X i N) y N
theorem A6W(X:List (List Rat))(j n:Nat):(I8 X j n).length=n:=by unfold I8;simp
theorem B4W(X:List (List Rat))(j:Nat){n i:Nat}(h:i<n):gq (I8 X j n) i=gq (B7 X i) j:=Q5 _ h
structure ProW(B L bg bp:Nat)(g cp:Nat->Nat)(M:Mx)(k:Nat)(pl:List Rat)(W:World):Prop where
 m:MatP B L L bg g cp M k W
 p:W.ownsRow B 48 5 (.slice (some ⟨bp,0,none⟩) L L) L (pl.flatMap qL)
 ne:∀i,i<k->g i≠bp
theorem ProW.grow{B L bg bp k:Nat}{g cp:Nat->Nat}{M:Mx}{pl:List Rat}{W W':World}(h:ProW B L bg bp g cp M k pl W)(hg:A4 W W'):ProW B L bg bp g cp M k pl W':=⟨h.m.grow hg,C0 h.p hg,h.ne⟩
theorem ProW.over{B L bg bp k b i:Nat}{t:TypeId}{cs:Array Value}{g cp:Nat->Nat}{M:Mx}{pl:List Rat}{W W':World}{vs:List Value}(h:ProW B L bg bp g cp M k pl W)(hb:Blk W b t cs)(ht:t≠35/\t≠48)(hu:C3 W b i vs=W'):ProW B L bg bp g cp M k pl W':=by
 have hg:W.grownBy W' (some b):=by subst hu;exact Y7 b vs i W
 refine⟨h.m.kept hg (F0 h.m.hd hb (λe=>ht.1 e.symm)) (λi hi=>F0 (h.m.row i hi) hb (λe=>ht.2 e.symm)),?_,h.ne⟩;exact I2 h.p (F0 h.p hb (λe=>ht.2 e.symm)) hu
theorem ProW.put{B L bg bp k:Nat}{g cp:Nat->Nat}{M:Mx}{pl:List Rat}{W W':World}(h:ProW B L bg bp g cp M k pl W){i j:Nat}(hi:i<k)(hj:j<L)(q:Rat){o:Nat}(ho:o=j*5)(hu:C3 W (g i) o (qL q)=W'):ProW B L bg bp g cp (A0M M i j q) k pl W':=by
 obtain⟨h1,h2⟩:=h.m.put hi hj q ho hu;exact⟨h1,h.p.kept h2 (.inr λe=>h.ne i hi (B95 e).symm),h.ne⟩
theorem ProW.pull{B L bg bp k:Nat}{g cp:Nat->Nat}{M:Mx}{pl:List Rat}{W W':World}(h:ProW B L bg bp g cp M k pl W)(hl:pl.length=L){j:Nat}(hj:j<L)(q:Rat)(hu:C3 W bp (j*5) (qL q)=W'):ProW B L bg bp g cp M k (pl.set j q) W':=by
 obtain⟨h1,h2⟩:=T7 (enc:=qL) (size:=5) (ps:=pl) (λ_=>rfl) h.p j q (by omega);rw[hu]at h1 h2;refine⟨h.m.kept h2 (λe=>Q3 h.m.hd h.p (by decide) bg rfl (by rw[B95 e];rfl)) (λi hi e=>h.ne i hi (B95 e)),h1,h.ne⟩
theorem ProW.step{B L bg bp k x:Nat}{g cp:Nat->Nat}{M:Mx}{pl:List Rat}{u W W':World}(h0:ProW B L bg bp g cp M k pl u)(hG:A4 u W)(hk:k<L)(hx:u.heap.size<=x)(hr:W.ownsRow B 48 5 (.slice (some ⟨x,0,none⟩) L L) L ((G5 M L k).flatMap qL))(hu:C3 W bg k [.slice (some ⟨x,0,none⟩) L L]=W'):ProW B L bg bp (upd g k x) (upd cp k L) M (k+1) pl W'/\W.grownBy W' (some bg):=by
 obtain⟨h1,h2⟩:=MatP.step h0.m hG hk hx hr hu;have hp:=C0 h0.p hG;have hlt:=(h0.p.lt bp rfl).2;refine⟨⟨h1,hp.kept h2 (.inr λe=>Q3 (h0.m.grow hG).hd hp (by decide) bg rfl (by rw[<-B95 e];rfl)),λi hi=>?_⟩,h2⟩;unfold upd;by_cases e:i=k
 ·rw[if_pos e];omega
 ·rw[if_neg e];exact h0.ne i (by omega)
theorem A8c(A:Option Addr)(rs:List Rq)(N Lw c:Nat)(Y:Ax)(y:List Rat)(hn:rs.length=N)(hN1:1<=N)(hN2:N<=300)(hL1:1<=Lw)(hL2:Lw<=20)(hrl:∀r∈rs,r.2.2.length=Lw)(hy:y.length=N)(s:Nat)(hs:s<=100000)(hX:∀i,i<N->∀j,j<Lw->qs (gq (B7 (rs.map (·.2.2)) i) j)<=s)(hys:∀i,i<N->qs (gq y i)<=s)(w:World)(h:Lrq w A rs)(h2:Lq w Y.1 y)(HT:Tab w) :
  Calls Tryz.prog 59 #[.slice A N c,.slice Y.1 N Y.2] w (G1 (λx:(Nat×(Nat->Nat)×(Nat->Nat))×Nat=>.agg #[.slice (some ⟨x.1.1,0,none⟩) Lw Lw,.slice (some ⟨x.2,0,none⟩) Lw Lw]) (λx W=>MatW w.heap.size Lw Lw x.1.1 Lw x.1.2.1 x.1.2.2 (K5 (rs.map (·.2.2)) N) W/\W.ownsRow w.heap.size 48 5 (.slice (some ⟨x.2,0,none⟩) Lw Lw) Lw ((H5 (rs.map (·.2.2)) y N Lw).flatMap qL)) w):=by
 have hBB:100000000<=BIG:=by unfold BIG;omega
 obtain⟨X,hXe⟩:∃X,X=rs.map (·.2.2):=⟨_,rfl⟩
 have hcl:∀j,j<Lw->∀W,A4 w W->Calls Tryz.prog 96 #[.slice A N c,.int .i64 (j:Nat)] W (G1 (λx:Ax=>.slice x.1 N x.2) (λx W=>Lq W x.1 (I8 X j N)) W):=λj hj W hg=>by rw[hXe];exact B1m A rs N Lw c j hn hN2 hrl hj hL2 W (h.grow hg)
 have hcz:∀j,j<Lw->∀i,i<N->qs (gq (I8 X j N) i)<=s:=λj hj i hi=>by rw[B4W _ _ hi,hXe];exact hX i hi j hj
 have hbd:N*(s+s+1)+s+s+10<=BIG:=by
  have h1:N*(s+s+1)<=300*(s+s+1):=C0n _ hN2;omega
 have hdt:∀i j,i<Lw->j<Lw->∀(x x':Ax) W,Lq W x.1 (I8 X i N)->Lq W x'.1 (I8 X j N)->Tab W->Calls Tryz.prog 93 #[.slice x.1 N x.2,.slice x'.1 N x'.2] W λe w'=>e = .returned (.tuple #[qV (K5 X N i j),.bool true])/\A4 W w':=λi j hi hj x x' W h1 h2 hT=>A3W x.1 x'.1 _ _ x.2 x'.2 N (A6W _ _ _) (A6W _ _ _) (by omega) s s (hcz i hi) (hcz j hj) hbd W h1 h2 hT;have hdy:∀i,i<Lw->∀(x:Ax) W,Lq W x.1 (I8 X i N)->A4 w W->Tab W->Calls Tryz.prog 93 #[.slice x.1 N x.2,.slice Y.1 N Y.2] W λe w'=>e = .returned (.tuple #[qV (E4 (I8 X i N) y N),.bool true])/\A4 W w':=λi hi x W h1 hg hT=>A3W x.1 Y.1 _ _ x.2 Y.2 N (A6W _ _ _) hy (by omega) s s (hcz i hi) hys hbd W h1 (h2.grow hg) hT;obtain⟨bb,ob,P0,eA,hP0⟩:=Y4 hn hrl h (i:=0) (by omega);have hr0:=λW hg=>(hP0 W hg).1;simp only[Nat.add_zero]at hr0;obtain⟨f,hf⟩:∃f:Nat->Rat,f=λi=>E4 (I8 X i N) y N:=⟨_,rfl⟩
 have hfi:∀i,E4 (I8 X i N) y N=f i:=by rw[hf];exact λ_=>rfl
 simp only[hfi]at hdy;have hpe:H5 X y N Lw=(List.range Lw).map f:=by rw[hf];rfl
 rw[<-hXe,hpe];obtain⟨G,hGe⟩:∃G,G=K5 X N:=⟨_,rfl⟩
 simp only[<-hGe]at hdt⊢;obtain⟨CL,hCL⟩:∃CL:Nat->List Rat,CL=λi=>I8 X i N:=⟨_,rfl⟩
 have hci:∀i,I8 X i N=CL i:=by rw[hCL];exact λ_=>rfl
 simp only[hci]at hcl hdt hdy;have hNi:(0:Int)<(N:Int):=by omega
 have hNn:0<N:=by omega
 have fN:decide ((0:Int)<(N:Int))=true:=by simp;omega
 have fNn:decide (0<N)=true:=by simp;omega
 obtain⟨YA,YC⟩:=Y;subst eA;have hmk:=A1N Lw (by omega) (Lw:Int) rfl;have hmk2:=A5W Lw (by omega) (Lw:Int) rfl;have Hcl:=C0P hcl;have Hdt:=C0P hdt;have Hdy:=C0P hdy;have Hr0:=C0P hr0;have Hmk:=C0P hmk;have Hmk2:=C0P hmk2;clear hcl hdt hdy hr0 hmk hmk2 hpe hf hfi hci hCL hGe hP0 hX hys hcz hbd hs h h2 hrl hn hy hXe;go_enter Tryz.func59,Tryz.ntmps59;refine en1 ?_;intro u hG b4 hB hF;refine C0K ?_
 (first|have q0:=Hr0.out u hG|skip)
 refine r0N ?_;refine C0K ?_;have hmk:=Hmk.out;have hmk2:=Hmk2.out;refine A9c (λb v=>v.ownsRow w.heap.size 35 1 (.slice (some ⟨b,0,none⟩) Lw Lw) Lw ((T6 (λ_=>0) (λ_=>0) Lw Lw 0).flatMap M6)) (λb v=>v.ownsRow w.heap.size 48 5 (.slice (some ⟨b,0,none⟩) Lw Lw) Lw ((M7 f Lw 0).flatMap qL)) (λb=>.slice (some ⟨b,0,none⟩) Lw Lw) (λb=>.slice (some ⟨b,0,none⟩) Lw Lw) (λb=>.pointer (some ⟨b,0,none⟩)) (.cells (List.replicate Lw (Value.slice none 0 0)).toArray 35) (.cells ((List.replicate Lw (0:Rat)).flatMap qL).toArray 48) (.cells #[.slice none 0 0,.slice none 0 0] 108) (.int .i64 (Lw:Nat)) (.int .i64 (Lw:Nat)) (λx y=>.agg #[.slice (some ⟨x,0,none⟩) Lw Lw,.slice (some ⟨y,0,none⟩) Lw Lw]) (by kernel_rfl) (by kernel_rfl) (by kernel_rfl) (Or.inl ⟨by rfl,λv _=>by go_simp⟩) (Or.inl ⟨by rfl,λv _=>by go_simp⟩) ⟨by rfl,λv=>by go_simp⟩ ⟨by rfl,λv=>by go_simp⟩ ⟨by rfl,λv=>(D6 108 (by simp) _ _ _ _ _ v).trans (by rw[A4t])⟩ (λx1 x3=>Or.inl ⟨by rfl,λv _=>by go_simp⟩) (λv hg=>A6G (λ_=>0) (λ_=>0) Lw (C0H hG.size hg.size) (by omega) rfl) (λv hg=>(A2d f Lw).symm ▸ A09 (C0H hG.size hg.size) (by omega) rfl) (λ_ _ _ hg h=>C0 h hg) (λ_ _ _ hg h=>C0 h hg) (λK hN bg bp b6 u hgu hb6 hx14 hx16 hb _=>?_);clear hmk hmk2;replace hF:=hF.n1 [] hB hG hb6 (by simp);replace hB:=(hB.grow hgu).cons' (show Blk u b6 108 #[.slice none 0 0,.slice none 0 0]from hb);replace hG:=hG.trans hgu;clear hgu hb6 hb;have Ho:=C0P (ProW.mk (MatP.mk hx14 (λi hi=>absurd hi (C2D _)) (λi j hi=>absurd hi (C2D _))) hx16 (λi hi=>absurd hi (C2D _)):ProW w.heap.size Lw bg bp (λ_=>0) (λ_=>0) (Y0 G 0 0) 0 (M7 f Lw 0) u);have hbk:=hB.head;clear hx14 hx16;simp only[Act.put,List.setIfInBounds_toArray,List.set_cons_succ,List.set_cons_zero];refine gt ?_;clear hN K;refine sv hB hF hG 0 0 [_,_] ?_;intro u hu hBG;have Ho2:=C0P (Ho.out.over hbk (by decide) hu);clear hB hG hu Ho hbk;have Ho:=Ho2;clear Ho2;obtain⟨hB,hG⟩:=hBG;have h4w:=hF.1 b4 (by simp);have h6w:=hF.1 b6 (by simp);have h64:b6≠b4:=λe=>by
  have:=hF.2;simp[e]at this
 refine A6 ?_;refine C0K ?_;refine r0T ?_;refine C0s ?_;clear hF;go_loopw [19] (λs0 wr=>∃(k:Nat) (g cp:Nat->Nat),k<=Lw/\s0 = .int .i64 k/\ProW w.heap.size Lw bg bp g cp (Y0 G k 0) k (M7 f Lw k) wr/\Bx wr [(b6,108,#[.slice (some ⟨bg,0,none⟩) Lw Lw,.slice (some ⟨bp,0,none⟩) Lw Lw]),(b4,108,#[.slice none 0 0,.slice none 0 0])]/\A4 w wr) (λs0 _=>Lw-(intOf s0).toNat)
 case atStart=>exact⟨0,_,_,C0h _,rfl,Ho.out,hB,hG⟩
 case round =>
  clear hG Ho hB;obtain⟨k,g,cp,hk,rfl,ho,hB,hG⟩:=hrel;obtain⟨u,rfl⟩:=exQ wr
  have hF:Fr w [b6,b4]:=⟨λb hb=>by
   simp only[List.mem_cons,List.not_mem_nil,or_false]at hb;rcases hb with rfl|rfl
   ·exact h6w
   ·exact h4w,by simp;exact h64⟩
  have Ho:=C0P ho;clear ho;rcases B90 k Lw with hlt|hge
  ·have hdec:decide ((k:Int)<(Lw:Int))=true:=by simp;omega
   have hkl:(k:Int)<(Lw:Int):=by omega
   have hst:=A2b (f:=f) hlt;have Hst:=C0P hst;have Hck:=C0P (Hcl.out k hlt);have Hdk:=C0P (Hdt.out k);have Hyk:=C0P (Hdy.out k hlt);clear hst;refine r0T ?_;refine C0K ?_;refine C0S (rfl) ?_;refine C0R ?_;refine A6 ?_;refine C0K ?_;refine C0s ?_;refine r0T ?_;refine C0K ?_;obtain⟨u5,hu5⟩:=exQ u;have hmk:=Hmk.out;rw[<-hu5]at Ho;refine rdC D6 [] [(0,0),(0,1),(0,2),(0,3),(1,4),(0,5)] hB hG λK L hN hL=>?_
   repeat first|refine gya ?_|refine gyr ?_|refine gna ?_|refine gyb (by(rintro v ⟨hgu,hB,hG,-⟩ N hN;have r:=hB.r;simp only[BxR]at r;(first|have q0:=Hr0.out v hG|skip);go_simp;exact hN)) ?_
   refine gx Nat (λb=>.slice (some ⟨b,0,none⟩) Lw Lw) (λb W=>u5.heap.size<=b/\W.ownsRow w.heap.size 48 5 (.slice (some ⟨b,0,none⟩) Lw Lw) Lw ((G5 (Y0 G k 0) Lw k).flatMap qL)) (λ_ _ _ hg h=>⟨h.1,C0 h.2 hg⟩) rfl ?_ (λx26=>?_)
   ·(rintro v ⟨hgu,hB,hG,-⟩ N hN;go_simp;exact hN v.heap.size _ (⟨hu5 ▸ hgu.size,by rw[B5c];exact A09 hG.sz (by omega) rfl⟩) (A4.alloc _ _))
   refine okf (by simp only[Act.put,List.setIfInBounds_toArray,List.set_cons_succ,List.set_cons_zero];exact rfl) ?_;refine gs ?_;refine geC hL ?_;clear hB hG hL L;rintro u ⟨⟨hgu,hB,hG,-⟩,hx26⟩;clear hmk;have hG5:A4 u5 u:=hu5 ▸ hgu;have Hx:=C0P hx26;have hsp:=A0O (enc:=M6) (size:=1) (λ_=>rfl) (Ho.out.grow hG5).m.hd (A0Y g cp Lw Lw k).symm k 0 (by rw[A0Y];exact hlt) (by omega);have hfz:=(Ho.out.grow hG5).m.hd.frozenAt;rw[C1M,Nat.add_zero,show(M6 ((T6 g cp Lw Lw k)[k]'(by rw[A0Y];exact hlt)))[0]?=some ((T6 g cp Lw Lw k)[k]'(by rw[A0Y];exact hlt))from rfl]at hsp;clear hx26;clear hgu;refine gtT ?_;clear hN K;clear hsp hfz;generalize hu0:World.setCell u _ _=u0;have hu1:C3 u bg k [.slice (some ⟨x26,0,none⟩) Lw Lw]=u0:=hu0;have hP:=ProW.step Ho.out hG5 hlt Hx.out.1 Hx.out.2 hu1;have hG2:=O3 (Ho.out.grow hG5).m.hd hG hP.2;have hB2:=A2O (Ho.out.grow hG5).m.hd hB (by simp) hP.2;obtain⟨g1,hg1⟩:∃x,x=upd g k x26:=⟨_,rfl⟩
   obtain⟨cp1,hcp1⟩:∃x,x=upd cp k Lw:=⟨_,rfl⟩
   have hS1:=hP.1;rw[<-hg1,<-hcp1]at hS1;have Ho2:=C0P hS1;clear hG hB Ho hP hu1 hu0 hG5 Hx hu5 hg1 hcp1 hS1;have hG:=hG2;have hB:=hB2;have Ho:=Ho2;clear hG2 Ho2 hB2 u5;obtain⟨u,rfl⟩:=exQ u0;refine C0K ?_;refine r0T ?_;refine C0s ?_;clear hF;go_loopw [29] (λs0 wr=>∃(j:Nat),j<=Lw/\s0 = .int .i64 j/\ProW w.heap.size Lw bg bp g1 cp1 (Y0 G k j) (k+1) (M7 f Lw k) wr/\Bx wr [(b6,108,#[.slice (some ⟨bg,0,none⟩) Lw Lw,.slice (some ⟨bp,0,none⟩) Lw Lw]),(b4,108,#[.slice none 0 0,.slice none 0 0])]/\A4 w wr) (λs0 _=>Lw-(intOf s0).toNat)
   case atStart=>exact⟨0,C0h _,rfl,Ho.out,hB,hG⟩
   case round =>
    clear hG Ho hB;obtain⟨j,hj,rfl,ho,hB,hG⟩:=hrel;obtain⟨u,rfl⟩:=exQ wr
    have hF:Fr w [b6,b4]:=⟨λb hb=>by
     simp only[List.mem_cons,List.not_mem_nil,or_false]at hb;rcases hb with rfl|rfl
     ·exact h6w
     ·exact h4w,by simp;exact h64⟩
    have Ho:=C0P ho;clear ho;rcases B90 j Lw with hltj|hgej
    ·have hdec2:decide ((j:Int)<(Lw:Int))=true:=by simp;omega
     have hjl:(j:Int)<(Lw:Int):=by omega
     have hst2:=B7Z (G:=G) (k:=k) (j:=j);have hdj:=λx x' W h1 h2 hT=>Hdk.out j hlt hltj x x' W h1 h2 hT;obtain⟨Q,hQ⟩:∃q,q=G k j:=⟨_,rfl⟩
     simp only[<-hQ]at hdj;rw[<-hQ]at hst2;have Hst2:=C0P hst2;have Hdj:=C0P hdj;have Hcj:=C0P (Hcl.out j hltj);clear hst2 hdj hQ;refine r0T ?_;refine C0K ?_;refine C0S (rfl) ?_;refine C0R ?_;refine A6 ?_;refine C0K ?_;refine C0s ?_;refine r0T ?_;refine rdC D6 [15] [(0,0),(0,1),(0,2),(0,3),(0,4),(0,5),(0,6),(0,7),(0,9),(0,10),(1,8),(1,11),(1,12),(0,13),(0,14),(0,15),(0,16)] hB hG λK L hN hL=>?_
     repeat first|refine gya ?_|refine gyr ?_|refine gna ?_|refine gyb (by(rintro v ⟨hgu,hB,hG,-⟩ N hN;have r:=hB.r;simp only[BxR]at r;have q0:=(Ho.out.grow hgu).m.read (C2I k) hlt;go_simp;exact hN)) ?_
     refine gxd (X:=Ax) (λx:Ax=>.slice x.1 N x.2) (λx W=>Lq W x.1 (CL k)) (λx u u' hg h=>Lq.grow h hg) (λx41=>?_) (C:=by(rintro v ⟨hgu,hB,hG,-⟩;exact Hck.out _ hG));refine gxd (X:=Ax) (λx:Ax=>.slice x.1 N x.2) (λx W=>Lq W x.1 (CL j)) (λx u u' hg h=>Lq.grow h hg) (λx44=>?_) (C:=by(rintro v ⟨⟨hgu,hB,hG,-⟩,hx41⟩;exact Hcj.out _ hG));refine gmd (C:=λv ⟨⟨⟨hgu,hB,hG,_⟩,hx41⟩,hx44⟩=>Hdj.out x41 x44 _ hx41 hx44 (HT.grow hG)) ?_;refine gs ?_;refine geC hL ?_;clear hB hG hL L;rintro u ⟨⟨⟨hgu,hB,hG,-⟩,hx41⟩,hx44⟩;have Ho2:=C0P (Ho.out.grow hgu);clear Ho hx41 hx44;have Ho:=Ho2;clear Ho2;obtain⟨z0,z1,z2,z3,z4,o0,o1,o2,o3,o4,hfz⟩:=A0R (enc:=qL) (λ_=>rfl) (Ho.out.m.row k (C2I k)) (A17 _ _ _).symm j (by rw[A17];exact hltj);clear hgu;refine gt ?_;clear hN K;clear o0 o1 o2 o3 o4 hfz;generalize hu0:World.setCell (World.setCell (World.setCell (World.setCell (World.setCell u _ _) _ _) _ _) _ _) _ _=u0;have hu1:C3 u (g1 k) (j*5) (qL Q)=u0:=hu0;have hP:=Ho.out.put (C2I k) hltj Q rfl hu1;have hP2:=(Ho.out.m.put (C2I k) hltj Q rfl hu1).2;rw[Hst2.out]at hP;have hG2:=O3 (Ho.out.m.row k (C2I k)) hG hP2;have hB2:=A2O (Ho.out.m.row k (C2I k)) hB (by simp) hP2;have Ho2:=C0P hP;clear hG hB Ho hP hP2 hu1 hu0;have hG:=hG2;have hB:=hB2;have Ho:=Ho2;clear hG2 Ho2 hB2;obtain⟨u,rfl⟩:=exQ u0;refine C4 ?_;refine A6 ?_;refine r0E ?_;refine A6 ?_;go_roundw
     case rel=>exact⟨j+1,by omega,by go_num,Ho.out,hB,hG⟩
     case measure=>simp[intOf];omega
    ·obtain rfl:Lw=j:=by omega
     have hdec2:decide ((Lw:Int)<(Lw:Int))=false:=by simp
     have hpe:=Ho.out;have Ho2:=C0P (ProW.mk (MatP.congr hpe.m λi hi=>B6d hi) hpe.p hpe.ne:ProW w.heap.size Lw bg bp g1 cp1 (Y0 G (k+1) 0) (k+1) (M7 f Lw k) u);clear Ho hpe;have Ho:=Ho2;clear Ho2;refine r0T ?_;refine C0K ?_;refine C0Q (rfl) ?_;refine C0u ?_;refine B8 ?_;refine B8 ?_;refine E0 ?_;refine A6 ?_;refine rdC D6 [10] [(0,0),(0,1),(0,2),(0,3),(0,4),(0,6),(1,5),(1,7),(0,8),(0,9),(0,10),(0,11)] hB hG λK L hN hL=>?_
     repeat first|refine gya ?_|refine gyr ?_|refine gna ?_|refine gyb (by(rintro v ⟨hgu,hB,hG,-⟩ N hN;have r:=hB.r;simp only[BxR]at r;skip;go_simp;exact hN)) ?_
     refine gxd (X:=Ax) (λx:Ax=>.slice x.1 N x.2) (λx W=>Lq W x.1 (CL k)) (λx u u' hg h=>Lq.grow h hg) (λx56=>?_) (C:=by(rintro v ⟨hgu,hB,hG,-⟩;exact Hck.out _ hG));refine gmd (C:=λv ⟨⟨hgu,hB,hG,_⟩,hx56⟩=>Hyk.out x56 _ hx56 hG (HT.grow hG)) ?_;refine gs ?_;refine geC hL ?_;clear hB hG hL L;rintro u ⟨⟨hgu,hB,hG,-⟩,hx56⟩;have Ho2:=C0P (Ho.out.grow hgu);clear Ho hx56;have Ho:=Ho2;clear Ho2;obtain⟨Q,hQ⟩:∃q,q=f k:=⟨_,rfl⟩
     have hst:=Hst.out;rw[<-hQ]at hst⊢;clear Hst;have Hst:=C0P hst;clear hst hQ;obtain⟨z0,z1,z2,z3,z4,o0,o1,o2,o3,o4,hfz⟩:=A0R (enc:=qL) (λ_=>rfl) Ho.out.p (O5 f Lw k).symm k (by rw[O5];exact hlt);clear hgu;refine gt ?_;clear hN K;clear o0 o1 o2 o3 o4 hfz;generalize hu0:World.setCell (World.setCell (World.setCell (World.setCell (World.setCell u _ _) _ _) _ _) _ _) _ _=u0;have hu1:C3 u bp (k*5) (qL Q)=u0:=hu0;have hP:=Ho.out.pull (O5 f Lw k) hlt Q hu1;have hP2:=(T7 (enc:=qL) (size:=5) (ps:=M7 f Lw k) (λ_=>rfl) Ho.out.p k Q (by rw[O5];exact hlt)).2;rw[hu1]at hP2;rw[Hst.out]at hP;have hG2:=O3 Ho.out.p hG hP2;have hB2:=A2O Ho.out.p hB (by simp) hP2;have Ho2:=C0P hP;clear hG hB Ho hP hP2 hu1 hu0;have hG:=hG2;have hB:=hB2;have Ho:=Ho2;clear hG2 Ho2 hB2;obtain⟨u,rfl⟩:=exQ u0;refine C4 ?_;refine A6 ?_;refine r0E ?_;refine A6 ?_;go_roundw
     case rel=>exact⟨k+1,g1,cp1,by omega,by go_num,Ho.out,hB,hG⟩
     case measure=>simp[intOf];omega
  ·obtain rfl:Lw=k:=by omega
   have hdec:decide ((Lw:Int)<(Lw:Int))=false:=by simp
   have HM:=C0P (MatP.congr Ho.out.m λi hi=>B25 hi).done;have hp:=Ho.out.p;rw[A2B]at hp;have Hp:=C0P hp;clear Ho hp;refine r0T ?_;refine C0K ?_;refine C0Q (rfl) ?_;refine C0u ?_;refine B8 ?_;refine B8 ?_;refine E0 ?_;refine A6 ?_;refine C0K ?_;have hbk:=hB.tail.head
   (first|have q0:=Hr0.out u hG|skip)
   refine r0N ?_;refine sv hB hF hG 1 0 [_,_] ?_;intro u hu hBG;have HM2:=C0P (HM.out.over ⟨λe=>F0 HM.out.hd hbk (by decide) (C1a some e.symm),λi hi e=>F0 (HM.out.row i hi) hbk (by decide) (C1a some e.symm)⟩ hu);have hp2:=I2 Hp.out (F0 Hp.out hbk (by decide)) hu;have HL:=C0P hp2;clear hB hG hu HM Hp hbk hp2;obtain⟨hB,hG⟩:=hBG;refine rt Tryz.results59 ?_;exact⟨((bg,g,cp),bp),rfl,⟨HM2.out,HL.out⟩,hG⟩
theorem A3L{B b:Nat}{w W:World}{o:Obj}(h:Below B w W)(hb:B<=b):Below B w (W.putObj b o) :=
 ⟨h.os,h.tape,h.output,by rw[C2M];exact h.size,λk hk=>(C2N (by omega)).trans (h.block k hk)⟩
def B1A(D:Nat)(J:Nat->Prop)(Ix:World->Prop)(i:Nat)(W:World):Exit->Act->World->Prop
 | .normal,_,W'=>A4 W W'/\J (i+1)
 | .ret,_,W'=>Ix W'/\W'.heap[D]?=W.heap[D]?/\W'.heap[D+1]?=W.heap[D+1]?
 | _,_,_=>False
theorem B47{P:Program}{g:Operand}{p0:Tmp}{assign body:Code}{Q:Exit->Act->World->Prop}{a:Act}{wE:World}{gf:Nat}{lb:Array Value}(hg:a.eval g = .func (.func gf) #[] lb)(eg:∀args w,(callFunc gf args).run P w = .ok (.enter gf args) w)
  (N:Nat) (C:Nat->Value->World->Prop) (J:Nat->Prop) (Ix:World->Prop) (a₁:Value->Act)
  (it:∀(l:Nat) (Rd:Nat->World->Prop) (Rx:World->Prop) (W:World),A4 wE W->wE.heap.size+2<=W.heap.size->(∀i u v,A4 u v->Rd i u->Rd i v)->(∀u v,A4 u v->Rx u->Rx v) ->
   (∀i v W1,i<N->A4 wE W1->Rd i W1->C i v W1->YieldAt Fence.wide 0 P l #[v] W1 λe W'=>(e = .returned (.bool true)/\A4 W1 W'/\Rd (i+1) W')\/(e = .returned (.bool false)/\Rx W')) ->
   Rd 0 W->CallsIn Fence.wide 0 P gf (#[.func (.yield l) #[] #[]]++lb) W λe W'=>(∃v,e = .returned v)/\((A4 wE W'/\Rd N W')\/Rx W'))
  (hC:∀i v W o,C i v W->C i v (W.putObj (wE.heap.size+1) o)) (hIx:∀W o b,b=wE.heap.size\/b=wE.heap.size+1->Ix W->Ix (W.putObj b o)) (hIg:∀u v,A4 u v->Ix u->Ix v) (h0:J 0)
  (hassign:∀(l:Nat) (v:Value) (W:World) (K:Act->World->Prop),K (a₁ v) W->assign.wpIn (Fence.wide.inRound l) 0 P (Exit.then K (λ_ _ _=>False)) { tmps:=((#[p0]:Array Tmp).zip #[v]).foldl (λt (p,v)=>t.setIfInBounds p v) a.tmps,defers:=[] } W)
  (hbody:∀(l i:Nat) (v:Value) (W:World),i<N->J i->A4 wE W->wE.heap.size+2<=W.heap.size->C i v W->body.wpIn (Fence.wide.inRound l) 0 P (B1A wE.heap.size J Ix i W) (a₁ v) W)
  (hdone:∀W,A4 wE W->J N->W.heap[wE.heap.size]?=some (.deferred (some []))->Q .normal { a with defers:={ target:=.collected wE.heap.size,args:=#[] }::a.defers } W)
  (hstop:∀W,Ix W->W.heap[wE.heap.size]?=some (.deferred (some []))->Code.ret.wpIn Fence.wide 0 P Q { a with defers:={ target:=.collected wE.heap.size,args:=#[] }::a.defers } W) :
  (Code.rangeFunc g #[p0] assign body).wpIn Fence.wide 0 P Q a wE:=by
 refine wpIn_rangeFunc ?_;intro fn hfn;obtain⟨rec,hrec⟩:∃rec:LoopState->Option Code->Loop,rec=λst pe=>{ state:=st,pending:=pe,fn,tmps:=a.tmps,params:=#[p0],assign,body,defers:=wE.heap.size }:=⟨_,rfl⟩
 obtain⟨W1,hW1⟩:∃W1,(wE.alloc (.deferred (some []))).alloc (.loop (rec .ready none))=W1:=⟨_,rfl⟩
 have hL1:W1.heap[wE.heap.size+1]?=some (.loop (rec .ready none)):=by
  rw[<-hW1];have:=C2O (wE.alloc (.deferred (some []))) (.loop (rec .ready none));rwa [World.size_alloc]at this
 have hK1:W1.heap[wE.heap.size]?=some (.deferred (some [])):=by
  rw[<-hW1];exact(Below.heap_alloc _ _ _ (by simp)).trans (C2O wE _)
 have hG1:A4 wE W1:=by rw[<-hW1];exact(A4.alloc _ _).trans (A4.alloc _ _)
 have hS1:wE.heap.size+2<=W1.heap.size:=by rw[<-hW1];simp
 have keep:∀ {u v:World} {k:Nat} {o:Obj},A4 u v->u.heap[k]?=some o->v.heap[k]?=some o:=λhg h=>(hg.block _ (Array.getElem?_eq_some_iff.1 h).1).trans h
 refine⟨wE.heap.size+1,[{ target:=.collected wE.heap.size,args:=#[] }],W1,{ target:=.fn (.func gf) lb,args:=#[.func (.yield (wE.heap.size+1)) #[] #[]] },W1,gf,
  #[.func (.yield (wE.heap.size+1)) #[] #[]]++lb,W1,?_,?_,λ_ _=>trivial,?_,λh=>(by cases h),?_⟩
 ·rw[<-hW1,hrec];exact run_enterLoop_outer _ _ _ _ _
 ·simp only[resolve,hg];simp[go_sem]
 ·simp[invoke,go_sem,eg]
 ·refine(it (wE.heap.size+1)
   (λi W=>J i/\W.heap[wE.heap.size+1]?=some (.loop (rec .ready none))/\W.heap[wE.heap.size]?=some (.deferred (some [])))
   (λW=>Ix W/\W.heap[wE.heap.size+1]?=some (.loop (rec .done (some .ret)))/\W.heap[wE.heap.size]?=some (.deferred (some [])))
   W1 hG1 hS1 (λi u v hg h=>⟨h.1,keep hg h.2.1,keep hg h.2.2⟩) (λu v hg h=>⟨hIg _ _ hg h.1,keep hg h.2.1,keep hg h.2.2⟩) ?_ ⟨h0,hL1,hK1⟩).mono ?_
  ·rintro i v W hi hGW ⟨hj,hl,hk⟩ hc;have hlt:wE.heap.size+1<W.heap.size:=(Array.getElem?_eq_some_iff.1 hl).1;have hy:=run_yield (P:=P) (args:=#[v]) hl (by rw[hrec];rfl);rw[hrec]at hy;refine⟨fn,_,assign,body,hy,roundIn_of_wpIn hfn (hassign _ v W _ ⟨_,run_beginRound hl (by rw[hrec]),?_⟩)⟩;obtain⟨Wb,hWb⟩:∃Wb,Wb=W.putObj (wE.heap.size+1) (.loop { rec .ready none with state:=.busy }):=⟨_,rfl⟩
   have hl2:Wb.heap[wE.heap.size+1]?=some (.loop { rec .ready none with state:=.busy }):=by rw[hWb];exact C2P hlt
   have hk2:Wb.heap[wE.heap.size]?=some (.deferred (some [])):=by rw[hWb];exact(C2N (by omega)).trans hk
   have hg2:A4 wE Wb:=by rw[hWb];exact A3L hGW (by omega)
   have hc2:C i v Wb:=by rw[hWb];exact hC i v W _ hc
   have hs2:Wb.heap.size=W.heap.size:=by rw[hWb];exact C2M
   rw[<-hWb];refine wpIn_mono (hbody _ i v Wb hi hj hg2 (by omega) hc2) ?_;rintro e a3 W3 hp
   cases e with
   | normal =>
    obtain⟨hk3,hj3⟩:=hp;have hl3:=keep hk3 hl2;have hr:=run_endRound (P:=P) none hl3;have hlt3:=(Array.getElem?_eq_some_iff.1 hl3).1;have e1:(W3.putObj (wE.heap.size+1) (.loop { rec .ready none with state:=.ready,pending:=none })).heap[wE.heap.size+1]?=some (.loop (rec .ready none)):=by
     rw[C2P hlt3,hrec]
    refine⟨_,_,hr,.inl ⟨rfl,⟨?_,?_,?_,?_,λk hk=>?_⟩,hj3,e1,(C2N (by omega)).trans (keep hk3 hk2)⟩⟩
    ·exact hk3.os.trans (by rw[hWb];rfl)
    ·exact hk3.tape.trans (by rw[hWb];rfl)
    ·exact hk3.output.trans (by rw[hWb];rfl)
    ·rw[C2M];have:=hk3.size;omega
    ·by_cases hkk:k=wE.heap.size+1
     ·rw[hkk];exact e1.trans hl.symm
     ·refine(C2N hkk).trans ((hk3.block k (by omega)).trans ?_);rw[hWb];exact C2N hkk
   | ret =>
    obtain⟨hi3,hd3,hl3⟩:=hp;have hl3:=hl3.trans hl2;have hr:=run_endRound (P:=P) (some .ret) hl3;have hlt3:=(Array.getElem?_eq_some_iff.1 hl3).1;refine⟨_,_,hr,.inr ⟨rfl,hIx _ _ _ (.inr rfl) hi3,?_,(C2N (by omega)).trans (hd3.trans hk2)⟩⟩;rw[C2P hlt3,hrec];rfl
   | exit id=>exact hp.elim
   | goto t=>exact hp.elim
   | panic ch=>exact hp.elim
   | outgrown=>exact hp.elim
  ·rintro e W2 ⟨⟨v,rfl⟩,(⟨hg2,hj2,hl,hk⟩|⟨hx,hl,hk⟩)⟩
   ·refine⟨none,_,by have:=run_endLoop (P:=P) hl (by rw[hrec];simp);rw[hrec]at this;exact this,hdone _ (A3L hg2 (by omega)) hj2 ((C2N (by omega)).trans hk)⟩
   ·refine⟨some .ret,_,by have:=run_endLoop (P:=P) hl (by rw[hrec];simp);rw[hrec]at this;exact this,hstop _ (hIx _ _ _ (.inr rfl) hx) ((C2N (by omega)).trans hk)⟩
end Go.Proofs.YtgpglgbcobeogaaGreatDoor
namespace Go.Proofs.YtgpglgbcobeogaaGreatDoor
open Go Go.RowKit Go.Shelf
attribute [local go_sem] Oper.semAt_some
def sgI(c t:Nat):Int:=((c/3^t%3:Nat):Int)-1
def F5(n c:Nat):List Int:=(List.range n).map (sgI c)
def A0I(f:Nat->Int)(n i:Nat):List Int:=(List.range n).map λj=>if j<i then f j else 0
theorem A94(f:Nat->Int)(n i:Nat):(A0I f n i).length=n:=by unfold A0I;simp
theorem A9u(f:Nat->Int)(n:Nat):A0I f n 0=List.replicate n 0:=by
 unfold A0I;apply C0F
 ·simp
 ·intro i h1 h2;simp
theorem B0C(f:Nat->Int)(n:Nat):A0I f n n=(List.range n).map f:=by
 unfold A0I;refine C14 λj hj=>?_;rw[if_pos (List.mem_range.1 hj)]
theorem A9F{f:Nat->Int}{n i:Nat}(h:i<n):(A0I f n i).set i (f i)=A0I f n (i+1):=by
 unfold A0I;apply C0F
 ·simp
 ·intro j h1 h2;rw[C12];simp only[List.getElem_map,List.getElem_range];by_cases e:i=j
  ·subst e;simp
  ·rw[if_neg e];by_cases hj:j<i
   ·rw[if_pos hj,if_pos (by omega)]
   ·rw[if_neg hj,if_neg (by omega)]
def A4y(B n:Nat)(i:Nat)(v:Value)(W:World):Prop:=∃b,v = .slice (some ⟨b,0,none⟩) n n/\B<=b/\Blk W b 3 (R6 (F5 n i))
theorem B5r(n b1:Nat)(hn:n<=6)(wE:World)(hb:Blk wE b1 3 #[.int .i64 (n:Nat)])(l:Nat)(Rd:Nat->World->Prop)(Rx:World->Prop)(W:World)(hGW:A4 wE W)(hsz:wE.heap.size+2<=W.heap.size)(hRd:∀i u v,A4 u v->Rd i u->Rd i v)(hRx:∀u v,A4 u v->Rx u->Rx v)
  (hY:∀i v W1,i<3^n->A4 wE W1->Rd i W1->A4y (wE.heap.size+2) n i v W1->YieldAt Fence.wide 0 Tryz.prog l #[v] W1 λe W'=>(e = .returned (.bool true)/\A4 W1 W'/\Rd (i+1) W')\/(e = .returned (.bool false)/\Rx W')) (h0:Rd 0 W) :
  CallsIn Fence.wide 0 Tryz.prog 127 (#[.func (.yield l) #[] #[]]++#[.pointer (some ⟨b1,0,none⟩)]) W λe W'=>(∃v,e = .returned v)/\((A4 wE W'/\Rd (3^n) W')\/Rx W'):=by
 refine callsIn_wide.2 (callsIn_wide (n:=1).1 ?_);refine callsIn_of_wp Tryz.func127 rfl trivial ?_ rfl;have hpw:∀i,i<=n->3^i<=729:=λi hi=>C0H (C0W (by omega) (C0H hi hn)) (by decide);have hmk:=B0q n (by omega) (n:Int) rfl;have Hmk:=C0P hmk;have Hpw:=C0P hpw;have HY:=C0P hY;have hbl:∀V,A4 wE V->V.cell? ⟨b1,0,none⟩=some (.int .i64 (n:Nat))/\V.frozen? ⟨b1,0,none⟩=false:=λV hg=>⟨by rw[(hb.grow hg).cell 0];rfl,(hb.grow hg).frozen 0⟩
 have Hbl:=C0P hbl;clear hY hb hmk hpw hbl;simp only[Tryz.ntmps127,List.size_toArray,List.length_cons,List.length_nil,Nat.reduceAdd,Nat.reduceSub,Array.replicate_succ,Array.replicate_zero,List.push_toArray,List.append_toArray,List.nil_append,List.cons_append];obtain⟨q0,q1⟩:=Hbl.out W hGW;gi_wp2;gi_loopw [9,3] (λs0 s1 wr=>wr=W/\∃i:Nat,i<=n/\s0 = .int .i64 i/\s1 = .int .i64 (3^i:Nat)) (λs0 _ _=>n-(intOf s0).toNat)
 case atStart=>exact⟨rfl,0,C0h _,rfl,rfl⟩
 case round =>
  obtain⟨rfl,i,hi,rfl,rfl⟩:=hrel;have hT:=Hpw.out i hi;obtain⟨T,hTe⟩:∃T,T=3^i:=⟨_,rfl⟩
  rw[<-hTe]at hT;simp only[<-hTe];rcases B90 i n with hlt|hge
  ·have hdec:decide ((i:Int)<(n:Int))=true:=by simp;omega
   have hw1:IntKind.i64.wrap ((T:Int)*3)=((3^(i+1):Nat):Int):=by
    rw[C0g _ (by omega),Nat.pow_succ,<-hTe];omega
   have hw2:IntKind.i64.wrap ((i:Int)+1)=((i+1:Nat):Int):=by rw[C0g _ (by omega)];omega
   clear hTe;gi_wp2;go_roundw
   case rel=>exact⟨(by first|trivial|rfl),i+1,by omega,rfl,rfl⟩
   case measure=>simp[intOf];omega
  ·obtain rfl:n=i:=by omega
   have hdec:decide ((n:Int)<(n:Int))=false:=by simp
   have Hte:=C0P hTe;clear hTe q0 q1;gi_wp2;gi_loopw [15] (λs0 wr=>∃c:Nat,c<=T/\s0 = .int .i64 c/\A4 wE wr/\Rd c wr/\wE.heap.size+2<=wr.heap.size) (λs0 _=>T-(intOf s0).toNat)
   case atStart=>exact⟨0,C0h _,rfl,hGW,h0,hsz⟩
   case round =>
    clear hGW hsz h0;obtain⟨c,hc,rfl,hGW,h0,hsz⟩:=hrel;obtain⟨u,rfl⟩:=exQ wr;obtain⟨q0,q1⟩:=Hbl.out u hGW;rcases B90 c T with hlt|hge2
    ·have hdec2:decide ((c:Int)<(T:Int))=true:=by simp;omega
     have hw3:IntKind.i64.wrap ((c:Int)+1)=((c+1:Nat):Int):=by rw[C0g _ (by omega)];omega
     have hmk:=Hmk.out;gi_wp2;clear hmk;generalize hv:World.alloc u _=v;have hbk:Blk v u.heap.size 3 (R6 (A0I (sgI c) n 0)):=by rw[<-hv,A9u];exact Blk.new u 3 _
     have hgv:A4 u v:=hv ▸ A4.alloc u _;have hbz:wE.heap.size+2<=u.heap.size:=hsz;clear hv;generalize hbe:u.heap.size=b at hbk hbz⊢;gi_loopw [6,7] (λs0 s1 wr=>∃j R:Nat,j<=n/\s0 = .int .i64 j/\s1 = .int .i64 R/\R=c/3^j/\A4 u wr/\Blk wr b 3 (R6 (A0I (sgI c) n j))) (λs0 _ _=>n-(intOf s0).toNat)
     case atStart=>exact⟨0,c,C0h _,rfl,rfl,by simp,hgv,hbk⟩
     case round =>
      clear hbk hgv;obtain⟨j,R,hj,rfl,rfl,hR,hgv,hbk⟩:=hrel;obtain⟨p0,p1⟩:=Hbl.out wr (hGW.trans hgv);have hRle:R<=c:=by rw[hR];exact C0M _ _
      rcases B90 j n with hltj|hgej
      ·have hdec3:decide ((j:Int)<(n:Int))=true:=by simp;omega
       have hjn:(j:Int)<(n:Int):=by omega
       have hw4:IntKind.i64.wrap ((j:Int)+1)=((j+1:Nat):Int):=by rw[C0g _ (by omega)];omega
       have hm:(R:Int).tmod 3=((R%3:Nat):Int):=by rw[C0O (by omega)];omega
       have hd:(R:Int).tdiv 3=((R/3:Nat):Int):=by rw[C0N (by omega)];omega
       have hm3:R%3<3:=C0Y _ (by omega);have hd3:R/3=c/3^(j+1):=by rw[hR,Nat.pow_succ,C0T]
       have hsg:sgI c j=((R%3:Nat):Int)-1:=by unfold sgI;rw[<-hR]
       obtain⟨m,hme⟩:∃m,m=R%3:=⟨_,rfl⟩
       obtain⟨d,hde⟩:∃d,d=R/3:=⟨_,rfl⟩
       rw[<-hme]at hm hm3 hsg;rw[<-hde]at hd hd3;have hdl:d<=R:=by rw[hde];exact C0M _ _
       have hw5:IntKind.i64.wrap (m:Int)=(m:Int):=C0g _ (by omega);have hw6:IntKind.i64.wrap (d:Int)=(d:Int):=C0g _ (by omega);have hw7:IntKind.i64.wrap ((m:Int)-1)=(m:Int)-1:=C0g _ (by omega);have hst:=A9F (f:=sgI c) hltj;rw[hsg]at hst;have hcl:=hbk.cell j;rw[A4f,C0f (by rw[A94];exact hltj)]at hcl;simp only[Option.map_some]at hcl;have hfz:=hbk.frozen j;have hbk2:=hbk.set_ j (.int .i64 ((m:Int)-1));rw[A7u,hst]at hbk2;have hg2:A4 u (wr.setCell ⟨b,j,none⟩ (.int .i64 ((m:Int)-1))):=A4.put (C01 hbe) [.int .i64 ((m:Int)-1)] j wr hgv;have Hd3:=C0P hd3;clear hme hde hR hst hbk hsg hd3;gi_wp2;go_roundw
       case rel=>exact⟨j+1,d,by omega,rfl,rfl,Hd3.out,hg2,hbk2⟩
       case measure=>simp[intOf];omega
      ·obtain rfl:n=j:=by omega
       have hdec3:decide ((n:Int)<(n:Int))=false:=by simp
       rw[B0C]at hbk;have hg3:=hGW.trans hgv;obtain⟨fn,tmps,assign,body,hy,hRd3⟩:=HY.out c _ wr (by rw[<-Hte.out];exact hlt) hg3 (hRd _ _ _ hgv h0) ⟨b,rfl,hbz,hbk⟩;clear hR hbk;gi_wp2;refine hRd3.mono ?_;rintro e W3 (⟨rfl,hg4,hrd⟩|⟨rfl,hx⟩)
       ·gi_wp2;go_roundw
        case rel=>exact⟨c+1,by omega,rfl,hg3.trans hg4,hrd,C0H hsz (hgv.trans hg4).size⟩
        case measure=>simp[intOf];omega
       ·gi_wp2;refine C0I (results_none rfl _ _ _) rfl ?_;exact⟨⟨_,rfl⟩,.inr hx⟩
    ·obtain rfl:T=c:=by omega
     have hdec2:decide ((T:Int)<(T:Int))=false:=by simp
     gi_wp2;go_end0;exact⟨⟨_,rfl⟩,.inl ⟨hGW,by rw[<-Hte.out];exact h0⟩⟩
end Go.Proofs.YtgpglgbcobeogaaGreatDoor
namespace Go.Proofs.YtgpglgbcobeogaaGreatDoor
open Go Go.RowKit
theorem B4K{P:Program}{o:Oper}{a:Act}{w:World}{N N' K:Act->World->Prop}{l0:Nat}(hd:∀c,o.op ≠ .defer c)(hN:∀a w,N a w->N' a w)(h:o.wp P a w N (NoK K)):o.wpIn (Fence.wide.inRound l0) 0 P a w N' (NoK K):=by
 refine⟨λ_ _=>trivial,?_⟩;rw[show(Fence.wide.inRound l0).round=some l0 from rfl,Oper.semAt_some l0 _ _ hd];unfold Oper.wp at h;revert h;generalize (execOp a.eval o).run P w=res;intro h
 cases res with
 | ok n w' =>
  cases n with
  | value v=>exact hN _ _ h
  | skip=>exact hN _ _ h
  | defer d=>exact hN _ _ h
  | enter g args =>
   refine⟨λe=>(by cases e),CallsIn.inRound l0 (callsIn_wide.2 (Calls.mono h λe w'' he=>?_))⟩
   cases e with
   | returned v=>exact hN _ _ he
   | panicked ch=>exact he
   | outgrown=>exact he
  | row r args =>
   exact⟨λe=>(by cases e),λc cs _=>let ⟨v,w',r,s⟩:=(h:Rows P r args w' _) c cs;⟨v,w',hN _ _ r,stepsIn_wide.2 s⟩⟩
  | _=>exact(h:False).elim
 | halt x w' =>
  cases x with
  | panic v=>exact h
  | _=>exact(h:False).elim
theorem A7l{P:Program}{ops:Array Oper}{K:Act->World->Prop}{l0:Nat}:∀(l:List Oper) (a:Act) (w:World),(∀o∈l,∀c,o.op ≠ .defer c)->wpList P ops (NoK K) l a w->wpListIn (Fence.wide.inRound l0) 0 P ops (NoK K) l a w
 | [],_,_,_,h=>h
 | o::l,a,w,hd,h=>by
  unfold wpList at h;unfold wpListIn;have ih:=λa w (h:wpList P ops (NoK K) l a w)=>A7l (l0:=l0) l a w (λx hx=>hd x (B91 _ hx)) h;split at h
  ·rename_i hw;rw[if_pos hw];rcases h with h|⟨_,h⟩
   ·exact B4K (hd o (by simp)) ih h
   ·exact absurd h (by
     intro h;unfold LetsOut at h;obtain⟨_,_,h⟩:=h
     exact h)
  ·rename_i hw;rw[if_neg hw];exact⟨λ_ _=>trivial,ih _ _ h⟩
def A4D(l:List Oper):Bool:=l.all λo=>match o.op with
 | .defer _=>false
 | _=>true
theorem A8F{l:List Oper}(h:A4D l=true):∀o∈l,∀c,o.op ≠ .defer c:=λo ho c e=>by
 have:=List.all_eq_true.1 h o ho;rw[e]at this;cases this
section
variable {P:Program} {Q:Exit->Act->World->Prop} {a:Act} {w u:World} {id l0:Nat} {l tl:List Oper} {ts:List TypeId} {bl:List (Nat×TypeId×Array Value)} {s:List (Nat×Oper)}
theorem B2B(h:∀K:Act->World->Prop,(∀a w,Q .normal a w->K a w)->wpList P l.toArray (NoK K) l a u)(hd:A4D l=true:=by kernel_rfl):(Code.region id l.toArray false).wpIn (Fence.wide.inRound l0) 0 P Q a u:=by
 refine wpIn_mono (Q:=NoP Q) (wpIn_region_lit ?_) NoP.up;rw[NoK.eq];exact A7l l a u (A8F hd) (h _ λ_ _ h=>h)
theorem A4j(hts:∀t∈ts,P8 P t)(n:Nat)(ks:List Nat)(hB:A0n ts l n ks=true)(htl:l.drop n=tl)
  (hb:Bx u bl) (hG:A4 w u)
  (h:∀K L:Act->World->Prop,(∀a w,Q .normal a w->K a w)->(∀a' w',wpList P l.toArray (NoK K) tl a' w'->L a' w')->OKs P l.toArray L u.heap.size (ks.zip l) [] a (λv=>A4 u v/\Bx v bl/\A4 w v/\True)) (hd:A4D l=true:=by kernel_rfl):(Code.region id l.toArray false).wpIn (Fence.wide.inRound l0) 0 P Q a u:=by
 replace h:=h (Q .normal) (λa' w'=>wpList P l.toArray (NoK (Q .normal)) (l.drop n) a' w') (λ_ _ h=>h) (λ_ _ h=>by rw[htl];exact h);simp only[A0n,Bool.and_eq_true,decide_eq_true_eq]at hB;obtain⟨⟨hlen,hn⟩,hall⟩:=hB;refine wpIn_mono (Q:=NoP Q) (wpIn_region_lit ?_) NoP.up;rw[NoK.eq];refine A7l l a u (A8F hd) ?_;rw[<-NoK.eq]at h⊢;have hz:ks.zip l=ks.zip (l.take n):=by
  rw[<-hlen];clear hlen hn hall h htl hd
  induction ks generalizing l with
  | nil=>simp
  | cons k ks ih=>cases l with
   | nil=>simp
   | cons o l=>simp only[List.length_cons,List.take_succ_cons,List.zip_cons_cons];rw[ih]
 rw[hz]at h;have H:=OKs.seq (Q:=Q) (B:=u.heap.size) (tl:=l.drop n) (ks.zip (l.take n)) [] a (λv=>A4 u v/\Bx v bl/\A4 w v/\True) u (λe he hk=>?_) (λu u' hu hh=>⟨hh.1.trans hu,hh.2.1.grow hu,hh.2.2.1.trans hu,trivial⟩) ⟨A4.refl u,hb,hG,trivial⟩ (λu hu=>⟨hu.1.size,λb hb=>by cases hb⟩) h
 ·rw[A6C ks (l.take n) (by simp;omega),C0A]at H;exact H
 ·obtain⟨i,hi,hie⟩:=List.mem_iff_getElem.1 he;simp only[List.length_zip,List.length_take]at hi;have h2:e=(ks[i]'(by omega),l[i]'(by omega)):=by rw[<-hie];simp
  have h3:(ks[i]'(by omega),i)∈ks.zip (List.range n):=List.mem_iff_getElem.2 ⟨i,by simp;omega,by simp⟩;have hk':2<=ks[i]'(by omega):=by rw[h2]at hk;exact hk
  have h4:=A4h (P:=P) hts hall _ h3 hk' (l[i]'(by omega)) (by simp);rw[h2];exact h4
theorem A8B(hts:∀t∈ts,P8 P t)(ks:List Nat)(hB:Bx u bl)(hG:A4 w u)(h:∀L:Act->World->Prop,(∀a w,Q .normal a w->L a w)->OKs P l.toArray L u.heap.size s [] a (λv=>A4 u v/\Bx v bl/\A4 w v/\True))
  (hs:A0n ts l ks.length ks=true:=by kernel_rfl) (hd:l.drop ks.length=[]:=by(simp only[List.length_cons,List.length_nil,Nat.zero_add,Nat.reduceAdd,List.drop_succ_cons,List.drop_zero,List.drop_nil])) (hz:ks.zip l=s:=by(simp only[List.zip_cons_cons,List.zip_nil_left];exact rfl)) (hf:A4D l=true:=by kernel_rfl):(Code.region id l.toArray false).wpIn (Fence.wide.inRound l0) 0 P Q a u:=by
 subst hz;exact A4j hts ks.length ks hs hd hB hG (λK L hN hL=>h L λa w hq=>hL a w (wpList_nil (NoK.norm (hN a w hq)))) hf
theorem A4L(hts:∀t∈ts,P8 P t)(ks:List Nat)(hB:Bx u bl)(hG:A4 w u)(h:∀K L:Act->World->Prop,(∀a w,Q .normal a w->K a w)->(∀a' w',wpList P l.toArray (NoK K) tl a' w'->L a' w')->OKs P l.toArray L u.heap.size s [] a (λv=>A4 u v/\Bx v bl/\A4 w v/\True))
  (hs:A0n ts l ks.length ks=true:=by kernel_rfl) (hd:l.drop ks.length=tl:=by(simp only[List.length_cons,List.length_nil,Nat.zero_add,Nat.reduceAdd,List.drop_succ_cons,List.drop_zero,List.drop_nil];exact rfl)) (hz:ks.zip l=s:=by(simp only[List.zip_cons_cons,List.zip_nil_left];exact rfl)) (hf:A4D l=true:=by kernel_rfl):(Code.region id l.toArray false).wpIn (Fence.wide.inRound l0) 0 P Q a u:=by
 subst hz;exact A4j hts ks.length ks hs hd hB hG h hf
end
end Go.Proofs.YtgpglgbcobeogaaGreatDoor
