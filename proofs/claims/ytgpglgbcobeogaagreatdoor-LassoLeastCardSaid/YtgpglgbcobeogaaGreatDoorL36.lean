import Derived.Test.YtgpglgbcobeogaaGreatDoorL35
set_option linter.unusedSimpArgs false
set_option linter.unusedVariables false
set_option maxHeartbeats 4000000
set_option maxRecDepth 100000
namespace Go.Proofs.YtgpglgbcobeogaaGreatDoor
open Go Go.RowKit
theorem A2D{u w':World}{B:Nat}{e:TypeId}{size n:Nat}{v:Value}{xs:List Value}{l:List (Nat×TypeId×Array Value)}(h:u.ownsRow B e size v n xs)(hB:Bx u l)(ht:∀x∈l,x.2.1≠e)(hg:u.grownBy w' v.ownBlock):Bx w' l :=
 hB.grown_ hg λx hx hxe=>L8 h (hB x hx) (λe1=>ht x hx e1.symm) hxe.symm
theorem MatP.kept{B n L b0 k:Nat}{g cp:Nat->Nat}{M:Mx}{W W':World}(h:MatP B n L b0 g cp M k W){r:Option Nat}(hg:W.grownBy W' r)(h0:some b0≠r)(hr:∀i,i<k->some (g i)≠r):MatP B n L b0 g cp M k W' :=
 ⟨h.hd.kept hg (.inr h0),λi hi=>(h.row i hi).kept hg (.inr (hr i hi)),h.inj⟩
theorem MatP.gb0{B n L b0 k:Nat}{g cp:Nat->Nat}{M:Mx}{W:World}(h:MatP B n L b0 g cp M k W){i:Nat}(hi:i<k):g i≠b0:=λe=>O0 h.hd (h.row i hi) (by decide) b0 rfl (by rw[<-e];rfl)
theorem MatP.glt{B n L b0 k:Nat}{g cp:Nat->Nat}{M:Mx}{W:World}(h:MatP B n L b0 g cp M k W){i:Nat}(hi:i<k):B<=g i/\g i<W.heap.size:=(h.row i hi).lt (g i) rfl
theorem MatP.read{B n L b0 k:Nat}{g cp:Nat->Nat}{M:Mx}{W:World}(h:MatP B n L b0 g cp M k W){i:Nat}(hi:i<k)(hin:i<n):W.cell? ⟨b0,i,none⟩=some (T4 g cp L i):=by
 have h1:=V6 (enc:=K5) (size:=1) (λ_=>rfl) h.hd (A0M g cp L n k).symm i 0 (by rw[A0M];exact hin) (by omega);rw[B9P,Nat.add_zero]at h1;rw[h1];unfold R8;simp[hi]
theorem MatP.put{B n L b0 k:Nat}{g cp:Nat->Nat}{M:Mx}{W W':World}(h:MatP B n L b0 g cp M k W){i j:Nat}(hi:i<k)(hj:j<L)(q:Rat){o:Nat}(ho:o=j*5)(hu:C7 W (g i) o (qL q)=W'):MatP B n L b0 g cp (Z6 M i j q) k W'/\W.grownBy W' (some (g i)):=by
 subst ho;obtain⟨h1,h2⟩:=P6 (enc:=qL) (size:=5) (ps:=C9 M L i) (λ_=>rfl) (h.row i hi) j q (by rw[P4];exact hj);rw[hu,A63 hj]at h1;rw[hu]at h2;refine⟨⟨h.hd.kept h2 (.inr λe=>h.gb0 hi (B78 e).symm),λi' hi'=>?_,h.inj⟩,h2⟩;by_cases e:i'=i
 ·subst e;exact h1
 ·rw[A9j e];exact(h.row i' hi').kept h2 (.inr λe2=>e (h.inj i' i hi' hi (B78 e2)))
theorem MatP.congr{B n L b0 k:Nat}{g cp:Nat->Nat}{M M':Mx}{W:World}(h:MatP B n L b0 g cp M k W)(he:∀i,i<k->C9 M L i=C9 M' L i):MatP B n L b0 g cp M' k W:=⟨h.hd,λi hi=>by rw[<-he i hi];exact h.row i hi,h.inj⟩
def W5(G:Mx)(k j:Nat):Mx:=λi' j'=>if i'<k\/(i'=k/\j'<j)then G i' j' else 0
theorem B4V{G:Mx}{k j:Nat}:Z6 (W5 G k j) k j (G k j)=W5 G k (j+1):=by
 funext i' j';unfold Z6 W5;by_cases e1:i'=k
 ·subst e1;by_cases e2:j'=j
  ·subst e2;simp
  ·rw[if_neg (λe=>e2 e.2)];by_cases e3:j'<j
   ·rw[if_pos (.inr ⟨rfl,e3⟩),if_pos (.inr ⟨rfl,by omega⟩)]
   ·rw[if_neg (by omega),if_neg (by omega)]
 ·rw[if_neg (λe=>e1 e.1)];by_cases e3:i'<k
  ·rw[if_pos (.inl e3),if_pos (.inl e3)]
  ·rw[if_neg (by omega),if_neg (by omega)]
theorem B4Y{G:Mx}{k L:Nat}:C9 (W5 G k 0) L k=List.replicate L 0:=by
 unfold C9 W5;apply B8I
 ·simp
 ·intro i h1 h2;simp
theorem B6y{G:Mx}{k L i:Nat}(hi:i<k+1):C9 (W5 G k L) L i=C9 (W5 G (k+1) 0) L i:=by
 unfold C9;refine B96 λj hj=>?_;have:=List.mem_range.1 hj;unfold W5;by_cases e:i=k
 ·subst e;rw[if_pos (.inr ⟨rfl,this⟩),if_pos (.inl (by omega))]
 ·rw[if_pos (.inl (by omega)),if_pos (.inl (by omega))]
theorem B2k{G:Mx}{k L i:Nat}(hi:i<k):C9 (W5 G k 0) L i=C9 G L i:=by
 unfold C9;refine B96 λj hj=>?_;unfold W5;rw[if_pos (.inl hi)]
def J7(X:List (List Rat))(N:Nat):Mx:=λi j=>E7 (G1 X i N) (G1 X j N) N
def I1(X:List (List Rat))(y:List Rat)(N L:Nat):List Rat:=(List.range L).map λi=>E7 (G1 X i N) y N
theorem A5D(X:List (List Rat))(j n:Nat):(G1 X j n).length=n:=by unfold G1;simp
theorem B53(X:List (List Rat))(j:Nat){n i:Nat}(h:i<n):gq (G1 X j n) i=gq (B6 X i) j:=S6 _ h
structure ProW(B L bg bp:Nat)(g cp:Nat->Nat)(M:Mx)(k:Nat)(pl:List Rat)(W:World):Prop where
 m:MatP B L L bg g cp M k W
 p:W.ownsRow B 48 5 (.slice (some ⟨bp,0,none⟩) L L) L (pl.flatMap qL)
 ne:∀i,i<k->g i≠bp
theorem ProW.grow{B L bg bp k:Nat}{g cp:Nat->Nat}{M:Mx}{pl:List Rat}{W W':World}(h:ProW B L bg bp g cp M k pl W)(hg:A4 W W'):ProW B L bg bp g cp M k pl W':=⟨h.m.grow hg,C5 h.p hg,h.ne⟩
theorem ProW.over{B L bg bp k b i:Nat}{t:TypeId}{cs:Array Value}{g cp:Nat->Nat}{M:Mx}{pl:List Rat}{W W':World}{vs:List Value}(h:ProW B L bg bp g cp M k pl W)(hb:Blk W b t cs)(ht:t≠35/\t≠48)(hu:C7 W b i vs=W'):ProW B L bg bp g cp M k pl W':=by
 have hg:W.grownBy W' (some b):=by subst hu;exact A1F b vs i W
 refine⟨h.m.kept hg (L8 h.m.hd hb (λe=>ht.1 e.symm)) (λi hi=>L8 (h.m.row i hi) hb (λe=>ht.2 e.symm)),?_,h.ne⟩;exact P5 h.p (L8 h.p hb (λe=>ht.2 e.symm)) hu
theorem ProW.put{B L bg bp k:Nat}{g cp:Nat->Nat}{M:Mx}{pl:List Rat}{W W':World}(h:ProW B L bg bp g cp M k pl W){i j:Nat}(hi:i<k)(hj:j<L)(q:Rat){o:Nat}(ho:o=j*5)(hu:C7 W (g i) o (qL q)=W'):ProW B L bg bp g cp (Z6 M i j q) k pl W':=by
 obtain⟨h1,h2⟩:=h.m.put hi hj q ho hu;exact⟨h1,h.p.kept h2 (.inr λe=>h.ne i hi (B78 e).symm),h.ne⟩
theorem ProW.pull{B L bg bp k:Nat}{g cp:Nat->Nat}{M:Mx}{pl:List Rat}{W W':World}(h:ProW B L bg bp g cp M k pl W)(hl:pl.length=L){j:Nat}(hj:j<L)(q:Rat)(hu:C7 W bp (j*5) (qL q)=W'):ProW B L bg bp g cp M k (pl.set j q) W':=by
 obtain⟨h1,h2⟩:=P6 (enc:=qL) (size:=5) (ps:=pl) (λ_=>rfl) h.p j q (by omega);rw[hu]at h1 h2;refine⟨h.m.kept h2 (λe=>O0 h.m.hd h.p (by decide) bg rfl (by rw[B78 e];rfl)) (λi hi e=>h.ne i hi (B78 e)),h1,h.ne⟩
theorem ProW.step{B L bg bp k x:Nat}{g cp:Nat->Nat}{M:Mx}{pl:List Rat}{u W W':World}(h0:ProW B L bg bp g cp M k pl u)(hG:A4 u W)(hk:k<L)(hx:u.heap.size<=x)(hr:W.ownsRow B 48 5 (.slice (some ⟨x,0,none⟩) L L) L ((C9 M L k).flatMap qL))(hu:C7 W bg k [.slice (some ⟨x,0,none⟩) L L]=W'):ProW B L bg bp (upd g k x) (upd cp k L) M (k+1) pl W'/\W.grownBy W' (some bg):=by
 obtain⟨h1,h2⟩:=MatP.step h0.m hG hk hx hr hu;have hp:=C5 h0.p hG;have hlt:=(h0.p.lt bp rfl).2;refine⟨⟨h1,hp.kept h2 (.inr λe=>O0 (h0.m.grow hG).hd hp (by decide) bg rfl (by rw[<-B78 e];rfl)),λi hi=>?_⟩,h2⟩;unfold upd;by_cases e:i=k
 ·rw[if_pos e];omega
 ·rw[if_neg e];exact h0.ne i (by omega)
theorem B1Q(A:Option Addr)(rs:List Rq)(N Lw c:Nat)(Y:Ax)(y:List Rat)(hn:rs.length=N)(hN1:1<=N)(hN2:N<=300)(hL1:1<=Lw)(hL2:Lw<=20)(hrl:∀r∈rs,r.2.2.length=Lw)(hy:y.length=N)(s:Nat)(hs:s<=100000)(hX:∀i,i<N->∀j,j<Lw->qs (gq (B6 (rs.map (·.2.2)) i) j)<=s)(hys:∀i,i<N->qs (gq y i)<=s)(w:World)(h:Lrq w A rs)(h2:Lq w Y.1 y)(HT:Tab w) :
  Calls Tryz.prog 59 #[.slice A N c,.slice Y.1 N Y.2] w (E9 (λx:(Nat×(Nat->Nat)×(Nat->Nat))×Nat=>.agg #[.slice (some ⟨x.1.1,0,none⟩) Lw Lw,.slice (some ⟨x.2,0,none⟩) Lw Lw]) (λx W=>MatW w.heap.size Lw Lw x.1.1 Lw x.1.2.1 x.1.2.2 (J7 (rs.map (·.2.2)) N) W/\W.ownsRow w.heap.size 48 5 (.slice (some ⟨x.2,0,none⟩) Lw Lw) Lw ((I1 (rs.map (·.2.2)) y N Lw).flatMap qL)) w):=by
 have hBB:100000000<=BIG:=by unfold BIG;omega
 obtain⟨X,hXe⟩:∃X,X=rs.map (·.2.2):=⟨_,rfl⟩
 have hcl:∀j,j<Lw->∀W,A4 w W->Calls Tryz.prog 96 #[.slice A N c,.int .i64 (j:Nat)] W (E9 (λx:Ax=>.slice x.1 N x.2) (λx W=>Lq W x.1 (G1 X j N)) W):=λj hj W hg=>by rw[hXe];exact A8P A rs N Lw c j hn hN2 hrl hj hL2 W (h.grow hg)
 have hcz:∀j,j<Lw->∀i,i<N->qs (gq (G1 X j N) i)<=s:=λj hj i hi=>by rw[B53 _ _ hi,hXe];exact hX i hi j hj
 have hbd:N*(s+s+1)+s+s+10<=BIG:=by
  have h1:N*(s+s+1)<=300*(s+s+1):=B8q _ hN2;omega
 have hdt:∀i j,i<Lw->j<Lw->∀(x x':Ax) W,Lq W x.1 (G1 X i N)->Lq W x'.1 (G1 X j N)->Tab W->Calls Tryz.prog 93 #[.slice x.1 N x.2,.slice x'.1 N x'.2] W λe w'=>e = .returned (.tuple #[qV (J7 X N i j),.bool true])/\A4 W w':=λi j hi hj x x' W h1 h2 hT=>A21 x.1 x'.1 _ _ x.2 x'.2 N (A5D _ _ _) (A5D _ _ _) (by omega) s s (hcz i hi) (hcz j hj) hbd W h1 h2 hT;have hdy:∀i,i<Lw->∀(x:Ax) W,Lq W x.1 (G1 X i N)->A4 w W->Tab W->Calls Tryz.prog 93 #[.slice x.1 N x.2,.slice Y.1 N Y.2] W λe w'=>e = .returned (.tuple #[qV (E7 (G1 X i N) y N),.bool true])/\A4 W w':=λi hi x W h1 hg hT=>A21 x.1 Y.1 _ _ x.2 Y.2 N (A5D _ _ _) hy (by omega) s s (hcz i hi) hys hbd W h1 (h2.grow hg) hT;obtain⟨bb,ob,P0,eA,hP0⟩:=X8 hn hrl h (i:=0) (by omega);have hr0:=λW hg=>(hP0 W hg).1;simp only[Nat.add_zero]at hr0;obtain⟨f,hf⟩:∃f:Nat->Rat,f=λi=>E7 (G1 X i N) y N:=⟨_,rfl⟩
 have hfi:∀i,E7 (G1 X i N) y N=f i:=by rw[hf];exact λ_=>rfl
 simp only[hfi]at hdy;have hpe:I1 X y N Lw=(List.range Lw).map f:=by rw[hf];rfl
 rw[<-hXe,hpe];obtain⟨G,hGe⟩:∃G,G=J7 X N:=⟨_,rfl⟩
 simp only[<-hGe]at hdt⊢;obtain⟨CL,hCL⟩:∃CL:Nat->List Rat,CL=λi=>G1 X i N:=⟨_,rfl⟩
 have hci:∀i,G1 X i N=CL i:=by rw[hCL];exact λ_=>rfl
 simp only[hci]at hcl hdt hdy;have hNi:(0:Int)<(N:Int):=by omega
 have hNn:0<N:=by omega
 have fN:decide ((0:Int)<(N:Int))=true:=by simp;omega
 have fNn:decide (0<N)=true:=by simp;omega
 obtain⟨YA,YC⟩:=Y;subst eA;have hmk:=A1R Lw (by omega) (Lw:Int) rfl;have hmk2:=A4e Lw (by omega) (Lw:Int) rfl;have Hcl:=B8S hcl;have Hdt:=B8S hdt;have Hdy:=B8S hdy;have Hr0:=B8S hr0;have Hmk:=B8S hmk;have Hmk2:=B8S hmk2;clear hcl hdt hdy hr0 hmk hmk2 hpe hf hfi hci hCL hGe hP0 hX hys hcz hbd hs h h2 hrl hn hy hXe;go_enter Tryz.func59,Tryz.ntmps59;refine en1 ?_;intro u hG b4 hB hF;refine B8N ?_
 (first|have q0:=Hr0.out u hG|skip)
 refine r0N ?_;refine B8N ?_;have hmk:=Hmk.out;have hmk2:=Hmk2.out;refine A8x (λb v=>v.ownsRow w.heap.size 35 1 (.slice (some ⟨b,0,none⟩) Lw Lw) Lw ((R8 (λ_=>0) (λ_=>0) Lw Lw 0).flatMap K5)) (λb v=>v.ownsRow w.heap.size 48 5 (.slice (some ⟨b,0,none⟩) Lw Lw) Lw ((K7 f Lw 0).flatMap qL)) (λb=>.slice (some ⟨b,0,none⟩) Lw Lw) (λb=>.slice (some ⟨b,0,none⟩) Lw Lw) (λb=>.pointer (some ⟨b,0,none⟩)) (.cells (List.replicate Lw (Value.slice none 0 0)).toArray 35) (.cells ((List.replicate Lw (0:Rat)).flatMap qL).toArray 48) (.cells #[.slice none 0 0,.slice none 0 0] 108) (.int .i64 (Lw:Nat)) (.int .i64 (Lw:Nat)) (λx y=>.agg #[.slice (some ⟨x,0,none⟩) Lw Lw,.slice (some ⟨y,0,none⟩) Lw Lw]) (by kernel_rfl) (by kernel_rfl) (by kernel_rfl) (Or.inl ⟨by rfl,λv _=>by go_simp⟩) (Or.inl ⟨by rfl,λv _=>by go_simp⟩) ⟨by rfl,λv=>by go_simp⟩ ⟨by rfl,λv=>by go_simp⟩ ⟨by rfl,λv=>(G7 108 (by simp) _ _ _ _ _ v).trans (by rw[A6J])⟩ (λx1 x3=>Or.inl ⟨by rfl,λv _=>by go_simp⟩) (λv hg=>A6x (λ_=>0) (λ_=>0) Lw (B8K hG.size hg.size) (by omega) rfl) (λv hg=>(A2E f Lw).symm ▸ A1H (B8K hG.size hg.size) (by omega) rfl) (λ_ _ _ hg h=>C5 h hg) (λ_ _ _ hg h=>C5 h hg) (λK hN bg bp b6 u hgu hb6 hx14 hx16 hb _=>?_);clear hmk hmk2;replace hF:=hF.n1 [] hB hG hb6 (by simp);replace hB:=(hB.grow hgu).cons' (show Blk u b6 108 #[.slice none 0 0,.slice none 0 0]from hb);replace hG:=hG.trans hgu;clear hgu hb6 hb;have Ho:=B8S (ProW.mk (MatP.mk hx14 (λi hi=>absurd hi (C0C _)) (λi j hi=>absurd hi (C0C _))) hx16 (λi hi=>absurd hi (C0C _)):ProW w.heap.size Lw bg bp (λ_=>0) (λ_=>0) (W5 G 0 0) 0 (K7 f Lw 0) u);have hbk:=hB.head;clear hx14 hx16;simp only[Act.put,List.setIfInBounds_toArray,List.set_cons_succ,List.set_cons_zero];refine gt ?_;clear hN K;refine sv hB hF hG 0 0 [_,_] ?_;intro u hu hBG;have Ho2:=B8S (Ho.out.over hbk (by decide) hu);clear hB hG hu Ho hbk;have Ho:=Ho2;clear Ho2;obtain⟨hB,hG⟩:=hBG;have h4w:=hF.1 b4 (by simp);have h6w:=hF.1 b6 (by simp);have h64:b6≠b4:=λe=>by
  have:=hF.2;simp[e]at this
 refine A6 ?_;refine B8N ?_;refine r0T ?_;refine B8v ?_;clear hF;go_loopw [19] (λs0 wr=>∃(k:Nat) (g cp:Nat->Nat),k<=Lw/\s0 = .int .i64 k/\ProW w.heap.size Lw bg bp g cp (W5 G k 0) k (K7 f Lw k) wr/\Bx wr [(b6,108,#[.slice (some ⟨bg,0,none⟩) Lw Lw,.slice (some ⟨bp,0,none⟩) Lw Lw]),(b4,108,#[.slice none 0 0,.slice none 0 0])]/\A4 w wr) (λs0 _=>Lw-(intOf s0).toNat)
 case atStart=>exact⟨0,_,_,B8k _,rfl,Ho.out,hB,hG⟩
 case round =>
  clear hG Ho hB;obtain⟨k,g,cp,hk,rfl,ho,hB,hG⟩:=hrel;obtain⟨u,rfl⟩:=exQ wr
  have hF:Fr w [b6,b4]:=⟨λb hb=>by
   simp only[List.mem_cons,List.not_mem_nil,or_false]at hb;rcases hb with rfl|rfl
   ·exact h6w
   ·exact h4w,by simp;exact h64⟩
  have Ho:=B8S ho;clear ho;rcases B73 k Lw with hlt|hge
  ·have hdec:decide ((k:Int)<(Lw:Int))=true:=by simp;omega
   have hkl:(k:Int)<(Lw:Int):=by omega
   have hst:=A1j (f:=f) hlt;have Hst:=B8S hst;have Hck:=B8S (Hcl.out k hlt);have Hdk:=B8S (Hdt.out k);have Hyk:=B8S (Hdy.out k hlt);clear hst;refine r0T ?_;refine B8N ?_;refine B8V (rfl) ?_;refine B8U ?_;refine A6 ?_;refine B8N ?_;refine B8v ?_;refine r0T ?_;refine B8N ?_;obtain⟨u5,hu5⟩:=exQ u;have hmk:=Hmk.out;rw[<-hu5]at Ho;refine rdC G7 [] [(0,0),(0,1),(0,2),(0,3),(1,4),(0,5)] hB hG λK L hN hL=>?_
   repeat first|refine gya ?_|refine gyr ?_|refine gna ?_|refine gyb (by(rintro v ⟨hgu,hB,hG,-⟩ N hN;have r:=hB.r;simp only[BxR]at r;(first|have q0:=Hr0.out v hG|skip);go_simp;exact hN)) ?_
   refine gx Nat (λb=>.slice (some ⟨b,0,none⟩) Lw Lw) (λb W=>u5.heap.size<=b/\W.ownsRow w.heap.size 48 5 (.slice (some ⟨b,0,none⟩) Lw Lw) Lw ((C9 (W5 G k 0) Lw k).flatMap qL)) (λ_ _ _ hg h=>⟨h.1,C5 h.2 hg⟩) rfl ?_ (λx26=>?_)
   ·(rintro v ⟨hgu,hB,hG,-⟩ N hN;go_simp;exact hN v.heap.size _ (⟨hu5 ▸ hgu.size,by rw[B4Y];exact A1H hG.sz (by omega) rfl⟩) (A4.alloc _ _))
   refine okf (by simp only[Act.put,List.setIfInBounds_toArray,List.set_cons_succ,List.set_cons_zero];exact rfl) ?_;refine gs ?_;refine geC hL ?_;clear hB hG hL L;rintro u ⟨⟨hgu,hB,hG,-⟩,hx26⟩;clear hmk;have hG5:A4 u5 u:=hu5 ▸ hgu;have Hx:=B8S hx26;have hsp:=V6 (enc:=K5) (size:=1) (λ_=>rfl) (Ho.out.grow hG5).m.hd (A0M g cp Lw Lw k).symm k 0 (by rw[A0M];exact hlt) (by omega);have hfz:=(Ho.out.grow hG5).m.hd.frozenAt;rw[B9P,Nat.add_zero,show(K5 ((R8 g cp Lw Lw k)[k]'(by rw[A0M];exact hlt)))[0]?=some ((R8 g cp Lw Lw k)[k]'(by rw[A0M];exact hlt))from rfl]at hsp;clear hx26;clear hgu;refine gtT ?_;clear hN K;clear hsp hfz;generalize hu0:World.setCell u _ _=u0;have hu1:C7 u bg k [.slice (some ⟨x26,0,none⟩) Lw Lw]=u0:=hu0;have hP:=ProW.step Ho.out hG5 hlt Hx.out.1 Hx.out.2 hu1;have hG2:=O5 (Ho.out.grow hG5).m.hd hG hP.2;have hB2:=A2D (Ho.out.grow hG5).m.hd hB (by simp) hP.2;obtain⟨g1,hg1⟩:∃x,x=upd g k x26:=⟨_,rfl⟩
   obtain⟨cp1,hcp1⟩:∃x,x=upd cp k Lw:=⟨_,rfl⟩
   have hS1:=hP.1;rw[<-hg1,<-hcp1]at hS1;have Ho2:=B8S hS1;clear hG hB Ho hP hu1 hu0 hG5 Hx hu5 hg1 hcp1 hS1;have hG:=hG2;have hB:=hB2;have Ho:=Ho2;clear hG2 Ho2 hB2 u5;obtain⟨u,rfl⟩:=exQ u0;refine B8N ?_;refine r0T ?_;refine B8v ?_;clear hF;go_loopw [29] (λs0 wr=>∃(j:Nat),j<=Lw/\s0 = .int .i64 j/\ProW w.heap.size Lw bg bp g1 cp1 (W5 G k j) (k+1) (K7 f Lw k) wr/\Bx wr [(b6,108,#[.slice (some ⟨bg,0,none⟩) Lw Lw,.slice (some ⟨bp,0,none⟩) Lw Lw]),(b4,108,#[.slice none 0 0,.slice none 0 0])]/\A4 w wr) (λs0 _=>Lw-(intOf s0).toNat)
   case atStart=>exact⟨0,B8k _,rfl,Ho.out,hB,hG⟩
   case round =>
    clear hG Ho hB;obtain⟨j,hj,rfl,ho,hB,hG⟩:=hrel;obtain⟨u,rfl⟩:=exQ wr
    have hF:Fr w [b6,b4]:=⟨λb hb=>by
     simp only[List.mem_cons,List.not_mem_nil,or_false]at hb;rcases hb with rfl|rfl
     ·exact h6w
     ·exact h4w,by simp;exact h64⟩
    have Ho:=B8S ho;clear ho;rcases B73 j Lw with hltj|hgej
    ·have hdec2:decide ((j:Int)<(Lw:Int))=true:=by simp;omega
     have hjl:(j:Int)<(Lw:Int):=by omega
     have hst2:=B4V (G:=G) (k:=k) (j:=j);have hdj:=λx x' W h1 h2 hT=>Hdk.out j hlt hltj x x' W h1 h2 hT;obtain⟨Q,hQ⟩:∃q,q=G k j:=⟨_,rfl⟩
     simp only[<-hQ]at hdj;rw[<-hQ]at hst2;have Hst2:=B8S hst2;have Hdj:=B8S hdj;have Hcj:=B8S (Hcl.out j hltj);clear hst2 hdj hQ;refine r0T ?_;refine B8N ?_;refine B8V (rfl) ?_;refine B8U ?_;refine A6 ?_;refine B8N ?_;refine B8v ?_;refine r0T ?_;refine rdC G7 [15] [(0,0),(0,1),(0,2),(0,3),(0,4),(0,5),(0,6),(0,7),(0,9),(0,10),(1,8),(1,11),(1,12),(0,13),(0,14),(0,15),(0,16)] hB hG λK L hN hL=>?_
     repeat first|refine gya ?_|refine gyr ?_|refine gna ?_|refine gyb (by(rintro v ⟨hgu,hB,hG,-⟩ N hN;have r:=hB.r;simp only[BxR]at r;have q0:=(Ho.out.grow hgu).m.read (C0G k) hlt;go_simp;exact hN)) ?_
     refine gxd (X:=Ax) (λx:Ax=>.slice x.1 N x.2) (λx W=>Lq W x.1 (CL k)) (λx u u' hg h=>Lq.grow h hg) (λx41=>?_) (C:=by(rintro v ⟨hgu,hB,hG,-⟩;exact Hck.out _ hG));refine gxd (X:=Ax) (λx:Ax=>.slice x.1 N x.2) (λx W=>Lq W x.1 (CL j)) (λx u u' hg h=>Lq.grow h hg) (λx44=>?_) (C:=by(rintro v ⟨⟨hgu,hB,hG,-⟩,hx41⟩;exact Hcj.out _ hG));refine gmd (C:=λv ⟨⟨⟨hgu,hB,hG,_⟩,hx41⟩,hx44⟩=>Hdj.out x41 x44 _ hx41 hx44 (HT.grow hG)) ?_;refine gs ?_;refine geC hL ?_;clear hB hG hL L;rintro u ⟨⟨⟨hgu,hB,hG,-⟩,hx41⟩,hx44⟩;have Ho2:=B8S (Ho.out.grow hgu);clear Ho hx41 hx44;have Ho:=Ho2;clear Ho2;obtain⟨z0,z1,z2,z3,z4,o0,o1,o2,o3,o4,hfz⟩:=A1C (enc:=qL) (λ_=>rfl) (Ho.out.m.row k (C0G k)) (P4 _ _ _).symm j (by rw[P4];exact hltj);clear hgu;refine gt ?_;clear hN K;clear o0 o1 o2 o3 o4 hfz;generalize hu0:World.setCell (World.setCell (World.setCell (World.setCell (World.setCell u _ _) _ _) _ _) _ _) _ _=u0;have hu1:C7 u (g1 k) (j*5) (qL Q)=u0:=hu0;have hP:=Ho.out.put (C0G k) hltj Q rfl hu1;have hP2:=(Ho.out.m.put (C0G k) hltj Q rfl hu1).2;rw[Hst2.out]at hP;have hG2:=O5 (Ho.out.m.row k (C0G k)) hG hP2;have hB2:=A2D (Ho.out.m.row k (C0G k)) hB (by simp) hP2;have Ho2:=B8S hP;clear hG hB Ho hP hP2 hu1 hu0;have hG:=hG2;have hB:=hB2;have Ho:=Ho2;clear hG2 Ho2 hB2;obtain⟨u,rfl⟩:=exQ u0;refine C8 ?_;refine A6 ?_;refine r0E ?_;refine A6 ?_;go_roundw
     case rel=>exact⟨j+1,by omega,by go_num,Ho.out,hB,hG⟩
     case measure=>simp[intOf];omega
    ·obtain rfl:Lw=j:=by omega
     have hdec2:decide ((Lw:Int)<(Lw:Int))=false:=by simp
     have hpe:=Ho.out;have Ho2:=B8S (ProW.mk (MatP.congr hpe.m λi hi=>B6y hi) hpe.p hpe.ne:ProW w.heap.size Lw bg bp g1 cp1 (W5 G (k+1) 0) (k+1) (K7 f Lw k) u);clear Ho hpe;have Ho:=Ho2;clear Ho2;refine r0T ?_;refine B8N ?_;refine B8T (rfl) ?_;refine B8x ?_;refine B7 ?_;refine B7 ?_;refine D0 ?_;refine A6 ?_;refine rdC G7 [10] [(0,0),(0,1),(0,2),(0,3),(0,4),(0,6),(1,5),(1,7),(0,8),(0,9),(0,10),(0,11)] hB hG λK L hN hL=>?_
     repeat first|refine gya ?_|refine gyr ?_|refine gna ?_|refine gyb (by(rintro v ⟨hgu,hB,hG,-⟩ N hN;have r:=hB.r;simp only[BxR]at r;skip;go_simp;exact hN)) ?_
     refine gxd (X:=Ax) (λx:Ax=>.slice x.1 N x.2) (λx W=>Lq W x.1 (CL k)) (λx u u' hg h=>Lq.grow h hg) (λx56=>?_) (C:=by(rintro v ⟨hgu,hB,hG,-⟩;exact Hck.out _ hG));refine gmd (C:=λv ⟨⟨hgu,hB,hG,_⟩,hx56⟩=>Hyk.out x56 _ hx56 hG (HT.grow hG)) ?_;refine gs ?_;refine geC hL ?_;clear hB hG hL L;rintro u ⟨⟨hgu,hB,hG,-⟩,hx56⟩;have Ho2:=B8S (Ho.out.grow hgu);clear Ho hx56;have Ho:=Ho2;clear Ho2;obtain⟨Q,hQ⟩:∃q,q=f k:=⟨_,rfl⟩
     have hst:=Hst.out;rw[<-hQ]at hst⊢;clear Hst;have Hst:=B8S hst;clear hst hQ;obtain⟨z0,z1,z2,z3,z4,o0,o1,o2,o3,o4,hfz⟩:=A1C (enc:=qL) (λ_=>rfl) Ho.out.p (Q0 f Lw k).symm k (by rw[Q0];exact hlt);clear hgu;refine gt ?_;clear hN K;clear o0 o1 o2 o3 o4 hfz;generalize hu0:World.setCell (World.setCell (World.setCell (World.setCell (World.setCell u _ _) _ _) _ _) _ _) _ _=u0;have hu1:C7 u bp (k*5) (qL Q)=u0:=hu0;have hP:=Ho.out.pull (Q0 f Lw k) hlt Q hu1;have hP2:=(P6 (enc:=qL) (size:=5) (ps:=K7 f Lw k) (λ_=>rfl) Ho.out.p k Q (by rw[Q0];exact hlt)).2;rw[hu1]at hP2;rw[Hst.out]at hP;have hG2:=O5 Ho.out.p hG hP2;have hB2:=A2D Ho.out.p hB (by simp) hP2;have Ho2:=B8S hP;clear hG hB Ho hP hP2 hu1 hu0;have hG:=hG2;have hB:=hB2;have Ho:=Ho2;clear hG2 Ho2 hB2;obtain⟨u,rfl⟩:=exQ u0;refine C8 ?_;refine A6 ?_;refine r0E ?_;refine A6 ?_;go_roundw
     case rel=>exact⟨k+1,g1,cp1,by omega,by go_num,Ho.out,hB,hG⟩
     case measure=>simp[intOf];omega
  ·obtain rfl:Lw=k:=by omega
   have hdec:decide ((Lw:Int)<(Lw:Int))=false:=by simp
   have HM:=B8S (MatP.congr Ho.out.m λi hi=>B2k hi).done;have hp:=Ho.out.p;rw[A1m]at hp;have Hp:=B8S hp;clear Ho hp;refine r0T ?_;refine B8N ?_;refine B8T (rfl) ?_;refine B8x ?_;refine B7 ?_;refine B7 ?_;refine D0 ?_;refine A6 ?_;refine B8N ?_;have hbk:=hB.tail.head
   (first|have q0:=Hr0.out u hG|skip)
   refine r0N ?_;refine sv hB hF hG 1 0 [_,_] ?_;intro u hu hBG;have HM2:=B8S (HM.out.over ⟨λe=>L8 HM.out.hd hbk (by decide) (B9d some e.symm),λi hi e=>L8 (HM.out.row i hi) hbk (by decide) (B9d some e.symm)⟩ hu);have hp2:=P5 Hp.out (L8 Hp.out hbk (by decide)) hu;have HL:=B8S hp2;clear hB hG hu HM Hp hbk hp2;obtain⟨hB,hG⟩:=hBG;refine rt Tryz.results59 ?_;exact⟨((bg,g,cp),bp),rfl,⟨HM2.out,HL.out⟩,hG⟩
end Go.Proofs.YtgpglgbcobeogaaGreatDoor
