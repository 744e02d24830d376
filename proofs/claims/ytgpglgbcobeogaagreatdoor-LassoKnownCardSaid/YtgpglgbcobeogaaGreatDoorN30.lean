import Derived.Test.YtgpglgbcobeogaaGreatDoorN29
set_option linter.unusedSimpArgs false
set_option linter.unusedVariables false
set_option maxHeartbeats 4000000
set_option maxRecDepth 100000
namespace Go.Proofs.YtgpglgbcobeogaaGreatDoor
open Go Go.RowKit
def A0K(H:Nat->Value)(n k:Nat):List Value:=(List.range n).map λt=>if t<k then H t else .slice none 0 0
theorem A7R(H:Nat->Value)(n k:Nat):(A0K H n k).length=n:=by unfold A0K;simp
theorem B7B(H:Nat->Value)(n:Nat):A0K H n 0=List.replicate n (.slice none 0 0):=by
 unfold A0K;apply B88
 ·simp
 ·intro i h1 h2;simp
theorem B5u(H:Nat->Value)(n:Nat):A0K H n n=(List.range n).map H:=by
 unfold A0K;refine C0u λj hj=>?_;rw[if_pos (List.mem_range.1 hj)]
theorem B1X{H:Nat->Value}{n k:Nat}(h:k<n):(A0K H n k).set k (H k)=A0K H n (k+1):=by
 unfold A0K;apply B88
 ·simp
 ·intro j h1 h2;rw[C0t];simp only[List.getElem_map,List.getElem_range];by_cases e:k=j
  ·subst e;simp
  ·rw[if_neg e];by_cases hj:j<k
   ·rw[if_pos hj,if_pos (by omega)]
   ·rw[if_neg hj,if_neg (by omega)]
theorem B22{u v:World}{B n:Nat}(H:Nat->Value)(hB:B<=u.heap.size)(hn:n<=1048576)(hv:u.alloc (.cells (List.replicate n (Value.slice none 0 0)).toArray 35)=v):v.ownsRow B 35 1 (.slice (some ⟨u.heap.size,0,none⟩) n n) n ((A0K H n 0).flatMap J8):=by
 subst hv;have h:=World.ownsRow_lit (base:=B) (e:=35) (size:=1) u (List.replicate n (Value.slice none 0 0)).toArray n hB (by unfold maxLen;omega) (by simp);rw[B7B,show(List.replicate n (Value.slice none 0 0)).flatMap J8=List.replicate n (Value.slice none 0 0)from by simp[List.flatMap_singleton']]
 simpa using h
theorem A6M{u:World}{B b0 n:Nat}{l:List Value}(h:u.ownsRow B 35 1 (.slice (some ⟨b0,0,none⟩) n n) n (l.flatMap J8))(hl:l.length=n){i:Nat}(hi:i<n):∃x,u.cell? ⟨b0,i,none⟩=some x/\l[i]?=some x:=by
 have h1:=X6 (enc:=J8) (size:=1) (λ_=>rfl) h hl.symm i 0 (by rw[hl];exact hi) (by omega);rw[C0F,Nat.add_zero]at h1;exact⟨l[i]'(by rw[hl];exact hi),h1,B9Y _⟩
theorem B6M{u:World}{B b0 n:Nat}{P:Nat->Ax}{R:Nat->List Rat}(h:u.ownsRow B 35 1 (.slice (some ⟨b0,0,none⟩) n n) n (((List.range n).map λi=>Value.slice (P i).1 (R i).length (P i).2).flatMap J8))(hr:∀i,i<n->Lq u (P i).1 (R i)):Lrq u (some ⟨b0,0,none⟩) ((List.range n).map λi=>(((P i).1,(P i).2,R i):Rq)):=λhne=>by
 refine⟨b0,0,rfl,(h.lt b0 rfl).2,λi r hi=>?_⟩;rw[List.getElem?_map]at hi;obtain⟨k,hk,rfl⟩:=Option.map_eq_some_iff.1 hi;have hin:i<n:=by
  have:=(List.getElem?_eq_some_iff.1 hk).1
  simpa using this
 have hki:k=i:=by
  rw[C0z hin]at hk;exact(B8y hk).symm
 subst hki;obtain⟨x,hx,hx2⟩:=A6M h (by simp) hin;rw[List.getElem?_map,C0z hin]at hx2;rw[Nat.zero_add,hx,<-hx2];exact⟨rfl,hr _ hin⟩
theorem B1f(b o n c i:Nat)(hi:i<n)(hc:n<=c)(hn:n<=1048576)(W:World):(Instr.slice 35 (.slice (some ⟨b,o,none⟩) n c) (some (.int .i64 (i:Nat))) (some (.int .i64 ((i:Int)+1))) (some (.int .i64 ((i:Int)+1)))).run Tryz.prog W = .ok (.slice (some ⟨b,o+i*5,none⟩) 1 1) W:=by
 have h1:(i:Int)<=(i:Int)+1:=by omega
 have h2:(i:Int)+1<=(c:Int):=by omega
 have h3:i+1-i=1:=by omega
 have h4:i<i+1:=by omega
 have h5:¬c<i+1:=by omega
 have h6:i+1<=c:=by omega
 go_simp
theorem B3b(b o n c:Nat)(hc:n<=c)(hn:n<=1048576)(W:World):(Instr.slice 35 (.slice (some ⟨b,o,none⟩) n c) none (some (.int .i64 (n:Nat))) (some (.int .i64 (n:Nat)))).run Tryz.prog W = .ok (.slice (some ⟨b,o,none⟩) n n) W:=by
 have h2:(n:Int)<=(c:Int):=by omega
 go_simp
theorem B6b(bb ob n c:Nat)(y:List Rat)(hy:y.length=n)(hn2:n<=300)(hc:n<=c)(w:World)(h:Lq w (some ⟨bb,ob,none⟩) y) :
  Calls Tryz.prog 162 #[.slice (some ⟨bb,ob,none⟩) n c] w (G9 (λx:Nat=>.slice (some ⟨x,0,none⟩) n n) (λx W=>Lrq W (some ⟨x,0,none⟩) ((List.range n).map λi=>((some ⟨bb,ob+i*5,none⟩,1,[gq y i]):Rq))) w):=by
 have hlq:∀W,A4 w W->∀i,i<n->Lq W (some ⟨bb,ob+i*5,none⟩) [gq y i]:=λW hg i hi hne=>by
  obtain⟨b',off,e,hb,hcl⟩:=(h.grow hg) (λe=>by rw[e]at hy;simp at hy;omega)
  cases e;refine⟨bb,ob+i*5,rfl,hb,λk q hk j v hj=>?_⟩;have hk0:k=0:=by
   have:=(List.getElem?_eq_some_iff.1 hk).1
   simpa using this
  subst hk0;have hq:q=gq y i:=by simpa using hk.symm
  subst hq;rw[B9i,Nat.add_zero];exact hcl i _ (A1G (by omega)) j v hj
 have hmk:=A48 n (by omega) (n:Int) rfl;obtain⟨H,hH⟩:∃H:Nat->Value,H=λi=>Value.slice (some ⟨bb,ob+i*5,none⟩) 1 1:=⟨_,rfl⟩
 have hsl:∀i,i<n->∀W,(Instr.slice 35 (.slice (some ⟨bb,ob,none⟩) n c) (some (.int .i64 (i:Nat))) (some (.int .i64 ((i:Int)+1))) (some (.int .i64 ((i:Int)+1)))).run Tryz.prog W = .ok (H i) W:=λi hi W=>by rw[hH];exact B1f bb ob n c i hi hc (by omega) W
 have Hlq:=B9I hlq;have Hmk:=B9I hmk;have Hsl:=B9I hsl;have HH:=B9I hH;clear hlq hmk hsl hH h hy;go_enter Tryz.func162,Tryz.ntmps162;refine en0 ?_;intro u hG hB hF;refine B9D ?_;have hmk:=Hmk.out;refine M6 ?_;intro K hN;go_wp2_with fail;generalize hv:World.alloc u _=v;have hrow:=B22 H hG.sz (by omega) hv;have hgv:A4 u v:=hv ▸ A4.alloc u _;have hG2:=hG.trans hgv;clear hv hG hB hmk hgv;generalize u.heap.size=b0 at hrow⊢;have Ho:=B9I hrow;have hG:=hG2;have hB:=Bx.nil v;have hF:=Fr.nil w;clear hrow hG2;obtain⟨u,rfl⟩:=exQ v;refine NoK.norm (hN _ _ ?_);clear hN K;refine A6 ?_;refine B9D ?_;refine r0T ?_;refine B9l ?_;clear hB hF;go_loopw [10] (λs0 wr=>∃i:Nat,i<=n/\s0 = .int .i64 i/\wr.ownsRow w.heap.size 35 1 (.slice (some ⟨b0,0,none⟩) n n) n ((A0K H n i).flatMap J8)/\A4 w wr) (λs0 _=>n-(intOf s0).toNat)
 case atStart=>exact⟨0,B9a _,rfl,Ho.out,hG⟩
 case round =>
  clear hG Ho;obtain⟨i,hi,rfl,ho,hG⟩:=hrel;obtain⟨u,rfl⟩:=exQ wr;have Ho:=B9I ho;have hB:=Bx.nil u;have hF:=Fr.nil w;clear ho;rcases B8t i n with hlt|hge
  ·have hdec:decide ((i:Int)<(n:Int))=true:=by simp;omega
   have hin:(i:Int)<(n:Int):=by omega
   have hst:=B1X (H:=H) hlt;have hsl:=Hsl.out i hlt;have fi:IntKind.i64.wrap ((i:Int)+1)=(i:Int)+1:=B9Z _ (by omega);obtain⟨Q,hQ⟩:∃q,q=H i:=⟨_,rfl⟩
   rw[<-hQ]at hst;simp only[<-hQ]at hsl;have hQ1:∃a,Q = .slice a 1 1:=⟨_,by rw[hQ,HH.out]⟩
   obtain⟨aQ,hQ1⟩:=hQ1;subst hQ1;have Hst:=B9I hst;have Hsl1:=B9I hsl;clear hst hsl hQ;refine r0T ?_;refine B9D ?_;refine B9L (rfl) ?_;refine B9K ?_;refine A6 ?_;refine B9D ?_;refine B9l ?_;refine r0T ?_;obtain⟨z0,o0,-⟩:=A6M Ho.out (A7R H n i) hlt;have hfz:=Ho.out.frozenAt;have hsl:=Hsl1.out;refine r0E ?_;clear o0 hfz hsl;generalize hu0:World.setCell u _ _=u0;have hu1:C2 u b0 i [.slice aQ 1 1]=u0:=hu0;have hP:=R4 (enc:=J8) (size:=1) (ps:=A0K H n i) (λ_=>rfl) Ho.out i (.slice aQ 1 1) (by rw[A7R];exact hlt);rw[C0F,Hst.out,hu1]at hP;have hG2:=N4 Ho.out hG hP.2;have Ho2:=B9I hP.1;clear hG hB Ho hP hu1 hu0;have hG:=hG2;have hB:=Bx.nil u0;have hF:=Fr.nil w;have Ho:=Ho2;clear hG2 Ho2;obtain⟨u,rfl⟩:=exQ u0;refine C5 ?_;refine A6 ?_;refine r0E ?_;refine A6 ?_;go_roundw
   case rel=>exact⟨i+1,by omega,by go_num,Ho.out,hG⟩
   case measure=>simp[intOf];omega
  ·obtain rfl:n=i:=by omega
   have hdec:decide ((n:Int)<(n:Int))=false:=by simp
   have ho:=Ho.out;rw[B5u,HH.out]at ho;have HL:=B9I (B6M (P:=λi=>(some ⟨bb,ob+i*5,none⟩,1)) (R:=λi=>[gq y i]) ho (λi hi=>Hlq.out u hG i hi));clear ho Ho;refine r0T ?_;refine B9D ?_;refine B9J (rfl) ?_;refine B9n ?_;refine B9 ?_;refine B9 ?_;refine E4 ?_;refine A6 ?_;refine r0T ?_;refine rt Tryz.results162 ?_;exact⟨b0,rfl,HL.out,hG⟩
theorem B68{P:Program}{o:Oper}{a:Act}{v w':World}{N:Value->World->Prop}{r x y:Value}(s z:Operand)(t:TypeId)(ho:o.op = .call { callee:=.builtin .append,args:=#[s,z],argTypes:=#[t,t] })(hs:a.eval s=x)(hz:a.eval z=y)(hr:(Builtin.append_ #[t,t] o.type #[x,y]).run P v = .ok r w')(h:N r w'):Move P o a v N:=by
 unfold Move execOp;simp only[ho,resolve,invoke,builtin,Sem.run_bind,Sem.run_pure,Result.andThen_ok,List.map_toArray,List.map_cons,List.map_nil,hs,hz,hr];exact h
theorem B8Q(b o:Nat)(l l':List Rat)(n m c ba oa:Nat)(hl:l.length=n)(hl':l'.length=m)(hm:0<m)(hn2:n<=1000)(hm2:m<=1000)(v:World)(h:Lq v (some ⟨b,o,none⟩) l)(h':Lq v (some ⟨ba,oa,none⟩) l') :
  ∃(x:Nat×Nat) (w':World),(Builtin.append_ #[35,35] 35 #[.slice (some ⟨b,o,none⟩) n n,.slice (some ⟨ba,oa,none⟩) m c]).run Tryz.prog v = .ok (.slice (some ⟨x.1,0,none⟩) (n+m) x.2) w'/\v.heap.size<=x.1/\w'.ownsRow v.heap.size 48 5 (.slice (some ⟨x.1,0,none⟩) (n+m) x.2) (n+m) ((l++l').flatMap qL)/\A4 v w':=by
 obtain⟨i0,hi0,hz0,hz1,hz2⟩:=B9T A5y;have key:∀(b o:Nat) (l:List Rat),Lq v (some ⟨b,o,none⟩) l->∀j u,(l.flatMap qL)[j]?=some u->v.cell? ((⟨b,o,none⟩:Addr).add j)=some u:=λb o l h j u hj=>by
  have hjl:j<5*l.length:=by
   have:=(List.getElem?_eq_some_iff.1 hj).1;rw[X8]at this;exact this
  obtain⟨b',off,e,hb,hc⟩:=h (λe=>by rw[e]at hjl;simp at hjl);cases e;have h1:j/5<l.length:=by omega
  have h2:=A2L l (A1G h1) (j:=j%5) (by omega);rw[show j/5*5+j%5=j by omega,hj]at h2;have h3:=hc (j/5) _ (A1G h1) (j%5) u h2.symm;rw[B9b];rw[show o+j/5*5+j%5=o+j by omega]at h3;exact h3
 obtain⟨v',w',hr,ho,hg⟩:=run_append_arg_grows (P:=Tryz.prog) v 35 35 48 i0 (.agg (qL 0).toArray) 5 56 Tryz.underlying35 hi0 hz0 hz1 hz2 rfl (by omega) ⟨b,o,none⟩ n n (l.flatMap qL) (by rw[X8];omega) (key b o l h) ⟨ba,oa,none⟩ m c (l'.flatMap qL) (by rw[X8];omega) (key ba oa l' h') (by omega) (by unfold maxLen;omega) (by omega);rw[<-C0v]at ho;have ho2:=ho;obtain⟨_,h1|⟨g,cap,cur,rfl,hb,-⟩⟩:=ho
 ·exact absurd h1.2 (by omega)
 ·exact⟨(g,cap),w',hr,hb,ho2,⟨hg.os,hg.tape,hg.output,hg.size,λk hk=>hg.block k hk (λe=>by cases e)⟩⟩
def A2d(X Y:List (List Rat)):Mx:=λi j=>gq (B7 X i++B7 Y i) j
theorem A8J{X Y:List (List Rat)}{n i:Nat}(h:(B7 X i++B7 Y i).length=n):G1 (A2d X Y) n i=B7 X i++B7 Y i:=by
 unfold G1 A2d;apply B88
 ·simp only[List.length_map,List.length_range];exact h.symm
 ·intro j h1 h2;simp only[List.getElem_map,List.getElem_range];unfold gq;rw[B9Y h2];rfl
theorem B4M(A D:Option Addr)(rs rs2:List Rq)(n Lw m c d:Nat)(hn:rs.length=n)(hn':rs2.length=n)(hn2:n<=300)(hL1:1<=Lw)(hL2:Lw<=1000)(hm1:1<=m)(hm2:m<=1000)(hrl:∀r∈rs,r.2.2.length=Lw)(hrc:∀r∈rs,Lw<=r.2.1)(hrl2:∀r∈rs2,r.2.2.length=m)(w:World)(h:Lrq w A rs)(h2:Lrq w D rs2) :
  Calls Tryz.prog 161 #[.slice A n c,.slice D n d] w (G9 (λx:Nat×(Nat->Nat)×(Nat->Nat)=>.slice (some ⟨x.1,0,none⟩) n n) (λx W=>MatW w.heap.size n (Lw+m) x.1 n x.2.1 x.2.2 (A2d (rs.map (·.2.2)) (rs2.map (·.2.2))) W) w):=by
 have hat:∀i,i<n->∃(bb ob bd od ba oa ca b2 o2 c2:Nat),A=some ⟨bb,ob,none⟩/\D=some ⟨bd,od,none⟩/\Lw<=ca/\∀W,A4 w W->W.cell? ⟨bb,ob+i,none⟩=some (.slice (some ⟨ba,oa,none⟩) Lw ca)/\W.cell? ⟨bd,od+i,none⟩=some (.slice (some ⟨b2,o2,none⟩) m c2) /\
   ∃(x:Nat×Nat) (w':World),(Builtin.append_ #[35,35] 35 #[.slice (some ⟨ba,oa,none⟩) Lw Lw,.slice (some ⟨b2,o2,none⟩) m c2]).run Tryz.prog W = .ok (.slice (some ⟨x.1,0,none⟩) (Lw+m) x.2) w'/\W.heap.size<=x.1/\w'.ownsRow W.heap.size 48 5 (.slice (some ⟨x.1,0,none⟩) (Lw+m) x.2) (Lw+m) ((G1 (A2d (rs.map (·.2.2)) (rs2.map (·.2.2))) (Lw+m) i).flatMap qL)/\A4 W w':=λi hi=>by
  obtain⟨bb,ob,⟨P1,P2⟩,e,hP⟩:=U9 hn hrl h hi;obtain⟨bd,od,⟨R1,R2⟩,e2,hR⟩:=U9 hn' hrl2 h2 hi;obtain⟨-,p2,p3⟩:=hP w (A4.refl w);obtain⟨-,r2,r3⟩:=hR w (A4.refl w);obtain⟨ba,oa,e3⟩:=p2.addr (by omega);obtain⟨b2,o2,e4⟩:=r2.addr (by omega);simp only at e3 e4;subst e3 e4;have hcap:Lw<=P2:=by
   subst e;have hil:i<rs.length:=by omega
   have h5:=(h.read (B9Y hil)).1;have h6:=(hP w (A4.refl w)).1;rw[h6]at h5;injection h5 with h5;injection h5 with _ _ h7;simp only at h7;rw[h7];exact hrc _ (B86 hil)
  refine⟨bb,ob,bd,od,ba,oa,P2,b2,o2,R2,e,e2,hcap,λW hg=>⟨(hP W hg).1,(hR W hg).1,?_⟩⟩;rw[A8J (by rw[List.length_append];omega)];exact B8Q ba oa _ _ Lw m R2 b2 o2 p3 r3 (by omega) hL2 hm2 W (hP W hg).2.1 (hR W hg).2.1
 obtain⟨M,hM⟩:∃M,M=A2d (rs.map (·.2.2)) (rs2.map (·.2.2)):=⟨_,rfl⟩
 rw[<-hM];simp only[<-hM]at hat;have hmk:=A48 n (by omega) (n:Int) rfl;obtain⟨Lm,hLm⟩:∃x,x=Lw+m:=⟨_,rfl⟩
 rw[<-hLm];simp only[<-hLm]at hat;have Hat:=B9I hat;have Hmk:=B9I hmk;clear hat hmk hM h h2 hrl hrl2 hrc hn hn' hLm;go_enter Tryz.func161,Tryz.ntmps161;refine en0 ?_;intro u hG hB hF;refine B9D ?_;have hmk:=Hmk.out;refine M6 ?_;intro K hN;go_wp2_with fail;generalize hv:World.alloc u _=v;have hrow:=A5k (λ_=>0) (λ_=>0) Lm hG.sz (by omega) hv;have hgv:A4 u v:=hv ▸ A4.alloc u _;have hG2:=hG.trans hgv;clear hv hG hB hmk hgv;generalize u.heap.size=b0 at hrow⊢;have Ho:=B9I (MatP.mk hrow (λi hi=>absurd hi (C03 _)) (λi j hi=>absurd hi (C03 _)):MatP w.heap.size n Lm b0 (λ_=>0) (λ_=>0) M 0 v);have hG:=hG2;have hB:=Bx.nil v;have hF:=Fr.nil w;clear hrow hG2;obtain⟨u,rfl⟩:=exQ v;refine NoK.norm (hN _ _ ?_);clear hN K;refine A6 ?_;refine B9D ?_;refine r0T ?_;refine B9l ?_;clear hB hF;go_loopw [13] (λs0 wr=>∃(i:Nat) (g cp:Nat->Nat),i<=n/\s0 = .int .i64 i/\MatP w.heap.size n Lm b0 g cp M i wr/\A4 w wr) (λs0 _=>n-(intOf s0).toNat)
 case atStart=>exact⟨0,_,_,B9a _,rfl,Ho.out,hG⟩
 case round =>
  clear hG Ho;obtain⟨i,g,cp,hi,rfl,ho,hG⟩:=hrel;obtain⟨u,rfl⟩:=exQ wr;have Ho:=B9I ho;have hB:=Bx.nil u;have hF:=Fr.nil w;clear ho;rcases B8t i n with hlt|hge
  ·have hdec:decide ((i:Int)<(n:Int))=true:=by simp;omega
   have hin:(i:Int)<(n:Int):=by omega
   obtain⟨bb,ob,bd,od,ba,oa,ca,b2,o2,c2,rfl,rfl,hca,hrd⟩:=Hat.out i hlt;have hsl:=B3b ba oa Lw ca hca (by omega);have Hrd:=B9I hrd;have Hsl:=B9I hsl;clear hrd hsl;refine r0T ?_;refine B9D ?_;refine B9L (rfl) ?_;refine B9K ?_;refine A6 ?_;refine B9D ?_;refine B9l ?_;refine B9D ?_;obtain⟨q0,q1,-⟩:=Hrd.out u hG;refine r0N ?_;obtain⟨u5,hu5⟩:=exQ u;rw[<-hu5]at Ho;refine rdC A8 [] [(0,0),(0,1),(0,2),(0,3),(0,4),(0,5),(0,6),(0,7),(0,8),(0,9),(0,10),(0,11),(1,12),(0,13)] hB hG λK L hN hL=>?_
   repeat first|refine gya ?_|refine gyr ?_|refine gna ?_|refine gyb (by(rintro v ⟨hgu,hB,hG,-⟩ N hN;have r:=hB.r;simp only[BxR]at r;obtain⟨q0,q1,-⟩:=Hrd.out v hG;have hsl:=Hsl.out;go_simp;exact hN)) ?_|refine gyb (by(rintro v-N hN;have hsl:=Hsl.out;go_simp;exact hN)) ?_
   refine gx (Nat×Nat) (λx:Nat×Nat=>.slice (some ⟨x.1,0,none⟩) Lm x.2) (λx W'=>u5.heap.size<=x.1/\W'.ownsRow w.heap.size 48 5 (.slice (some ⟨x.1,0,none⟩) Lm x.2) Lm ((G1 M Lm i).flatMap qL)) (λx u u' hg h=>⟨h.1,C0 h.2 hg⟩) rfl ?_ (λx30=>?_)
   ·(rintro v ⟨hgu,hB,hG,-⟩ N hN;obtain⟨-,-,x,w9,hr,h1,h2,h3⟩:=Hrd.out v hG;exact B68 _ _ _ (by rfl) (by rfl) (by rfl) hr (hN x w9 ⟨by rw[hu5];exact B9A hgu.size h1,h2.mono hG.sz⟩ h3))
   refine okf (by simp only[Act.put,List.setIfInBounds_toArray,List.set_cons_succ,List.set_cons_zero];exact rfl) ?_
   repeat first|refine gya ?_|refine gyr ?_|refine gna ?_|refine gyb (by(rintro v-N hN;have hsl:=Hsl.out;go_simp;exact hN)) ?_
   refine geC hL ?_;clear hB hG hL L;rintro u ⟨⟨hgu,hB,hG,-⟩,hx30⟩;have hG5:A4 u5 u:=hu5 ▸ hgu;have Hx:=B9I hx30;obtain⟨z0,o0,-⟩:=A6M (Ho.out.grow hG5).hd (A0Q g cp Lm n i) hlt;have hfz:=(Ho.out.grow hG5).hd.frozenAt;clear hx30;clear hgu;refine gt ?_;clear hN K;clear o0 hfz;generalize hu0:World.setCell u _ _=u0;have hu1:C2 u b0 i [.slice (some ⟨x30.1,0,none⟩) Lm x30.2]=u0:=hu0;have hP:=MatP.step Ho.out hG5 hlt Hx.out.1 Hx.out.2 hu1;have hG2:=N4 (Ho.out.grow hG5).hd hG hP.2;have Ho2:=B9I hP.1;clear hG hB Ho hP hu1 hu0 hG5 Hx hu5;have hG:=hG2;have hB:=Bx.nil u0;have hF:=Fr.nil w;have Ho:=Ho2;clear hG2 Ho2 u5;obtain⟨u,rfl⟩:=exQ u0;refine C5 ?_;refine A6 ?_;refine r0E ?_;refine A6 ?_;go_roundw
   case rel=>exact⟨i+1,_,_,by omega,by go_num,Ho.out,hG⟩
   case measure=>simp[intOf];omega
  ·obtain rfl:n=i:=by omega
   have hdec:decide ((n:Int)<(n:Int))=false:=by simp
   have HL:=B9I Ho.out.done;clear Ho;refine r0T ?_;refine B9D ?_;refine B9J (rfl) ?_;refine B9n ?_;refine B9 ?_;refine B9 ?_;refine E4 ?_;refine A6 ?_;refine r0T ?_;refine rt Tryz.results161 ?_;exact⟨(b0,g,cp),rfl,HL.out,hG⟩
end Go.Proofs.YtgpglgbcobeogaaGreatDoor
