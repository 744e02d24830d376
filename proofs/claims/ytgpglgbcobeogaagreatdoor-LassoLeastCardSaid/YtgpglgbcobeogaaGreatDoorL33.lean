import Derived.Test.YtgpglgbcobeogaaGreatDoorL32
set_option linter.unusedSimpArgs false
set_option linter.unusedVariables false
set_option maxHeartbeats 16000000
set_option maxRecDepth 100000
namespace Go.Proofs.YtgpglgbcobeogaaGreatDoor
open Go Go.RowKit
def A0K(H:Nat->Value)(n k:Nat):List Value:=(List.range n).map λt=>if t<k then H t else .slice none 0 0
theorem A7o(H:Nat->Value)(n k:Nat):(A0K H n k).length=n:=by unfold A0K;simp
theorem B6x(H:Nat->Value)(n:Nat):A0K H n 0=List.replicate n (.slice none 0 0):=by
 unfold A0K;apply B8I
 ·simp
 ·intro i h1 h2;simp
theorem B5v(H:Nat->Value)(n:Nat):A0K H n n=(List.range n).map H:=by
 unfold A0K;refine B96 λj hj=>?_;rw[if_pos (List.mem_range.1 hj)]
theorem B0t{H:Nat->Value}{n k:Nat}(h:k<n):(A0K H n k).set k (H k)=A0K H n (k+1):=by
 unfold A0K;apply B8I
 ·simp
 ·intro j h1 h2;rw[B95];simp only[List.getElem_map,List.getElem_range];by_cases e:k=j
  ·subst e;simp
  ·rw[if_neg e];by_cases hj:j<k
   ·rw[if_pos hj,if_pos (by omega)]
   ·rw[if_neg hj,if_neg (by omega)]
theorem B54{u v:World}{B n:Nat}(H:Nat->Value)(hB:B<=u.heap.size)(hn:n<=1048576)(hv:u.alloc (.cells (List.replicate n (Value.slice none 0 0)).toArray 35)=v):v.ownsRow B 35 1 (.slice (some ⟨u.heap.size,0,none⟩) n n) n ((A0K H n 0).flatMap K5):=by
 subst hv;have h:=World.ownsRow_lit (base:=B) (e:=35) (size:=1) u (List.replicate n (Value.slice none 0 0)).toArray n hB (by unfold maxLen;omega) (by simp);rw[B6x,show(List.replicate n (Value.slice none 0 0)).flatMap K5=List.replicate n (Value.slice none 0 0)from by simp[List.flatMap_singleton']]
 simpa using h
theorem A6c{u:World}{B b0 n:Nat}{l:List Value}(h:u.ownsRow B 35 1 (.slice (some ⟨b0,0,none⟩) n n) n (l.flatMap K5))(hl:l.length=n){i:Nat}(hi:i<n):∃x,u.cell? ⟨b0,i,none⟩=some x/\l[i]?=some x:=by
 have h1:=V6 (enc:=K5) (size:=1) (λ_=>rfl) h hl.symm i 0 (by rw[hl];exact hi) (by omega);rw[B9P,Nat.add_zero]at h1;exact⟨l[i]'(by rw[hl];exact hi),h1,B8i _⟩
theorem B6r{u:World}{B b0 n:Nat}{P:Nat->Ax}{R:Nat->List Rat}(h:u.ownsRow B 35 1 (.slice (some ⟨b0,0,none⟩) n n) n (((List.range n).map λi=>Value.slice (P i).1 (R i).length (P i).2).flatMap K5))(hr:∀i,i<n->Lq u (P i).1 (R i)):Lrq u (some ⟨b0,0,none⟩) ((List.range n).map λi=>(((P i).1,(P i).2,R i):Rq)):=λhne=>by
 refine⟨b0,0,rfl,(h.lt b0 rfl).2,λi r hi=>?_⟩;rw[List.getElem?_map]at hi;obtain⟨k,hk,rfl⟩:=Option.map_eq_some_iff.1 hi;have hin:i<n:=by
  have:=(List.getElem?_eq_some_iff.1 hk).1
  simpa using this
 have hki:k=i:=by
  rw[B98 hin]at hk;exact(B78 hk).symm
 subst hki;obtain⟨x,hx,hx2⟩:=A6c h (by simp) hin;rw[List.getElem?_map,B98 hin]at hx2;rw[Nat.zero_add,hx,<-hx2];exact⟨rfl,hr _ hin⟩
theorem B6o(b o n c i:Nat)(hi:i<n)(hc:n<=c)(hn:n<=1048576)(W:World):(Instr.slice 35 (.slice (some ⟨b,o,none⟩) n c) (some (.int .i64 (i:Nat))) (some (.int .i64 ((i:Int)+1))) (some (.int .i64 ((i:Int)+1)))).run Tryz.prog W = .ok (.slice (some ⟨b,o+i*5,none⟩) 1 1) W:=by
 have h1:(i:Int)<=(i:Int)+1:=by omega
 have h2:(i:Int)+1<=(c:Int):=by omega
 have h3:i+1-i=1:=by omega
 have h4:i<i+1:=by omega
 have h5:¬c<i+1:=by omega
 have h6:i+1<=c:=by omega
 go_simp
theorem B2x(b o n c:Nat)(hc:n<=c)(hn:n<=1048576)(W:World):(Instr.slice 35 (.slice (some ⟨b,o,none⟩) n c) none (some (.int .i64 (n:Nat))) (some (.int .i64 (n:Nat)))).run Tryz.prog W = .ok (.slice (some ⟨b,o,none⟩) n n) W:=by
 have h2:(n:Int)<=(c:Int):=by omega
 go_simp
theorem B6I(bb ob n c:Nat)(y:List Rat)(hy:y.length=n)(hn2:n<=300)(hc:n<=c)(w:World)(h:Lq w (some ⟨bb,ob,none⟩) y) :
  Calls Tryz.prog 162 #[.slice (some ⟨bb,ob,none⟩) n c] w (E9 (λx:Nat=>.slice (some ⟨x,0,none⟩) n n) (λx W=>Lrq W (some ⟨x,0,none⟩) ((List.range n).map λi=>((some ⟨bb,ob+i*5,none⟩,1,[gq y i]):Rq))) w):=by
 have hlq:∀W,A4 w W->∀i,i<n->Lq W (some ⟨bb,ob+i*5,none⟩) [gq y i]:=λW hg i hi hne=>by
  obtain⟨b',off,e,hb,hcl⟩:=(h.grow hg) (λe=>by rw[e]at hy;simp at hy;omega)
  cases e;refine⟨bb,ob+i*5,rfl,hb,λk q hk j v hj=>?_⟩;have hk0:k=0:=by
   have:=(List.getElem?_eq_some_iff.1 hk).1
   simpa using this
  subst hk0;have hq:q=gq y i:=by simpa using hk.symm
  subst hq;rw[B8s,Nat.add_zero];exact hcl i _ (A0n (by omega)) j v hj
 have hmk:=A4e n (by omega) (n:Int) rfl;obtain⟨H,hH⟩:∃H:Nat->Value,H=λi=>Value.slice (some ⟨bb,ob+i*5,none⟩) 1 1:=⟨_,rfl⟩
 have hsl:∀i,i<n->∀W,(Instr.slice 35 (.slice (some ⟨bb,ob,none⟩) n c) (some (.int .i64 (i:Nat))) (some (.int .i64 ((i:Int)+1))) (some (.int .i64 ((i:Int)+1)))).run Tryz.prog W = .ok (H i) W:=λi hi W=>by rw[hH];exact B6o bb ob n c i hi hc (by omega) W
 have Hlq:=B8S hlq;have Hmk:=B8S hmk;have Hsl:=B8S hsl;have HH:=B8S hH;clear hlq hmk hsl hH h hy;go_enter Tryz.func162,Tryz.ntmps162;refine en0 ?_;intro u hG hB hF;refine B8N ?_;have hmk:=Hmk.out;refine N5 ?_;intro K hN;go_wp2_with fail;generalize hv:World.alloc u _=v;have hrow:=B54 H hG.sz (by omega) hv;have hgv:A4 u v:=hv ▸ A4.alloc u _;have hG2:=hG.trans hgv;clear hv hG hB hmk hgv;generalize u.heap.size=b0 at hrow⊢;have Ho:=B8S hrow;have hG:=hG2;have hB:=Bx.nil v;have hF:=Fr.nil w;clear hrow hG2;obtain⟨u,rfl⟩:=exQ v;refine NoK.norm (hN _ _ ?_);clear hN K;refine A6 ?_;refine B8N ?_;refine r0T ?_;refine B8v ?_;clear hB hF;go_loopw [10] (λs0 wr=>∃i:Nat,i<=n/\s0 = .int .i64 i/\wr.ownsRow w.heap.size 35 1 (.slice (some ⟨b0,0,none⟩) n n) n ((A0K H n i).flatMap K5)/\A4 w wr) (λs0 _=>n-(intOf s0).toNat)
 case atStart=>exact⟨0,B8k _,rfl,Ho.out,hG⟩
 case round =>
  clear hG Ho;obtain⟨i,hi,rfl,ho,hG⟩:=hrel;obtain⟨u,rfl⟩:=exQ wr;have Ho:=B8S ho;have hB:=Bx.nil u;have hF:=Fr.nil w;clear ho;rcases B73 i n with hlt|hge
  ·have hdec:decide ((i:Int)<(n:Int))=true:=by simp;omega
   have hin:(i:Int)<(n:Int):=by omega
   have hst:=B0t (H:=H) hlt;have hsl:=Hsl.out i hlt;have fi:IntKind.i64.wrap ((i:Int)+1)=(i:Int)+1:=B8j _ (by omega);obtain⟨Q,hQ⟩:∃q,q=H i:=⟨_,rfl⟩
   rw[<-hQ]at hst;simp only[<-hQ]at hsl;have hQ1:∃a,Q = .slice a 1 1:=⟨_,by rw[hQ,HH.out]⟩
   obtain⟨aQ,hQ1⟩:=hQ1;subst hQ1;have Hst:=B8S hst;have Hsl1:=B8S hsl;clear hst hsl hQ;refine r0T ?_;refine B8N ?_;refine B8V (rfl) ?_;refine B8U ?_;refine A6 ?_;refine B8N ?_;refine B8v ?_;refine r0T ?_;obtain⟨z0,o0,-⟩:=A6c Ho.out (A7o H n i) hlt;have hfz:=Ho.out.frozenAt;have hsl:=Hsl1.out;refine r0E ?_;clear o0 hfz hsl;generalize hu0:World.setCell u _ _=u0;have hu1:C7 u b0 i [.slice aQ 1 1]=u0:=hu0;have hP:=P6 (enc:=K5) (size:=1) (ps:=A0K H n i) (λ_=>rfl) Ho.out i (.slice aQ 1 1) (by rw[A7o];exact hlt);rw[B9P,Hst.out,hu1]at hP;have hG2:=O5 Ho.out hG hP.2;have Ho2:=B8S hP.1;clear hG hB Ho hP hu1 hu0;have hG:=hG2;have hB:=Bx.nil u0;have hF:=Fr.nil w;have Ho:=Ho2;clear hG2 Ho2;obtain⟨u,rfl⟩:=exQ u0;refine C8 ?_;refine A6 ?_;refine r0E ?_;refine A6 ?_;go_roundw
   case rel=>exact⟨i+1,by omega,by go_num,Ho.out,hG⟩
   case measure=>simp[intOf];omega
  ·obtain rfl:n=i:=by omega
   have hdec:decide ((n:Int)<(n:Int))=false:=by simp
   have ho:=Ho.out;rw[B5v,HH.out]at ho;have HL:=B8S (B6r (P:=λi=>(some ⟨bb,ob+i*5,none⟩,1)) (R:=λi=>[gq y i]) ho (λi hi=>Hlq.out u hG i hi));clear ho Ho;refine r0T ?_;refine B8N ?_;refine B8T (rfl) ?_;refine B8x ?_;refine B7 ?_;refine B7 ?_;refine D0 ?_;refine A6 ?_;refine r0T ?_;refine rt Tryz.results162 ?_;exact⟨b0,rfl,HL.out,hG⟩
theorem A8y{P:Program}{o:Oper}{a:Act}{v w':World}{N:Value->World->Prop}{r x y:Value}(s z:Operand)(t:TypeId)(ho:o.op = .call { callee:=.builtin .append,args:=#[s,z],argTypes:=#[t,t] })(hs:a.eval s=x)(hz:a.eval z=y)(hr:(Builtin.append_ #[t,t] o.type #[x,y]).run P v = .ok r w')(h:N r w'):Z7 P o a v N:=by
 unfold Z7 execOp;simp only[ho,resolve,invoke,builtin,Sem.run_bind,Sem.run_pure,Result.andThen_ok,List.map_toArray,List.map_cons,List.map_nil,hs,hz,hr];exact h
theorem B5S(b o:Nat)(l l':List Rat)(n m c ba oa:Nat)(hl:l.length=n)(hl':l'.length=m)(hm:0<m)(hn2:n<=1000)(hm2:m<=1000)(v:World)(h:Lq v (some ⟨b,o,none⟩) l)(h':Lq v (some ⟨ba,oa,none⟩) l') :
  ∃(x:Nat×Nat) (w':World),(Builtin.append_ #[35,35] 35 #[.slice (some ⟨b,o,none⟩) n n,.slice (some ⟨ba,oa,none⟩) m c]).run Tryz.prog v = .ok (.slice (some ⟨x.1,0,none⟩) (n+m) x.2) w'/\v.heap.size<=x.1/\w'.ownsRow v.heap.size 48 5 (.slice (some ⟨x.1,0,none⟩) (n+m) x.2) (n+m) ((l++l').flatMap qL)/\A4 v w':=by
 obtain⟨i0,hi0,hz0,hz1,hz2⟩:=B8d A9l;have key:∀(b o:Nat) (l:List Rat),Lq v (some ⟨b,o,none⟩) l->∀j u,(l.flatMap qL)[j]?=some u->v.cell? ((⟨b,o,none⟩:Addr).add j)=some u:=λb o l h j u hj=>by
  have hjl:j<5*l.length:=by
   have:=(List.getElem?_eq_some_iff.1 hj).1;rw[A1I]at this;exact this
  obtain⟨b',off,e,hb,hc⟩:=h (λe=>by rw[e]at hjl;simp at hjl);cases e;have h1:j/5<l.length:=by omega
  have h2:=A3t l (A0n h1) (j:=j%5) (by omega);rw[show j/5*5+j%5=j by omega,hj]at h2;have h3:=hc (j/5) _ (A0n h1) (j%5) u h2.symm;rw[B8l];rw[show o+j/5*5+j%5=o+j by omega]at h3;exact h3
 obtain⟨v',w',hr,ho,hg⟩:=run_append_arg_grows (P:=Tryz.prog) v 35 35 48 i0 (.agg (qL 0).toArray) 5 56 Tryz.underlying35 hi0 hz0 hz1 hz2 rfl (by omega) ⟨b,o,none⟩ n n (l.flatMap qL) (by rw[A1I];omega) (key b o l h) ⟨ba,oa,none⟩ m c (l'.flatMap qL) (by rw[A1I];omega) (key ba oa l' h') (by omega) (by unfold maxLen;omega) (by omega);rw[<-B97]at ho;have ho2:=ho;obtain⟨_,h1|⟨g,cap,cur,rfl,hb,-⟩⟩:=ho
 ·exact absurd h1.2 (by omega)
 ·exact⟨(g,cap),w',hr,hb,ho2,⟨hg.os,hg.tape,hg.output,hg.size,λk hk=>hg.block k hk (λe=>by cases e)⟩⟩
def A2M(X Y:List (List Rat)):Mx:=λi j=>gq (B6 X i++B6 Y i) j
theorem A8L{X Y:List (List Rat)}{n i:Nat}(h:(B6 X i++B6 Y i).length=n):C9 (A2M X Y) n i=B6 X i++B6 Y i:=by
 unfold C9 A2M;apply B8I
 ·simp only[List.length_map,List.length_range];exact h.symm
 ·intro j h1 h2;simp only[List.getElem_map,List.getElem_range];unfold gq;rw[B8i h2];rfl
theorem B1G(A D:Option Addr)(rs rs2:List Rq)(n Lw m c d:Nat)(hn:rs.length=n)(hn':rs2.length=n)(hn2:n<=300)(hL1:1<=Lw)(hL2:Lw<=1000)(hm1:1<=m)(hm2:m<=1000)(hrl:∀r∈rs,r.2.2.length=Lw)(hrc:∀r∈rs,Lw<=r.2.1)(hrl2:∀r∈rs2,r.2.2.length=m)(w:World)(h:Lrq w A rs)(h2:Lrq w D rs2) :
  Calls Tryz.prog 161 #[.slice A n c,.slice D n d] w (E9 (λx:Nat×(Nat->Nat)×(Nat->Nat)=>.slice (some ⟨x.1,0,none⟩) n n) (λx W=>MatW w.heap.size n (Lw+m) x.1 n x.2.1 x.2.2 (A2M (rs.map (·.2.2)) (rs2.map (·.2.2))) W) w):=by
 have hat:∀i,i<n->∃(bb ob bd od ba oa ca b2 o2 c2:Nat),A=some ⟨bb,ob,none⟩/\D=some ⟨bd,od,none⟩/\Lw<=ca/\∀W,A4 w W->W.cell? ⟨bb,ob+i,none⟩=some (.slice (some ⟨ba,oa,none⟩) Lw ca)/\W.cell? ⟨bd,od+i,none⟩=some (.slice (some ⟨b2,o2,none⟩) m c2) /\
   ∃(x:Nat×Nat) (w':World),(Builtin.append_ #[35,35] 35 #[.slice (some ⟨ba,oa,none⟩) Lw Lw,.slice (some ⟨b2,o2,none⟩) m c2]).run Tryz.prog W = .ok (.slice (some ⟨x.1,0,none⟩) (Lw+m) x.2) w'/\W.heap.size<=x.1/\w'.ownsRow W.heap.size 48 5 (.slice (some ⟨x.1,0,none⟩) (Lw+m) x.2) (Lw+m) ((C9 (A2M (rs.map (·.2.2)) (rs2.map (·.2.2))) (Lw+m) i).flatMap qL)/\A4 W w':=λi hi=>by
  obtain⟨bb,ob,⟨P1,P2⟩,e,hP⟩:=X8 hn hrl h hi;obtain⟨bd,od,⟨R1,R2⟩,e2,hR⟩:=X8 hn' hrl2 h2 hi;obtain⟨-,p2,p3⟩:=hP w (A4.refl w);obtain⟨-,r2,r3⟩:=hR w (A4.refl w);obtain⟨ba,oa,e3⟩:=p2.addr (by omega);obtain⟨b2,o2,e4⟩:=r2.addr (by omega);simp only at e3 e4;subst e3 e4;have hcap:Lw<=P2:=by
   subst e;have hil:i<rs.length:=by omega
   have h5:=(h.read (B8i hil)).1;have h6:=(hP w (A4.refl w)).1;rw[h6]at h5;injection h5 with h5;injection h5 with _ _ h7;simp only at h7;rw[h7];exact hrc _ (B8G hil)
  refine⟨bb,ob,bd,od,ba,oa,P2,b2,o2,R2,e,e2,hcap,λW hg=>⟨(hP W hg).1,(hR W hg).1,?_⟩⟩;rw[A8L (by rw[List.length_append];omega)];exact B5S ba oa _ _ Lw m R2 b2 o2 p3 r3 (by omega) hL2 hm2 W (hP W hg).2.1 (hR W hg).2.1
 obtain⟨M,hM⟩:∃M,M=A2M (rs.map (·.2.2)) (rs2.map (·.2.2)):=⟨_,rfl⟩
 rw[<-hM];simp only[<-hM]at hat;have hmk:=A4e n (by omega) (n:Int) rfl;obtain⟨Lm,hLm⟩:∃x,x=Lw+m:=⟨_,rfl⟩
 rw[<-hLm];simp only[<-hLm]at hat;have Hat:=B8S hat;have Hmk:=B8S hmk;clear hat hmk hM h h2 hrl hrl2 hrc hn hn' hLm;go_enter Tryz.func161,Tryz.ntmps161;refine en0 ?_;intro u hG hB hF;refine B8N ?_;have hmk:=Hmk.out;refine N5 ?_;intro K hN;go_wp2_with fail;generalize hv:World.alloc u _=v;have hrow:=A6x (λ_=>0) (λ_=>0) Lm hG.sz (by omega) hv;have hgv:A4 u v:=hv ▸ A4.alloc u _;have hG2:=hG.trans hgv;clear hv hG hB hmk hgv;generalize u.heap.size=b0 at hrow⊢;have Ho:=B8S (MatP.mk hrow (λi hi=>absurd hi (C0C _)) (λi j hi=>absurd hi (C0C _)):MatP w.heap.size n Lm b0 (λ_=>0) (λ_=>0) M 0 v);have hG:=hG2;have hB:=Bx.nil v;have hF:=Fr.nil w;clear hrow hG2;obtain⟨u,rfl⟩:=exQ v;refine NoK.norm (hN _ _ ?_);clear hN K;refine A6 ?_;refine B8N ?_;refine r0T ?_;refine B8v ?_;clear hB hF;go_loopw [13] (λs0 wr=>∃(i:Nat) (g cp:Nat->Nat),i<=n/\s0 = .int .i64 i/\MatP w.heap.size n Lm b0 g cp M i wr/\A4 w wr) (λs0 _=>n-(intOf s0).toNat)
 case atStart=>exact⟨0,_,_,B8k _,rfl,Ho.out,hG⟩
 case round =>
  clear hG Ho;obtain⟨i,g,cp,hi,rfl,ho,hG⟩:=hrel;obtain⟨u,rfl⟩:=exQ wr;have Ho:=B8S ho;have hB:=Bx.nil u;have hF:=Fr.nil w;clear ho;rcases B73 i n with hlt|hge
  ·have hdec:decide ((i:Int)<(n:Int))=true:=by simp;omega
   have hin:(i:Int)<(n:Int):=by omega
   obtain⟨bb,ob,bd,od,ba,oa,ca,b2,o2,c2,rfl,rfl,hca,hrd⟩:=Hat.out i hlt;have hsl:=B2x ba oa Lw ca hca (by omega);have Hrd:=B8S hrd;have Hsl:=B8S hsl;clear hrd hsl;refine r0T ?_;refine B8N ?_;refine B8V (rfl) ?_;refine B8U ?_;refine A6 ?_;refine B8N ?_;refine B8v ?_;refine B8N ?_;obtain⟨q0,q1,-⟩:=Hrd.out u hG;refine r0N ?_;obtain⟨u5,hu5⟩:=exQ u;rw[<-hu5]at Ho;refine rdC A8 [] [(0,0),(0,1),(0,2),(0,3),(0,4),(0,5),(0,6),(0,7),(0,8),(0,9),(0,10),(0,11),(1,12),(0,13)] hB hG λK L hN hL=>?_
   repeat first|refine gya ?_|refine gyr ?_|refine gna ?_|refine gyb (by(rintro v ⟨hgu,hB,hG,-⟩ N hN;have r:=hB.r;simp only[BxR]at r;obtain⟨q0,q1,-⟩:=Hrd.out v hG;have hsl:=Hsl.out;go_simp;exact hN)) ?_|refine gyb (by(rintro v-N hN;have hsl:=Hsl.out;go_simp;exact hN)) ?_
   refine gx (Nat×Nat) (λx:Nat×Nat=>.slice (some ⟨x.1,0,none⟩) Lm x.2) (λx W'=>u5.heap.size<=x.1/\W'.ownsRow w.heap.size 48 5 (.slice (some ⟨x.1,0,none⟩) Lm x.2) Lm ((C9 M Lm i).flatMap qL)) (λx u u' hg h=>⟨h.1,C5 h.2 hg⟩) rfl ?_ (λx30=>?_)
   ·(rintro v ⟨hgu,hB,hG,-⟩ N hN;obtain⟨-,-,x,w9,hr,h1,h2,h3⟩:=Hrd.out v hG;exact A8y _ _ _ (by rfl) (by rfl) (by rfl) hr (hN x w9 ⟨by rw[hu5];exact B8K hgu.size h1,h2.mono hG.sz⟩ h3))
   refine okf (by simp only[Act.put,List.setIfInBounds_toArray,List.set_cons_succ,List.set_cons_zero];exact rfl) ?_
   repeat first|refine gya ?_|refine gyr ?_|refine gna ?_|refine gyb (by(rintro v-N hN;have hsl:=Hsl.out;go_simp;exact hN)) ?_
   refine geC hL ?_;clear hB hG hL L;rintro u ⟨⟨hgu,hB,hG,-⟩,hx30⟩;have hG5:A4 u5 u:=hu5 ▸ hgu;have Hx:=B8S hx30;obtain⟨z0,o0,-⟩:=A6c (Ho.out.grow hG5).hd (A0M g cp Lm n i) hlt;have hfz:=(Ho.out.grow hG5).hd.frozenAt;clear hx30;clear hgu;refine gt ?_;clear hN K;clear o0 hfz;generalize hu0:World.setCell u _ _=u0;have hu1:C7 u b0 i [.slice (some ⟨x30.1,0,none⟩) Lm x30.2]=u0:=hu0;have hP:=MatP.step Ho.out hG5 hlt Hx.out.1 Hx.out.2 hu1;have hG2:=O5 (Ho.out.grow hG5).hd hG hP.2;have Ho2:=B8S hP.1;clear hG hB Ho hP hu1 hu0 hG5 Hx hu5;have hG:=hG2;have hB:=Bx.nil u0;have hF:=Fr.nil w;have Ho:=Ho2;clear hG2 Ho2 u5;obtain⟨u,rfl⟩:=exQ u0;refine C8 ?_;refine A6 ?_;refine r0E ?_;refine A6 ?_;go_roundw
   case rel=>exact⟨i+1,_,_,by omega,by go_num,Ho.out,hG⟩
   case measure=>simp[intOf];omega
  ·obtain rfl:n=i:=by omega
   have hdec:decide ((n:Int)<(n:Int))=false:=by simp
   have HL:=B8S Ho.out.done;clear Ho;refine r0T ?_;refine B8N ?_;refine B8T (rfl) ?_;refine B8x ?_;refine B7 ?_;refine B7 ?_;refine D0 ?_;refine A6 ?_;refine r0T ?_;refine rt Tryz.results161 ?_;exact⟨(b0,g,cp),rfl,HL.out,hG⟩
theorem A75{n L:Nat}{s:Gs}(h:∀x∈s.2,x<0):∀c,(∀x∈(C0 n L s c).2,x<c)/\((C0 n L s c).2.Pairwise (· < ·)\/¬s.2.Pairwise (· < ·))
 | 0=>⟨h,by
  by_cases hp:s.2.Pairwise (· < ·)
  ·exact .inl hp
  ·exact .inr hp⟩
 | c+1=>by
  obtain⟨h1,h2⟩:=A75 h c;show(∀x∈(L0 n L (C0 n L s c) c).2,x<c+1)/\((L0 n L (C0 n L s c) c).2.Pairwise (· < ·)\/_);unfold L0;split
  ·refine⟨λx hx=>?_,?_⟩
   ·rcases List.mem_append.1 hx with hx|hx
    ·exact Nat.lt_succ_of_lt (h1 x hx)
    ·have:x=c:=by simpa using hx
     omega
   ·rcases h2 with h2|h2
    ·left;rw[List.pairwise_append];refine⟨h2,by simp,λa ha b hb=>?_⟩;have:b=c:=by simpa using hb
     rw[this];exact h1 a ha
    ·exact .inr h2
  ·exact⟨λx hx=>Nat.lt_succ_of_lt (h1 x hx),h2⟩
theorem A5b(n L:Nat)(M:Mx)(c:Nat):(C0 n L (M,[]) c).2.Pairwise (· < ·)/\∀x∈(C0 n L (M,[]) c).2,x<c:=by
 obtain⟨h1,h2⟩:=A75 (n:=n) (L:=L) (s:=(M,[])) (λx hx=>(by cases hx)) c;exact⟨h2.resolve_right (λh=>h List.Pairwise.nil),h1⟩
def nx(l:List Nat)(i:Nat):Nat:=(l[i]?).getD 0
theorem O3{l:List Nat}{i:Nat}(h:i<l.length):nx l i∈l:=by
 unfold nx;rw[B8i h];exact B8G h
theorem A2v{W:World}{A:Option Addr}{le:List Nat}(h:Li W A (I2 le)){i:Nat}(hi:i<le.length):∃b o,A=some ⟨b,o,none⟩/\∀W',A4 W W'->W'.cell? ⟨b,o+i,none⟩=some (.int .i64 (nx le i:Nat)):=by
 have hil:i<(I2 le).length:=by rw[A1J];exact hi
 obtain⟨b,o,e,-⟩:=h.cell hil;refine⟨b,o,e,λW' hg=>?_⟩;obtain⟨b',o',e',hc⟩:=(h.grow hg).cell hil;rw[e]at e';cases e';rw[hc];have:gi (I2 le) i=((nx le i:Nat):Int):=by
  unfold gi nx I2;rw[List.getElem?_map,B8i hi];rfl
 rw[this]
theorem B3C(b0 m:Nat)(ld:Ax)(hm:m<=300)(w:World)(hl:Li w ld.1 (I2 (List.range m))) :
  Calls Tryz.prog 163 #[.agg #[.slice (some ⟨b0,0,none⟩) m m,.slice ld.1 m ld.2],.int .i64 (m:Nat)] w λe w'=>e = .returned (.slice none 0 0)/\A4 w w':=by
 have hli:∀i,i<m->∃b o,ld.1=some ⟨b,o,none⟩/\∀W',A4 w W'->W'.cell? ⟨b,o+i,none⟩=some (.int .i64 (i:Nat)):=λi hi=>by
  obtain⟨b,o,e,h⟩:=A2v hl (i:=i) (by simpa using hi);have e2:nx (List.range m) i=i:=by unfold nx;simp[hi]
  rw[e2]at h;exact⟨b,o,e,h⟩
 obtain⟨LA,LC⟩:=ld;have Hli:=B8S hli;clear hli hl;go_enter Tryz.func163,Tryz.ntmps163;refine en1 ?_;intro u hG b2 hB hF;refine r0T ?_;refine r0T ?_;refine B8N ?_;refine r0T ?_;refine B8v ?_;clear hF;go_loopw [12,5,6] (λs0 s2 s1 wr=>∃k:Nat,k<=m/\s0 = .int .i64 k/\s2 = .slice none 0 0/\s1 = .int .i64 k/\Bx wr [(b2,216,#[.slice (some ⟨b0,0,none⟩) m m,.slice LA m LC])]/\A4 w wr) (λs0 _ _ _=>m-(intOf s0).toNat)
 case atStart=>exact⟨0,B8k _,rfl,rfl,rfl,hB,hG⟩
 case round =>
  clear hB hG;obtain⟨k,hk,rfl,rfl,rfl,hB,hG⟩:=hrel;obtain⟨u,rfl⟩:=exQ wr;rcases B73 k m with hlt|hge
  ·have hdec:decide ((k:Int)<(m:Int))=true:=by simp;omega
   have hkm:(k:Int)<(m:Int):=by omega
   have fk:IntKind.i64.wrap ((k:Int)+1)=((k+1:Nat):Int):=by rw[B8j _ (by omega)];omega
   obtain⟨bl0,ol,el,hlc⟩:=Hli.out k hlt;simp only at el;subst el;have fx:((k:Int) == (k:Int))=true:=by simp
   have Hlc:=B8S hlc;clear hlc;refine r0T ?_;refine B8N ?_;refine B8V (rfl) ?_;refine B8U ?_;refine A6 ?_;refine B8N ?_;refine B8v ?_;refine r0T ?_;refine B8N ?_;refine B8N ?_;have q0:=Hlc.out u hG;refine r0N ?_;refine B8V (rfl) ?_;refine r0T ?_;refine B8x ?_;refine B7 ?_;refine D0 ?_;refine A6 ?_;refine r0E ?_;refine A6 ?_;go_roundw
   case rel=>exact⟨k+1,by omega,by go_num,rfl,by go_num,hB,hG⟩
   case measure=>simp[intOf];omega
  ·obtain rfl:m=k:=by omega
   have hdec:decide ((m:Int)<(m:Int))=false:=by simp
   refine r0T ?_;refine B8N ?_;refine B8T (rfl) ?_;refine B8x ?_;refine B7 ?_;refine B7 ?_;refine D0 ?_;refine A6 ?_;refine r0T ?_;refine rt Tryz.results163 ?_;exact⟨rfl,hG⟩
def aug(X:List (List Rat))(y:List Rat)(m:Nat):List (List Rat):=(List.range m).map λi=>B6 X i++[gq y i]
theorem A1c{m i:Nat}{f:Nat->List Rat}(h:i<m):B6 ((List.range m).map f) i=f i:=by
 unfold B6;rw[List.getElem?_map,B98 h];rfl
theorem B1j(A:Option Addr)(bb ob:Nat)(rs:List Rq)(y:List Rat)(m c d:Nat)(hn:rs.length=m)(hm1:1<=m)(hm2:m<=19)(hrl:∀r∈rs,r.2.2.length=m)(hrc:∀r∈rs,m<=r.2.1)(hy:y.length=m)(hd:m<=d)(s:Nat)(hs1:1<=s)(hs:∀i,i<m->∀j,j<m->qs (gq (B6 (rs.map (·.2.2)) i) j)<=s)(hys:∀i,i<m->qs (gq y i)<=s)(hBz:30*(s*10^(m+1))<=BIG)
  (hfull:(C0 m (m+1) (D7 (aug (rs.map (·.2.2)) y m),[]) (m+1)).2=List.range m) (w:World) (h:Lrq w A rs) (h2:Lq w (some ⟨bb,ob,none⟩) y) (HT:Tab w) :
  Calls Tryz.prog 128 #[.slice A m c,.slice (some ⟨bb,ob,none⟩) m d] w (E9 (λx:Ax=>.tuple #[.slice x.1 m x.2,.slice none 0 0,.int .i64 0]) (λx W=>Lq W x.1 ((List.range m).map λi=>(C0 m (m+1) (D7 (aug (rs.map (·.2.2)) y m),[]) (m+1)).1 i m)/\∃b,x.1=some ⟨b,0,none⟩/\w.heap.size<=b) w):=by
 have hri:=λW (hg:A4 w W)=>A8g A rs m m c hn hm1 (by omega) hm1 hrl W (h.grow hg);have hcl:=λW (hg:A4 w W)=>B6I bb ob m d y hy (by omega) hd W (h2.grow hg);obtain⟨b9,o9,P0,eA,hP0⟩:=X8 hn hrl h (i:=0) (by omega);have hr0:=λW hg=>(hP0 W hg).1;simp only[Nat.add_zero]at hr0;obtain⟨rc,hrcd⟩:∃rc:List Rq,rc=(List.range m).map λi=>((some ⟨bb,ob+i*5,none⟩,1,[gq y i]):Rq):=⟨_,rfl⟩
 rw[<-hrcd]at hcl;have hrc1:rc.length=m:=by rw[hrcd];simp
 have hrc2:∀r∈rc,r.2.2.length=1:=λr hr=>by
  rw[hrcd]at hr;obtain⟨i,-,rfl⟩:=List.mem_map.1 hr;rfl
 obtain⟨BM,hBM⟩:∃M,M=A2M (rs.map (·.2.2)) (rc.map (·.2.2)):=⟨_,rfl⟩
 have hbs:=λW (x:Nat) (hg:A4 w W) (hx:Lrq W (some ⟨x,0,none⟩) rc)=>B1G A (some ⟨x,0,none⟩) rs rc m m 1 c m hn hrc1 (by omega) hm1 (by omega) (by omega) (by omega) hrl hrc hrc2 W (h.grow hg) hx;rw[<-hBM]at hbs;have hrow:∀i,i<m->C9 BM (m+1) i=B6 (rs.map (·.2.2)) i++[gq y i]:=λi hi=>by
  have e1:B6 (rc.map (·.2.2)) i=[gq y i]:=by
   rw[hrcd,List.map_map];exact A1c hi
  obtain⟨b7,o7,P7,e7,hP⟩:=X8 hn hrl h hi;rw[hBM,A8L (by rw[e1,List.length_append,(hP w (A4.refl w)).2.2];rfl),e1]
 have hrd:=λW (x:Nat×(Nat->Nat)×(Nat->Nat)) (hg:A4 w W) (hx:MatW w.heap.size m (m+1) x.1 m x.2.1 x.2.2 BM W)=>by
  have e2:((List.range m).map λi=>((some ⟨x.2.1 i,0,none⟩,x.2.2 i,C9 BM (m+1) i):Rq)).map (·.2.2)=aug (rs.map (·.2.2)) y m:=by
   rw[List.map_map];refine B96 λi hi=>?_;exact hrow i (List.mem_range.1 hi)
  have h5:=A8Y (some ⟨x.1,0,none⟩) ((List.range m).map λi=>((some ⟨x.2.1 i,0,none⟩,x.2.2 i,C9 BM (m+1) i):Rq)) m (m+1) m (by simp) hm1 (by omega) (by omega) (by omega) (λr hr=>by
   obtain⟨i,-,rfl⟩:=List.mem_map.1 hr;exact P4 _ _ _) s hs1 (λi hi j hj=>by
   rw[e2];unfold aug;rw[A1c hi];obtain⟨b7,o7,P7,e7,hP⟩:=X8 hn hrl h hi;have hl:=(hP w (A4.refl w)).2.2;unfold gq;rcases B73 j m with h6|h6
   ·rw[B9u (by omega)];exact hs i hi j h6
   ·rw[B9v (by omega),show j-(B6 (rs.map (·.2.2)) i).length=0 by omega]
    exact hys i hi) hBz W hx.lrq (HT.grow hg)
  rw[e2]at h5;exact h5
 simp only[hfull,List.length_range]at hrd;obtain⟨GM,hGM⟩:∃G,G=(C0 m (m+1) (D7 (aug (rs.map (·.2.2)) y m),[]) (m+1)).1:=⟨_,rfl⟩
 simp only[<-hGM]at hrd⊢;obtain⟨f,hf⟩:∃f:Nat->Rat,f=λi=>GM i m:=⟨_,rfl⟩
 have hfi:∀i,GM i m=f i:=by rw[hf];exact λ_=>rfl
 rw[<-hf];have hmk:=A1R m (by omega) (m:Int) rfl;have hni:(0:Int)<(m:Int):=by omega
 have hnp:0<m:=by omega
 have fn:decide ((0:Int)<(m:Int))=true:=by simp;omega
 have fnn:decide (0<m)=true:=by simp;omega
 have fmm:((m:Int) != (m:Int))=false:=by simp
 obtain⟨m1,hm1e⟩:∃x,x=m-1:=⟨_,rfl⟩
 have fm1:IntKind.i64.wrap ((m:Int)-1)=(m1:Int):=by rw[B8j _ (by omega)];omega
 have hm1i:(m1:Int)<(m:Int):=by omega
 have fm2:((m1:Int) == (m:Int))=false:=by simp;omega
 have fm3:decide (m1=m)=false:=by simp;omega
 have Hri:=B8S hri;have Hcl:=B8S hcl;have Hr0:=B8S hr0;have Hbs:=B8S hbs;have Hrd:=B8S hrd;have Hmk:=B8S hmk;have Hfi:=B8S hfi;subst eA;clear hri hcl hr0 hbs hrd hmk hfi hf hGM hBM hrcd hrow hrc1 hrc2 hP0 hs hs1 hys hBz hfull h h2 hrl hrc hn hy hd hm1e;go_enter Tryz.func128,Tryz.ntmps128;refine en0 ?_;intro u hG hB hF;refine B8N ?_;refine B8N (rsE X0 [0,1,0,0,0,0,0,0,0,0] hB hG λL hL=>?_);refine gs ?_;refine gmd (C:=λv ⟨hgu,hB,hG,_⟩=>Hri.out _ hG) ?_;refine gs ?_;refine geT hL ?_;clear hB hG hL L;rintro u ⟨-,hB,hG,-⟩;refine B8T (rfl) ?_;refine B8U ?_;refine A6 ?_;refine B8N ?_
 (first|have q0:=Hr0.out u hG|skip)
 refine r0N ?_;refine B8N (rsC X0 [0,0,1,1,1,0,0,0,2] hB hG λK L hN hL=>?_);refine gs ?_;refine gxd (X:=Nat) (λx:Nat=>.slice (some ⟨x,0,none⟩) m m) (λx W=>Lrq W (some ⟨x,0,none⟩) rc) (λx u u' hg h=>Lrq.grow h hg) (λx30=>?_) (C:=by(rintro v ⟨hgu,hB,hG,-⟩;exact Hcl.out _ hG));refine gxd (X:=(Nat×(Nat->Nat)×(Nat->Nat))) (λx:Nat×(Nat->Nat)×(Nat->Nat)=>.slice (some ⟨x.1,0,none⟩) m m) (λx W=>MatW w.heap.size m (m+1) x.1 m x.2.1 x.2.2 BM W) (λx u u' hg h=>MatW.grow h hg) (λx31=>?_) (C:=by(rintro v ⟨⟨hgu,hB,hG,-⟩,hx30⟩;exact(Hbs.out _ x30 hG hx30).mono λe w' ⟨x,g1,g2,g3⟩=>⟨x,g1,g2.mono hG.sz,g3⟩));refine gxd (X:=((Nat×(Nat->Nat)×(Nat->Nat))×Ax)) (λx:(Nat×(Nat->Nat)×(Nat->Nat))×Ax=>.tuple #[.agg #[.slice (some ⟨x.1.1,0,none⟩) m m,.slice x.2.1 m x.2.2],.int .i64 0]) (λx W=>MatW w.heap.size m (m+1) x.1.1 m x.1.2.1 x.1.2.2 GM W/\W.ownsRow w.heap.size 3 1 (.slice x.2.1 m x.2.2) m (O9 (I2 (List.range m)))) (λx u u' hg h=>⟨h.1.grow hg,C5 h.2 hg⟩) (λx32=>?_) (C:=by(rintro v ⟨⟨⟨hgu,hB,hG,-⟩,hx30⟩,hx31⟩;exact(Hrd.out _ x31 hG hx31).mono λe w' ⟨x,g1,g2,g3⟩=>⟨x,g1,⟨g2.1.mono hG.sz,g2.2.mono hG.sz⟩,g3⟩));refine gs ?_;refine gaa (A6q _ _ _ _ _) λb8 hb8 hn8=>?_;replace hF:=hF.n1 [] hB hG hb8 hn8;refine geC hL ?_;clear hB hG hL L;rintro u ⟨⟨⟨⟨⟨hgu,hB,hG,-⟩,hx30⟩,hx31⟩,hx32⟩,h8⟩;replace hB:=hB.cons' h8;clear h8;obtain⟨⟨b0,g,cp⟩,LA,LC⟩:=x32;have hm32:MatW w.heap.size m (m+1) b0 m g cp GM u:=hx32.1;have ho32:u.ownsRow w.heap.size 3 1 (.slice LA m LC) m (O9 (I2 (List.range m))):=hx32.2;clear hx30 hx31 hx32;clear hb8 hn8;clear hgu;refine gtT ?_;clear hN K;refine sv hB hF hG 0 0 [_,_] ?_;intro u hu hBG;have hm2:=hm32.over ⟨λe=>L8 hm32.hd hB.head (by decide) (by rw[e];rfl),λi hi e=>L8 (hm32.row i hi) hB.head (by decide) (by rw[e];rfl)⟩ hu;have ho2:=P5 ho32 (L8 ho32 hB.head (by decide)) hu;clear hB hG hu hm32 ho32;obtain⟨hB,hG⟩:=hBG;obtain⟨w1,hw1⟩:=exQ u;have hwle:w.heap.size<=w1.heap.size:=hw1 ▸ hG.sz;have Hm:=B8S (show MatW w.heap.size m (m+1) b0 m g cp GM w1 from hw1 ▸ hm2);obtain⟨A5,c5,e5,-,hLi⟩:=A1M (l:=I2 (List.range m)) ho2 (by rw[A1J,List.length_range]);cases e5;have hwle:w.heap.size<=w1.heap.size:=hw1 ▸ hG.sz;have Hlw:=B8S (show Li w1 LA (I2 (List.range m))from hw1 ▸ hLi);have hG1:A4 w1 u:=hw1 ▸ A4.refl u;clear hm2 ho2 hLi hw1;have hli:∀i,i<m->∃b o,LA=some ⟨b,o,none⟩/\∀W',A4 w1 W'->W'.cell? ⟨b,o+i,none⟩=some (.int .i64 (i:Nat)):=λi hi=>by
  obtain⟨b,o,e,h⟩:=A2v Hlw.out (i:=i) (by simpa using hi);have e2:nx (List.range m) i=i:=by unfold nx;simp[hi]
  rw[e2]at h;exact⟨b,o,e,h⟩
 obtain⟨bl0,ol,eL,-⟩:=hli 0 hnp;subst eL;have hli2:∀i,i<m->∀W',A4 w1 W'->W'.cell? ⟨bl0,ol+i,none⟩=some (.int .i64 (i:Nat)):=λi hi W' hg=>by
  obtain⟨b,o,e,h⟩:=hli i hi;cases e;exact h W' hg
 have Hli:=B8S hli2;clear hli hli2;refine B8N ?_;refine B8N ?_
 (first|have q0:=Hr0.out u hG|skip)
 refine r0N ?_;refine B8N ?_;have q1:=Hli.out m1 (by omega) u hG1
 (first|have q0:=Hr0.out u hG|skip)
 refine r0N ?_;clear q1;refine B8T (rfl) ?_;refine B8U ?_;refine A6 ?_;refine B8N ?_;have hmk:=Hmk.out;refine N5 ?_;intro K hN;go_wp2_with fail;generalize hv:World.alloc u _=v;have hrow:=A1H hG1.size (by omega) hv;have hgv:A4 u v:=hv ▸ A4.alloc u _;have hG2:=hG.trans hgv;have hG12:=hG1.trans hgv;have hB2:=hB.grow hgv;have hg8:u.heap.size≠b8:=B9V hB.head.lt;clear hv hG hB hmk hgv hG1;rw[<-A2E f m]at hrow;generalize u.heap.size=gx at hrow hg8⊢;have Ho:=B8S hrow;have hG:=hG2;have hG1:=hG12;have hB:=hB2;clear hrow hG2 hG12 hB2;obtain⟨u,rfl⟩:=exQ v;refine NoK.norm (hN _ _ ?_);clear hN K;refine A6 ?_;refine B8N ?_;refine B8N ?_
 (first|have q0:=Hr0.out u hG|skip)
 refine r0N ?_;refine B8v ?_;clear hF;go_loopw [55] (λs0 wr=>∃i:Nat,i<=m/\s0 = .int .i64 i/\wr.ownsRow w1.heap.size 48 5 (.slice (some ⟨gx,0,none⟩) m m) m ((K7 f m i).flatMap qL)/\Bx wr [(b8,216,#[.slice (some ⟨b0,0,none⟩) m m,.slice (some ⟨bl0,ol,none⟩) m LC])]/\A4 w wr/\A4 w1 wr) (λs0 _=>m-(intOf s0).toNat)
 case atStart=>exact⟨0,B8k _,rfl,Ho.out,hB,hG,hG1⟩
 case round =>
  clear hG Ho hB hG1;obtain⟨i,hi,rfl,ho,hB,hG,hG1⟩:=hrel;obtain⟨u,rfl⟩:=exQ wr;have Ho:=B8S ho;clear ho;rcases B73 i m with hlt|hge
  ·have hdec:decide ((i:Int)<(m:Int))=true:=by simp;omega
   have hin:(i:Int)<(m:Int):=by omega
   have hmL:(m:Int)<((m+1:Nat):Int):=by omega
   have hmL2:(m:Int)<(m:Int)+1:=by omega
   have hst:=A1j (f:=f) hlt;have hmx:∀W,A4 w1 W->W.cell? ⟨b0,i,none⟩=some (.slice (some ⟨g i,0,none⟩) (m+1) (cp i))/\Cq W (g i) (m*5) (f i):=λW hg=>⟨(Hm.out.grow hg).read hlt,by rw[<-Hfi.out];exact(Hm.out.grow hg).cq hlt (by omega)⟩
   have hlx:=Hli.out i hlt;obtain⟨Q,hQ⟩:∃q,q=f i:=⟨_,rfl⟩
   rw[<-hQ]at hst;simp only[<-hQ]at hmx;have Hst:=B8S hst;have Hmx:=B8S hmx;have Hlx:=B8S hlx;clear hst hmx hlx hQ;refine r0T ?_;refine B8N ?_;refine B8V (rfl) ?_;refine B8U ?_;refine A6 ?_;refine B8N ?_;refine B8v ?_;refine B8N ?_;have q1:=Hlx.out u hG1;refine r0N ?_;obtain⟨q2,y1,y2,y3,y4,y5⟩:=Hmx.out u hG1;obtain⟨z0,z1,z2,z3,z4,o0,o1,o2,o3,o4,hfz⟩:=A1C (enc:=qL) (λ_=>rfl) Ho.out (Q0 f m i).symm i (by rw[Q0];exact hlt);have q1:=Hlx.out u hG1;refine r0E ?_;clear q2 y1 y2 y3 y4 y5 o0 o1 o2 o3 o4 hfz;generalize hu0:World.setCell (World.setCell (World.setCell (World.setCell (World.setCell u _ _) _ _) _ _) _ _) _ _=u0;have hu1:C7 u gx (i*5) (qL Q)=u0:=hu0;have hP:=P6 (enc:=qL) (size:=5) (ps:=K7 f m i) (λ_=>rfl) Ho.out i Q (by rw[Q0];exact hlt);rw[Hst.out,hu1]at hP;have hgx:=(Ho.out.lt gx rfl).1;have hG12:=O5 Ho.out hG1 hP.2
   have hG2:A4 w u0:=hG.grown hP.2 (λk hk=>by
    have e:gx=k:=B78 hk.symm |>.symm
    have:=hwle
    omega)
   have hB2:=hB.grown_ hP.2 (λe he hxe=>by
    have e1:e=_:=List.mem_singleton.1 he;subst e1
    exact hg8 (B78 hxe).symm)
   have Ho2:=B8S hP.1;clear hG hB Ho hP hu1 hu0 hG1 hgx;have hG:=hG2;have hB:=hB2;have hG1:=hG12;have Ho:=Ho2;clear hG2 Ho2 hB2 hG12;obtain⟨u,rfl⟩:=exQ u0;refine C8 ?_;refine A6 ?_;refine r0E ?_;refine A6 ?_;go_roundw
   case rel=>exact⟨i+1,by omega,by go_num,Ho.out,hB,hG,hG1⟩
   case measure=>simp[intOf];omega
  ·obtain rfl:m=i:=by omega
   have hdec:decide ((m:Int)<(m:Int))=false:=by simp
   have ho:=Ho.out;rw[A1m]at ho;obtain⟨A9,c9,e9,-,-,hL,-⟩:=Q8 ho;cases e9;obtain⟨w2,hw2⟩:=exQ u;have HL:=B8S (show Lq w2 (some ⟨gx,0,none⟩) ((List.range m).map f)from hw2 ▸ hL);have hgx0:w.heap.size<=gx:=by have:=hwle;have:=(Ho.out.lt gx rfl).1;omega
   have hG3:A4 w2 u:=hw2 ▸ A4.refl u;clear ho hL Ho hw2;refine r0T ?_;refine B8N ?_;refine B8T (rfl) ?_;refine B8x ?_;refine B7 ?_;refine B7 ?_;refine D0 ?_;refine A6 ?_;refine B8N (rsE X0 [0,0,0,1,0,0,0] hB hG λL hL=>?_)
   repeat first|refine gya ?_|refine gyr ?_|refine gna ?_|refine gyb (by(rintro v ⟨hgu,hB,hG,-⟩ N hN;have r:=hB.r;simp only[BxR]at r;(first|have q0:=Hr0.out v hG|skip);go_simp;exact hN)) ?_
   refine gmd (C:=λv ⟨hgu,hB,hG,_⟩=>B3C b0 m (some ⟨bl0,ol,none⟩,LC) (by omega) _ (Hlw.out.grow (hG1.trans hgu))) ?_;refine gs ?_;refine geT hL ?_;clear hB hG hL L;rintro u ⟨hgu,hB,hG,-⟩;replace hG3:=hG3.trans hgu;clear hgu;refine rt Tryz.results128 ?_;exact⟨(some ⟨gx,0,none⟩,m),rfl,⟨HL.out.grow hG3,gx,rfl,hgx0⟩,hG⟩
end Go.Proofs.YtgpglgbcobeogaaGreatDoor
