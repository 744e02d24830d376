import Derived.Test.YtgpglgbcobeogaaGreatDoorL42
import Derived.Test.YtgpglgbcobeogaaGreatDoorL44
set_option linter.unusedSimpArgs false
set_option linter.unusedVariables false
set_option maxHeartbeats 16000000
set_option maxRecDepth 100000
namespace Go.Proofs.YtgpglgbcobeogaaGreatDoor
open Go Go.RowKit
abbrev slV(L:Nat)(P:Ax):Value:=.slice P.1 L P.2
abbrev slE(L:Nat)(P:Ax):List Value:=[slV L P]
def pX(ps:List Ax)(i:Nat):Ax:=ps.getD i (none,0)
theorem B2F{ps:List Ax}{i:Nat}(h:i<ps.length):ps[i]=pX ps i:=by
 unfold pX;rw[C0P,B8i h];rfl
theorem B6D{ps:List Ax}{i t:Nat}{P:Ax}(hi:i<ps.length):pX (ps.set i P) t=if t=i then P else pX ps t:=by
 unfold pX;rw[C0P,C0P,List.getElem?_set];by_cases e:i=t
 ·rw[if_pos e,if_pos e.symm,if_pos (by omega)];rfl
 ·rw[if_neg e,if_neg (λh=>e h.symm)]
theorem B3z{ps:List Ax}{t:Nat}{P:Ax}:pX (ps++[P]) t=if t=ps.length then P else pX ps t:=by
 unfold pX;rw[C0P,C0P];by_cases e:t=ps.length
 ·rw[if_pos e,e];simp
 ·rw[if_neg e];rcases B73 t ps.length with h|h
  ·rw[B9u h]
  ·rw[B9n (by simp;omega),B9n h]
theorem Lzt.kept{u w':World}{B:Nat}{e:TypeId}{size n:Nat}{v:Value}{xs:List Value}{A:Option Addr}{l:List Rat}(hl:Lzt u A l)(h:u.ownsRow B e size v n xs)(h1:e≠33)(h2:e≠193)(hg:u.grownBy w' v.ownBlock):Lzt w' A l:=by
 have key:∀(b:Nat) (cs:Array Value) (fr:Nat×Nat),u.heap[b]?=some (Obj.cells cs 33 fr)->w'.heap[b]?=u.heap[b]?:=λb cs fr hb=>hg.block b (N7 hb) λe0=>by
  obtain⟨-,⟨e1,-⟩|⟨g,cap,cur,rfl,-,hh,-⟩⟩:=h
  ·rw[e1]at e0;cases e0
  ·have e2:b=g:=B78 e0;rw[<-e2,hb]at hh;injection hh with hh;injection hh with _ h3 _;exact h1 h3.symm
 refine⟨λhne=>?_,λb off hA=>?_⟩
 ·obtain⟨b,off,eA,hb,hc⟩:=hl.lz hne;obtain⟨cs,fr,hty⟩:=hl.ty b off eA;have hs:=key b cs fr hty;refine⟨b,off,eA,N7 (hs.trans hty),λi hi=>?_⟩;obtain⟨p,g1,g2,g3,g4⟩:=hc i hi;exact⟨p,B0U g1 h h2 hg,(cell_of_heap hs _).trans g2,(cell_of_heap hs _).trans g3,(cell_of_heap hs _).trans g4⟩
 ·obtain⟨cs,fr,hty⟩:=hl.ty b off hA;exact⟨cs,fr,(key b cs fr hty).trans hty⟩
structure RdL(B L:Nat)(v:Value)(ps:List Ax)(R:Nat->List Rat)(W:World):Prop where
 hd:W.ownsRow B 25 1 v ps.length (ps.flatMap (slE L))
 row:∀t,t<ps.length->Lzt W (pX ps t).1 (R t)
section
variable {B L g c n:Nat} {v v':Value} {ps:List Ax} {R R':Nat->List Rat} {u w':World} {P:Ax}
theorem RdL.start(B L:Nat)(R:Nat->List Rat)(u:World):RdL B L (.slice none 0 0) [] R u:=⟨B9x _ _ _ _,λt ht=>absurd ht (C0C _)⟩
theorem RdL.grow(h:RdL B L v ps R u)(hg:A4 u w'):RdL B L v ps R w':=⟨C5 h.hd hg,λt ht=>(h.row t ht).grow hg⟩
theorem RdL.congr(h:RdL B L v ps R u)(he:∀t,t<ps.length->R' t=R t):RdL B L v ps R' u:=⟨h.hd,λt ht=>by rw[he t ht];exact h.row t ht⟩
theorem RdL.add{o:Obj}(h:RdL B L v ps R u)(hP:Lzt u P.1 (R ps.length))(h1:w'.ownsRow B 25 1 v' (ps.length+1) (ps.flatMap (slE L)++slE L P))(hg:(u.alloc o).grownBy w' v.ownBlock):RdL B L v' (ps++[P]) R w' :=
 ⟨by rw[List.length_append,B97];simpa using h1,λt ht=>by
  rw[B3z];by_cases e:t=ps.length
  ·rw[if_pos e,e];exact hP.stay h.hd (by decide) (by decide) hg
  ·rw[if_neg e];rw[List.length_append,List.length_singleton]at ht
   exact(h.row t (by omega)).stay h.hd (by decide) (by decide) hg⟩
theorem RdL.put(h:RdL B L (.slice (some ⟨g,0,none⟩) n c) ps R u)(hn:ps.length=n){i:Nat}(hi:i<n)(hP:Lzt u P.1 (R' i))(hR:∀t,t<n->t≠i->R' t=R t)(hu:C7 u g i [slV L P]=w'):RdL B L (.slice (some ⟨g,0,none⟩) n c) (ps.set i P) R' w'/\u.grownBy w' (some g):=by
 subst hn;have h1:=P6 (enc:=slE L) (size:=1) (ps:=ps) (λ_=>rfl) h.hd i P hi;rw[B9P]at h1;rw[show C7 u g i (slE L P)=w' from hu]at h1;refine⟨⟨by rw[B8r];exact h1.1,λt ht=>?_⟩,h1.2⟩;rw[B8r]at ht;rw[B6D hi];by_cases e:t=i
 ·rw[if_pos e,e];exact hP.kept h.hd (by decide) (by decide) h1.2
 ·rw[if_neg e,hR t ht e];exact(h.row t ht).kept h.hd (by decide) (by decide) h1.2
theorem RdL.fz(h:RdL B L (.slice (some ⟨g,0,none⟩) n c) ps R u)(hn:ps.length=n):∀j,u.frozen? ⟨g,j,none⟩=false:=by
 subst hn;exact λj=>h.hd.frozenAt j
theorem RdL.read(h:RdL B L (.slice (some ⟨g,0,none⟩) n c) ps R u)(hn:ps.length=n){i:Nat}(hi:i<n):u.cell? ⟨g,i,none⟩=some (slV L (pX ps i)):=by
 subst hn;have h1:=V6 (enc:=slE L) (size:=1) (λ_=>rfl) h.hd rfl i 0 hi (by omega);rw[B9P,Nat.add_zero]at h1;rw[h1,<-B2F hi];rfl
theorem RdL.swap(h:RdL B L (.slice (some ⟨g,0,none⟩) n c) ps R u)(hn:ps.length=n){i j:Nat}(hi:i<n)(hj:j<n)(hR:∀t,t<n->R' t=if t=i then R j else if t=j then R i else R t)(hu:C7 (C7 u g i [slV L (pX ps j)]) g j [slV L (pX ps i)]=w'):RdL B L (.slice (some ⟨g,0,none⟩) n c) ((ps.set i (pX ps j)).set j (pX ps i)) R' w'/\u.grownBy w' (some g):=by
 obtain⟨u1,hu1⟩:∃x,C7 u g i [slV L (pX ps j)]=x:=⟨_,rfl⟩
 rw[hu1]at hu;obtain⟨p1,p2⟩:=h.put (R':=λt=>if t=i then R j else R t) hn hi (P:=pX ps j) (by rw[if_pos rfl];exact h.row j (by omega)) (λt _ e=>by rw[if_neg e]) hu1;have hl:=(h.row i (by omega)).kept h.hd (by decide) (by decide) p2
 obtain⟨q1,q2⟩:=p1.put (R':=R') (by rw[B8r];exact hn) hj (P:=pX ps i) (by
  rw[hR j hj];by_cases e:j=i
  ·rw[if_pos e,e];exact hl
  ·rw[if_neg e,if_pos rfl];exact hl) (λt ht e=>by
  show R' t=if t=i then R j else R t
  rw[hR t ht];by_cases e2:t=i
  ·rw[if_pos e2,if_pos e2]
  ·rw[if_neg e2,if_neg e2,if_neg e]) hu
 exact⟨q1,B0c p2 q2⟩
theorem RdL.elem(h:RdL B L (.slice (some ⟨g,0,none⟩) n c) ps R u)(hn:ps.length=n){i:Nat}(hi:i<n)(hl:(R i).length=L){k:Nat}(hk:k<L):∃(b o d:Nat) (p:Az),pX ps i=(some ⟨b,o,none⟩,d)/\∀W,A4 u W->W.cell? ⟨g,i,none⟩=some (.slice (some ⟨b,o,none⟩) L d)/\Rz W p (gq (R i) k)/\Cz W b (o+k*3) p (gq (R i) k):=by
 have h1:=h.row i (by omega);obtain⟨b,o,e⟩:=h1.lz.addr (by omega);obtain⟨⟨a,d⟩,hP⟩:∃P,P=pX ps i:=⟨_,rfl⟩
 rw[<-hP]at h1 e;simp only at e;subst e;obtain⟨p,hp⟩:=h1.lz.read (i:=k) (by omega);refine⟨b,o,d,p,hP.symm,λW hg=>⟨?_,hp W hg⟩⟩;have h2:=(h.grow hg).read hn hi;rw[<-hP]at h2;exact h2
end
theorem B0B{n L:Nat}{s:Gs}{c:Nat}(h:n<=(C0 n L s c).2.length):∀d,C0 n L s (c+d)=C0 n L s c
 | 0=>rfl
 | d+1=>by
  show L0 n L (C0 n L s (c+d)) (c+d)=_;rw[B0B h d];unfold L0;rw[if_neg];have:A0F n (C0 n L s c) (c+d)=(C0 n L s c).2.length:=A8F h;omega
theorem B0Z(b:Nat)(l:List Rat)(m c ba oa:Nat)(hl:l.length=m)(hm:0<m)(hm2:m<=1000)(v:World)(h:Lz v (some ⟨ba,oa,none⟩) l) :
  ∃(x:Ax) (w':World),(Builtin.append_ #[25,25] 25 #[.slice (some ⟨b,0,none⟩) 0 0,.slice (some ⟨ba,oa,none⟩) m c]).run Tryz.prog v = .ok (.slice x.1 m x.2) w'/\(∃ps:List Zr,ps.map (·.2)=l/\E6 w' ps/\w'.ownsRow v.heap.size 33 3 (.slice x.1 m x.2) m (ps.flatMap zrL))/\A4 v w':=by
 obtain⟨hund,⟨i0,z0,hi0,hz0,hz1,hz2,hz3⟩,hpos⟩:=X4;obtain⟨b',off,e,hb,hc⟩:=h (λe=>by rw[e]at hl;simp at hl;omega);cases e;have hex:∀i,∃p:Az,i<m->(Rz v p (gq l i)/\Cz v ba (oa+i*3) p (gq l i)):=λi=>by
  by_cases hi:i<m
  ·obtain⟨p,hp⟩:=hc i (by omega);exact⟨p,λ_=>hp⟩
  ·exact⟨((none,0),(none,0)),λh=>absurd h hi⟩
 obtain⟨f,hf⟩:=Classical.skolem.1 hex;obtain⟨ps,hps⟩:∃ps:List Zr,ps=(List.range m).map λi=>(f i,gq l i):=⟨_,rfl⟩
 have hpl:ps.length=m:=by rw[hps];simp
 have hpm:ps.map (·.2)=l:=by
  rw[hps,List.map_map];apply B8I
  ·simp[hl]
  ·intro i h1 h2;simp only[List.getElem_map,List.getElem_range,Function.comp];unfold gq;rw[B8i h2];rfl
 have hpi:∀i,(hi:i<ps.length)->ps[i]=(f i,gq l i):=λi hi=>by
  simp only[hps,List.getElem_map,List.getElem_range]
 have hA:E6 v ps:=λr hr=>by
  obtain⟨i,hi,e⟩:=B9w hr;rw[<-e,hpi i hi];exact(hf i (by omega)).1
 have hfl:(ps.flatMap zrL).length=m*3:=by rw[A1n (enc:=zrL) (size:=3) (λ_=>rfl) ps,hpl]
 have key:∀j u,(ps.flatMap zrL)[j]?=some u->v.cell? ((⟨ba,oa,none⟩:Addr).add j)=some u:=λj u hj=>by
  have hjl:j<m*3:=by
   have:=(List.getElem?_eq_some_iff.1 hj).1;rw[hfl]at this;exact this
  have h1:j/3<ps.length:=by omega
  have h2:=A4H (enc:=zrL) (size:=3) (λ_=>rfl) ps (j/3) (j%3) h1 (by omega);rw[show j/3*3+j%3=j by omega,hj,hpi _ h1]at h2;obtain⟨c1,c2,c3⟩:=(hf (j/3) (by omega)).2;rw[B8l];have h3:j%3=0\/j%3=1\/j%3=2:=by omega
  rcases h3 with h3|h3|h3
  ·rw[h3]at h2;rw[show oa+j=oa+j/3*3 by omega,c1,h2];rfl
  ·rw[h3]at h2;rw[show oa+j=oa+j/3*3+1 by omega,c2,h2];rfl
  ·rw[h3]at h2;rw[show oa+j=oa+j/3*3+2 by omega,c3,h2];rfl
 obtain⟨v',w',hr,ho,hg⟩:=run_append_arg_grows (P:=Tryz.prog) v 25 25 33 i0 z0 3 _ hund hi0 hz0 hz1 hz2 hz3 hpos ⟨b,0,none⟩ 0 0 [] rfl (λj u h=>by simp at h) ⟨ba,oa,none⟩ m c (ps.flatMap zrL) hfl key (by omega) (by unfold maxLen;omega) (by omega);rw[Nat.zero_add,List.nil_append]at ho;have hG:A4 v w':=⟨hg.os,hg.tape,hg.output,hg.size,λk hk=>hg.block k hk (λe=>by cases e)⟩
 obtain⟨gg,cap,rfl,-,-⟩:=N0 ho hm;exact⟨(some ⟨gg,0,none⟩,cap),w',hr,⟨ps,hpm,hA.grow hG,ho⟩,hG⟩
def V8(ps:List Ax)(R:Nat->List Rat)(K:Nat):List Rq:=(List.range K).map λi=>((pX ps i).1,(pX ps i).2,R i)
theorem RdL.lrz{B L g c n K:Nat}{ps:List Ax}{R:Nat->List Rat}{u:World}(h:RdL B L (.slice (some ⟨g,0,none⟩) n c) ps R u)(hn:ps.length=n)(hK:K<=n)(hl:∀i,i<K->(R i).length=L):Lrz u (some ⟨g,0,none⟩) (V8 ps R K):=λhne=>by
 refine⟨g,0,rfl,(h.hd.lt g rfl).2,λi r hi=>?_⟩;unfold V8 at hi;rw[List.getElem?_map]at hi;obtain⟨k,hk,rfl⟩:=Option.map_eq_some_iff.1 hi;have hiK:i<K:=by
  have:=(List.getElem?_eq_some_iff.1 hk).1
  simpa using this
 have hki:k=i:=by
  rw[B98 hiK]at hk;exact(B78 hk).symm
 subst hki;rw[Nat.zero_add,h.read hn (by omega)];simp only;rw[hl k hiK];exact⟨rfl,(h.row k (by omega)).lz⟩
theorem A3O:EI 24 25 1 24:=A03 (by kernel_rfl) (by kernel_rfl) (by omega)
theorem A8u(A:Option Addr)(n c:Nat)(w:World):(Instr.buildSlice 24 1 #[(0,.slice A n c)]).run Tryz.prog w = .ok (.slice (some ⟨w.heap.size,0,none⟩) 1 1) (w.alloc (.cells #[.slice A n c] 25)):=by
 go_simp
theorem B7Q{X:List (List Rat)}{L i:Nat}(h:(B6 X i).length=L):B6 X i=C9 (D7 X) L i :=
 A6u (n:=L) h (P4 _ _ _) λj hj=>by rw[A1E hj];rfl
theorem B1K(M:Mx)(L r:Nat)(k:Rat):A4A (C9 M L r) k L=C9 (I8 M r k L) L r:=by
 unfold A4A C9;refine B96 λj hj=>?_;have hj:=List.mem_range.1 hj;rw[show gq ((List.range L).map (M r)) j=M r j from S6 _ hj];unfold I8;rw[if_pos ⟨rfl,hj⟩]
theorem B08(M:Mx)(L i r:Nat)(k:Rat):A1b (C9 M L i) (C9 M L r) k L=C9 (I4 M i r k L) L i:=by
 unfold A1b;show _=(List.range L).map (I4 M i r k L i);refine B96 λj hj=>?_;have hj:=List.mem_range.1 hj;rw[show gq (C9 M L i) j=M i j from S6 _ hj,show gq (C9 M L r) j=M r j from S6 _ hj];unfold I4;rw[if_pos ⟨rfl,hj⟩]
theorem A9m{M M':Mx}{L i:Nat}(h:M' i=M i):C9 M' L i=C9 M L i:=by unfold C9;rw[h]
theorem A7Y(A:Option Addr)(rs:List Rq)(n Lw c:Nat)(hn:rs.length=n)(hn1:1<=n)(hn2:n<=300)(hL1:1<=Lw)(hL2:Lw<=20)(hrl:∀r∈rs,r.2.2.length=Lw)(s:Nat)(hs1:1<=s)(hs:∀i,i<n->∀j,j<Lw->qs (gq (B6 (rs.map (·.2.2)) i) j)<=s)(hBz:30*(s*10^Lw)<=BIG)(w:World)(h:Lrz w A rs) :
  Calls Tryz.prog 70 #[.slice A n c] w (E9 (λx:Nat×Nat×Ax×List Ax=>.tuple #[.slice (some ⟨x.1,0,none⟩) (C0 n Lw (D7 (rs.map (·.2.2)),[]) Lw).2.length x.2.1,.slice x.2.2.1.1 (C0 n Lw (D7 (rs.map (·.2.2)),[]) Lw).2.length x.2.2.1.2]) (λx W=>Lrz W (some ⟨x.1,0,none⟩) (V8 x.2.2.2 (C9 (C0 n Lw (D7 (rs.map (·.2.2)),[]) Lw).1 Lw) (C0 n Lw (D7 (rs.map (·.2.2)),[]) Lw).2.length)/\Li W x.2.2.1.1 (I2 (C0 n Lw (D7 (rs.map (·.2.2)),[]) Lw).2)) w):=by
 have hBm:=I6;obtain⟨bb,ob,P0,eA,hP0,hl0⟩:=A0i hn hrl h (i:=0) (by omega);have hr0:=λW hg=>(hP0 W hg).1;simp only[Nat.add_zero]at hr0;obtain⟨M0,hM0⟩:∃M,M=D7 (rs.map (·.2.2)):=⟨_,rfl⟩
 have hz0:szM M0 n Lw s:=by rw[hM0];exact hs
 have hat:∀i,i<n->∃(ba oa ca:Nat),∀W,A4 w W->W.cell? ⟨bb,ob+i,none⟩=some (.slice (some ⟨ba,oa,none⟩) Lw ca)/\∀b,∃(x:Ax) (w':World),(Builtin.append_ #[25,25] 25 #[.slice (some ⟨b,0,none⟩) 0 0,.slice (some ⟨ba,oa,none⟩) Lw ca]).run Tryz.prog W = .ok (.slice x.1 Lw x.2) w'/\Lzt w' x.1 (C9 M0 Lw i)/\A4 W w':=λi hi=>by
  obtain⟨b',o',⟨P1,P2⟩,e,hP,hl⟩:=A0i hn hrl h hi;rw[eA]at e;cases e;obtain⟨h1,h2⟩:=hP w (A4.refl w);obtain⟨ba,oa,e1⟩:=h2.addr (by omega);simp only at e1;subst e1;refine⟨ba,oa,P2,λW hg=>⟨(hP W hg).1,λb=>?_⟩⟩;obtain⟨x,w',g1,⟨ps,g2,g3,g4⟩,g5⟩:=B0Z b _ Lw P2 ba oa hl (by omega) (by omega) W (hP W hg).2;obtain⟨A',c',e2,-,-,g6,-⟩:=A1N g4 g3;cases e2;rw[g2,B7Q hl,<-hM0]at g6;exact⟨x,w',g1,g6,g5⟩
 rw[<-hM0];have hgz:∀k,k<=Lw->szM (C0 n Lw (M0,[]) k).1 n Lw (s*10^Lw):=λk hk=>(A4J (s:=(M0,[])) hz0 hs1 k hk).mono (B9L _ (B8Z (by omega) hk));have hgl:∀k,k<=Lw->(C0 n Lw (M0,[]) k).2.length<=n:=λk hk=>(A5z (s:=(M0,[])) (B8k _) (λx hx=>(by cases hx)) k hk).1;obtain⟨Z,hZ⟩:∃Z,Z=s*10^Lw:=⟨_,rfl⟩
 rw[<-hZ]at hBz hgz;have hZ1:1<=Z:=by rw[hZ];exact B8n hs1 (B9t (by omega))
 have hni:(0:Int)<(n:Int):=by omega
 have hnp:0<n:=by omega
 obtain⟨FG,hFG⟩:∃x,x=C0 n Lw (M0,[]) Lw:=⟨_,rfl⟩
 rw[<-hFG];subst eA;have Hat:=B8S hat;have Hr0:=B8S hr0;have Hgz:=B8S hgz;have Hgl:=B8S hgl;have HFG:=B8S hFG;clear hat hP0 hl0 hr0 hM0 hz0 hgz hgl hZ hs hs1 h hrl hn hFG;go_enter Tryz.func70,Tryz.ntmps70;refine en0 ?_;intro u hG hB hF;refine r0T ?_;refine B8N ?_;refine r0T ?_;refine B8v ?_;clear hB hF;go_loopw [5,4] (λs0 s1 wr=>∃(i:Nat) (ps:List Ax),i<=n/\s0 = .int .i64 i/\ps.length=i/\RdL w.heap.size Lw s1 ps (C9 M0 Lw) wr/\A4 w wr) (λs0 _ _=>n-(intOf s0).toNat)
 case atStart=>exact⟨0,[],B8k _,rfl,rfl,RdL.start _ _ _ _,hG⟩
 case round =>
  clear hG;obtain⟨i,ps,hi,rfl,hpl,hR,hG⟩:=hrel;obtain⟨u,rfl⟩:=exQ wr;have hB:=Bx.nil u;have hF:=Fr.nil w;have HR:=B8S hR;have Hpl:=B8S hpl;have ho:=hR.hd;rw[hpl]at ho;have Ho:=B8S ho;clear hR hpl ho;rcases B73 i n with hlt|hge
  ·have hdec:decide ((i:Int)<(n:Int))=true:=by simp;omega
   have hps:ps.length<=300:=by have:=Hpl.out;omega
   have hin:(i:Int)<(n:Int):=by omega
   obtain⟨ba,oa,ca,hrd⟩:=Hat.out i hlt;have Hrd:=B8S hrd;clear hrd;refine B8N ?_;refine r0T ?_;refine B8V (rfl) ?_;refine B8U ?_;refine A6 ?_;refine B8N ?_;refine B8v ?_;refine M4 (w:=w) A8 7 [0,1,0,0,0,0,1] (by kernel_rfl) (by simp only[List.drop_succ_cons,List.drop_zero];exact rfl) (λ_=>True) noG hB hG trivial ?_;intro K L hN hL;simp only[List.zip_cons_cons,List.zip_nil_left];refine gs ?_;refine gx Nat (λb=>.slice (some ⟨b,0,none⟩) 0 0) (λb W=>True) (λb u u' hg h=>h) rfl ?_ (λx18=>?_)
   ·(rintro v ⟨hgu,hB,hG,-⟩ N hN;go_simp;exact hN v.heap.size _ (trivial) (A4.alloc _ _))
   refine okf (by simp only[Act.put,List.setIfInBounds_toArray,List.set_cons_succ,List.set_cons_zero];exact rfl) ?_
   repeat first|refine gya ?_|refine gyr ?_|refine gna ?_|refine gyb (by(rintro v ⟨⟨hgu,hB,hG,-⟩,hx18⟩ N hN;have r:=hB.r;simp only[BxR]at r;have q0:=(Hrd.out v hG).1;go_simp;exact hN)) ?_
   refine gx Ax (λx:Ax=>.slice x.1 Lw x.2) (λx W'=>Lzt W' x.1 (C9 M0 Lw i)) (λx u u' hg h=>h.grow hg) rfl ?_ (λx23=>?_)
   ·(rintro v ⟨⟨hgu,hB,hG,-⟩,-⟩ N hN;obtain⟨-,happ⟩:=Hrd.out v hG;obtain⟨x,w9,hr,h1,h2⟩:=happ x18;exact A8y _ _ _ (by rfl) (by rfl) (by rfl) hr (hN x w9 h1 h2))
   refine okf (by simp only[Act.put,List.setIfInBounds_toArray,List.set_cons_succ,List.set_cons_zero];exact rfl) ?_;refine H8 ?_;rintro v ⟨⟨⟨hgu,hB1,hG1,-⟩,hx18⟩,hx23⟩;have ROWn:=B8S (C5 Ho.out hgu);clear Ho;have Ho:=ROWn;clear ROWn;have HR2:=B8S (HR.out.grow hgu);clear HR;have HR:=HR2;clear HR2;clear hB hG;have hB:=hB1;have hG:=hG1;clear hB1 hG1;refine hL _ _ ?_;clear hL L hgu;obtain⟨u,rfl⟩:=exQ v;refine L6 A3O w.heap.size _ _ _ _ [.slice x23.1 Lw x23.2] rfl rfl (A8u x23.1 Lw x23.2 u) rfl (λ_=>rfl) (λ_=>rfl) (λ_ _=>rfl) Ho.out (by omega) (by omega) hG.sz λp v' w' g1 g2 g3=>?_;have hBn:=Bx.nil w';have HR2:=B8S (RdL.add (P:=x23) HR.out (by rw[Hpl.out];exact hx23) (by rw[Hpl.out];exact g1) g2);clear HR;have HR:=HR2;clear HR2;have hGn:=K3 Ho.out hG g2;clear Ho hB hG;have Ho:=B8S g1;have hB:=hBn;have hG:=hGn;clear g1 g2 g3 hBn hGn;obtain⟨u,rfl⟩:=exQ w';simp only[Act.put,List.setIfInBounds_toArray,List.set_cons_succ,List.set_cons_zero];refine NoK.norm (hN _ _ ?_);clear hN K;refine C8 ?_;refine A6 ?_;refine r0E ?_;refine A6 ?_;go_roundw
   case rel=>exact⟨i+1,ps++[x23],by omega,by go_num,by rw[List.length_append,Hpl.out];rfl,HR.out,hG⟩
   case measure=>simp[intOf];omega
  ·obtain rfl:n=i:=by omega
   have hdec:decide ((n:Int)<(n:Int))=false:=by simp
   obtain⟨g,c0,rfl,-,hc0⟩:=N0 Ho.out (by omega);clear Ho;refine B8N ?_;refine r0T ?_;refine B8T (rfl) ?_;refine B8x ?_;refine B7 ?_;refine B7 ?_;refine D0 ?_;refine A6 ?_;refine r0T ?_;refine r0T ?_;refine B8N ?_;refine r0T ?_;refine B8v ?_;clear hB hF;go_loopw [8,7,6] (λs0 s1 s2 wr=>∃(k:Nat) (ps:List Ax) (r:Nat) (lv:Value),k<=Lw/\s0 = .int .i64 k/\s1 = .int .i64 r/\lv=s2/\r=(C0 n Lw (M0,[]) k).2.length/\ps.length=n/\RdL w.heap.size Lw (.slice (some ⟨g,0,none⟩) n c0) ps (C9 (C0 n Lw (M0,[]) k).1 Lw) wr/\wr.ownsRow w.heap.size 3 1 lv r (O9 (I2 (C0 n Lw (M0,[]) k).2))/\A4 w wr) (λs0 _ _ _=>Lw-(intOf s0).toNat)
   case atStart=>exact⟨0,ps,0,_,B8k _,rfl,rfl,rfl,rfl,Hpl.out,HR.out,B9x _ _ _ _,hG⟩
   case round =>
    clear hG HR Hpl;obtain⟨k,ps,r,lv,hk,rfl,rfl,rfl,hr,hpl,hR,ho,hG⟩:=hrel;obtain⟨u,rfl⟩:=exQ wr;have hB:=Bx.nil u;have hF:=Fr.nil w;have hgl1:=Hgl.out k hk;have hgz:=Hgz.out k hk;have hstep:C0 n Lw (M0,[]) (k+1)=L0 n Lw (C0 n Lw (M0,[]) k) k:=rfl;have hfull:n<=r->FG=C0 n Lw (M0,[]) k:=λh=>by
     have:=B0B (s:=(M0,[])) (L:=Lw) (c:=k) (n:=n) (by rw[<-hr];exact h) (Lw-k);rw[show k+(Lw-k)=Lw by omega]at this;rw[HFG.out,this]
    obtain⟨⟨M,le⟩,hG0⟩:∃G,G=C0 n Lw (M0,[]) k:=⟨_,rfl⟩
    rw[<-hG0]at hgl1 hgz hR ho hstep hr hfull;simp only at hgl1 hgz hR ho hr;have HG0:=B8S hG0;have Hr:=B8S hr;have Hfull:=B8S hfull;have Hpl:=B8S hpl;clear hG0 hpl hfull;rw[<-hr]at hgl1;have Ho:=B8S ho;have HR:=B8S hR;clear ho hR;rcases B73 k Lw with hlt|hge
    ·have hdec:decide ((k:Int)<(Lw:Int))=true:=by simp;omega
     have hkL:(k:Int)<(Lw:Int):=by omega
     rcases B73 r n with hrn|hrn
     ·have fr:decide ((r:Int)<(n:Int))=true:=by simp;omega
      have hrni:(r:Int)<(n:Int):=by omega
      obtain⟨P,hP⟩:∃P,P=K8 M n r k:=⟨_,rfl⟩
      obtain⟨q1,q2,q3,q4⟩:=A16 (λi=>decide (M i k=0)) (n-r) r;have hPle:P<=n:=by rw[hP];unfold K8;omega
      have hPge:r<=P:=by rw[hP];exact q1
      have hpz:∀i,r<=i->i<P->M i k=0:=λi h1 h2=>(A0s M n r k).2 i h1 (by rw[<-hP];exact h2);have hpn:P<n->M P k≠0:=λh=>by rw[hP]at h⊢;exact((A0s M n r k).1 h).2
      have hnext:P<n->L0 n Lw (M,le) k=(H9 (I8 (J5 M r P) r (Q9 (B9 1) (J5 M r P r k)) Lw) r k Lw n,le++[k]):=λhp=>by
       have h1:=A8B (n:=n) (L:=Lw) (c:=k) (M:=M) (le:=le) (by rw[<-hr,<-hP];exact hp);rw[<-hr,<-hP]at h1;exact h1
      have hno:¬P<n->L0 n Lw (M,le) k=(M,le):=λh=>A8k (by rw[<-hr,<-hP];exact h);have Hpz:=B8S hpz;have Hpn:=B8S hpn;have Hnext:=B8S hnext;have Hno:=B8S hno;have Hstep:=B8S hstep;have Hz:=B8S hgz;clear hpz hpn hnext hno hstep hgz hP q1 q2 q3 q4 hr;refine B8N ?_;refine B8N ?_
      (first|have q0:=Hr0.out u hG|skip)
      refine r0N ?_;refine B8V (rfl) ?_;refine B8U ?_;refine A6 ?_;refine B8N ?_;refine B8v ?_;refine r0T ?_;refine B8N ?_;refine B8v ?_;clear hB hF;go_loopw [9] (λs0 wr=>∃(p:Nat),r<=p/\p<=P/\s0 = .int .i64 p/\RdL w.heap.size Lw (.slice (some ⟨g,0,none⟩) n c0) ps (C9 M Lw) wr/\wr.ownsRow w.heap.size 3 1 lv r (O9 (I2 le))/\A4 w wr) (λs0 _=>P-(intOf s0).toNat)
      case atStart=>exact⟨r,K2 _,hPge,rfl,HR.out,Ho.out,hG⟩
      case round =>
       clear hG HR Ho;obtain⟨p,hrp,hpP,rfl,hR,ho,hG⟩:=hrel;obtain⟨u,rfl⟩:=exQ wr;have hB:=Bx.nil u;have hF:=Fr.nil w;have HR:=B8S hR;have Ho:=B8S ho;clear ho hR;rcases B73 p n with hpn|hpn
       ·have fp:decide ((p:Int)<(n:Int))=true:=by simp;omega
        have hpni:(p:Int)<(n:Int):=by omega
        obtain⟨bp,op,dp,pz,hpx,hrd⟩:=HR.out.elem Hpl.out hpn (P4 M Lw p) hlt;rw[A1E hlt]at hrd;obtain⟨X,hX⟩:∃x,x=M p k:=⟨_,rfl⟩
        rw[<-hX]at hrd;have hsg:=λ(W:World)=>A6l pz.1 pz.2 X W;have hs0:=@B0V X;obtain⟨S,hS⟩:∃S,S=X.num.sign:=⟨_,rfl⟩
        rw[<-hS]at hs0;simp only[<-hS]at hsg;have Hrd:=B8S hrd;have Hsg:=B8S hsg;clear hrd hsg hS hpx;rcases B73 p P with hlp|hgp
        ·have fs:(S == 0)=true:=by rw[hs0,hX,Hpz.out p hrp hlp];rfl
         clear hs0 hX;refine B8N ?_;refine B8N (rsE A8 [0,0,0,0,0,0,0,0,0,0,0,0,1,0,0] hB hG λL hL=>?_)
         repeat first|refine gya ?_|refine gyr ?_|refine gna ?_|refine gyb (by(rintro v ⟨hgu,hB,hG,-⟩ N hN;have r:=hB.r;simp only[BxR]at r;obtain⟨q0,-,z1,z2,z3⟩:=Hrd.out v hgu;go_simp;exact hN)) ?_
         first|refine gmw (C:=λv=>Hsg.out _) ?_|refine J6 ?_
         refine gs ?_;refine geT hL ?_;clear hB hG hL L;rintro u ⟨hgu,hB,hG,-⟩;have HR2:=B8S (HR.out.grow hgu);have Ho2:=B8S (C5 Ho.out hgu);clear HR Ho;have HR:=HR2;have Ho:=Ho2;clear HR2 Ho2;clear hgu;refine B8V (rfl) ?_;refine B8U ?_;refine A6 ?_;refine B8v ?_;refine r0E ?_;refine C8 ?_;refine A6 ?_;go_roundw
         case rel=>exact⟨p+1,by omega,by omega,by go_num,HR.out,Ho.out,hG⟩
         case measure=>simp[intOf];omega
        ·obtain rfl:P=p:=by omega
         have fs:(S == 0)=false:=by rw[hs0,hX];exact B9C (Hpn.out hpn)
         have fPn:((P:Int) == (n:Int))=false:=by simp;omega
         have hnx:=Hnext.out hpn;have hst:=Hstep.out;rw[hnx]at hst;have hD0:J5 M r P r k≠0:=by rw[A5M];exact Hpn.out hpn
         have hz1:szM (J5 M r P) n Lw Z:=A5P Hz.out hrn hpn;obtain⟨M1,hM1⟩:∃x,x=J5 M r P:=⟨_,rfl⟩
         rw[<-hM1]at hst hD0 hz1;have HM1:=B8S hM1;have zd:=A6n (B9 1) (M1 r k);have z1:=hz1 r hrn k hlt;have zo:qs (B9 1)<=1:=by decide
         obtain⟨D,hD⟩:∃x,x=M1 r k:=⟨_,rfl⟩
         rw[<-hD]at hst hD0 zd z1;obtain⟨kk,hkk⟩:∃x,x=Q9 (B9 1) D:=⟨_,rfl⟩
         have hdv:∀(W:World) (x p:Az),Rz W x (B9 1)->Rz W p D->Calls Tryz.prog 108 #[rqV x.1 x.2 (B9 1),rqV p.1 p.2 D] W (Ret (F7 kk) W):=λW x p h1 h2=>by
          rw[hkk];exact B35 _ _ _ _ _ _ W h1.a h1.b h2.a h2.b (by omega) hD0
         have zk:qs kk<=Z+1:=by rw[hkk];unfold Q9;omega
         rw[<-hkk]at hst;have Hdv:=B8S hdv;have Hst:=B8S hst;have Hz1:=B8S hz1;have HD:=B8S hD;clear hs0 hX hnx hst hD0 hz1 hM1 zd z1 zo hkk hdv hD;refine B8N ?_;refine B8N (rsE A8 [0,0,0,0,0,0,0,0,0,0,0,0,1,0,0] hB hG λL hL=>?_)
         repeat first|refine gya ?_|refine gyr ?_|refine gna ?_|refine gyb (by(rintro v ⟨hgu,hB,hG,-⟩ N hN;have r:=hB.r;simp only[BxR]at r;(try obtain⟨q0,-,z1,z2,z3⟩:=Hrd.out v hgu);(try have q1:=(HR.out.grow hgu).read Hpl.out hrn);(try have q2:=(HR.out.grow hgu).read Hpl.out hpn);(try obtain⟨p0,-,z4,z5,z6⟩:=Hrd3.out v hgu);go_simp;exact hN)) ?_
         first|refine gmw (C:=λv=>Hsg.out _) ?_|refine J6 ?_
         refine gs ?_;refine geT hL ?_;clear hB hG hL L;rintro u ⟨hgu,hB,hG,-⟩;have HR2:=B8S (HR.out.grow hgu);have Ho2:=B8S (C5 Ho.out hgu);clear HR Ho;have HR:=HR2;have Ho:=Ho2;clear HR2 Ho2;clear hgu;refine B8T (rfl) ?_;refine B8x ?_;refine B7 ?_;refine B7 ?_;refine D0 ?_;refine A6 ?_;refine B8N ?_;refine r0T ?_;refine B8T (rfl) ?_;refine B8U ?_;refine A6 ?_;refine B8N (rdC A8 [2,3] [(0,0),(0,1),(0,2),(0,3),(0,4),(0,5),(0,6),(0,7),(0,8),(0,9),(0,10),(0,11),(0,12)] hB hG λK L hN hL=>?_)
         repeat first|refine gya ?_|refine gyr ?_|refine gna ?_|refine gyb (by(rintro v ⟨hgu,hB,hG,-⟩ N hN;have r:=hB.r;simp only[BxR]at r;(try obtain⟨q0,-,z1,z2,z3⟩:=Hrd.out v hgu);(try have q1:=(HR.out.grow hgu).read Hpl.out hrn);(try have q2:=(HR.out.grow hgu).read Hpl.out hpn);(try obtain⟨p0,-,z4,z5,z6⟩:=Hrd3.out v hgu);go_simp;exact hN)) ?_
         refine geC hL ?_;clear hB hG hL L;rintro u ⟨hgu,hB,hG,-⟩;have HR2:=B8S (HR.out.grow hgu);have Ho2:=B8S (C5 Ho.out hgu);clear HR Ho;have HR:=HR2;have Ho:=Ho2;clear HR2 Ho2;have q0:=HR.out.read Hpl.out hrn;have q1:=HR.out.read Hpl.out hpn;have hfz:=HR.out.fz Hpl.out;have hx1:∃x,(World.setCell u ⟨g,r,none⟩ (slV Lw (pX ps P))).cell? ⟨g,P,none⟩=some x:=A8T q0 q1;obtain⟨xx,hx1⟩:=hx1;clear hgu;refine gtT ?_;clear hN K;clear q0 q1 hfz hx1;generalize hu0:World.setCell (World.setCell u _ _) _ _=u0
         have hS:=HR.out.swap (R':=C9 M1 Lw) Hpl.out hrn hpn (λt ht=>by
          rw[HM1.out];show(List.range Lw).map (J5 M r P t)=_;unfold J5;by_cases e1:t=r
          ·rw[if_pos e1,if_pos e1];rfl
          ·rw[if_neg e1,if_neg e1];by_cases e2:t=P
           ·rw[if_pos e2,if_pos e2];rfl
           ·rw[if_neg e2,if_neg e2];rfl) (show C7 (C7 u g r [slV Lw (pX ps P)]) g P [slV Lw (pX ps r)]=u0 from hu0)
         have hG2:A4 w u0:=O5 HR.out.hd hG hS.2;have Ho2:=B8S (A0o Ho.out HR.out.hd (by decide) hS.2);have Hpl1:=B8S (show((ps.set r (pX ps P)).set P (pX ps r)).length=n by rw[B8r,B8r];exact Hpl.out);obtain⟨ps1,hps1⟩:∃x,x=(ps.set r (pX ps P)).set P (pX ps r):=⟨_,rfl⟩
         have hS1:=hS.1;rw[<-hps1]at hS1 Hpl1;have HR2:=B8S hS1;clear hB hG HR Ho hS hS1 hu0 hps1;have hG:=hG2;have hB:=Bx.nil u0;have HR:=HR2;have Ho:=Ho2;clear hG2 HR2 Ho2;obtain⟨u,rfl⟩:=exQ u0;obtain⟨br,or,dr,pr,hpx,hrd⟩:=HR.out.elem Hpl1.out hrn (P4 M1 Lw r) hlt;rw[A1E hlt,<-HD.out]at hrd;have htm:∀(W:World) (x:Az),A4 u W->Rz W x kk->Calls Tryz.prog 27 #[.slice (some ⟨br,or,none⟩) Lw dr,rqV x.1 x.2 kk] W (E9 (λy:Ax=>.slice y.1 Lw y.2) (λy W'=>Lzt W' y.1 (C9 (I8 M1 r kk Lw) Lw r)) W):=λW x hg hx=>by
          have h1:=(HR.out.row r (by rw[Hpl1.out];exact hrn)).lz.grow hg;rw[hpx]at h1;rw[<-B1K];exact B6H _ _ Lw dr kk x (P4 M1 Lw r) (by omega) Z (λj hj=>by rw[A1E hj];exact Hz1.out r hrn j hj) (by omega) W h1 hx
         have Hrd3:=B8S hrd;have Htm:=B8S htm;clear hrd htm hpx;refine B8N (rdC A8 [] [(0,0),(0,1),(0,2),(0,3),(0,4),(0,5),(0,7),(0,8),(0,9),(0,10),(0,11),(0,12),(0,13),(1,6),(1,14),(1,15),(0,16)] hB hG λK L hN hL=>?_)
         repeat first|refine gya ?_|refine gyr ?_|refine gna ?_|refine gyb (by(rintro v ⟨hgu,hB,hG,-⟩ N hN;have r:=hB.r;simp only[BxR]at r;(try obtain⟨q0,-,z1,z2,z3⟩:=Hrd.out v hgu);(try have q1:=(HR.out.grow hgu).read Hpl.out hrn);(try have q2:=(HR.out.grow hgu).read Hpl.out hpn);(try obtain⟨p0,-,z4,z5,z6⟩:=Hrd3.out v hgu);go_simp;exact hN)) ?_
         refine grd (F7 (B9 1)) (λ(x82:Ax×Ax)=>?_) (C:=λv _=>A0t 1 (by omega) (by omega) _);refine grd (F7 kk) (λ(x90:Ax×Ax)=>?_) (C:=by(rintro v ⟨⟨hgu,hB,hG,-⟩,hx82⟩;obtain⟨hx82a,hx82b⟩:Rn v x82.1 _/\Rn v x82.2 _:=hx82;exact Hdv.out _ x82 pr (A4G hx82a hx82b) (Hrd3.out _ hgu).2.1));refine gxd (X:=Ax) (λx:Ax=>.slice x.1 Lw x.2) (λx W=>Lzt W x.1 (C9 (I8 M1 r kk Lw) Lw r)) (λx u u' hg h=>h.grow hg) (λx91=>?_) (C:=by(rintro v ⟨⟨⟨hgu,hB,hG,-⟩,hx82⟩,hx90⟩;obtain⟨hx82a,hx82b⟩:Rn v x82.1 _/\Rn v x82.2 _:=hx82;obtain⟨hx90a,hx90b⟩:Rn v x90.1 _/\Rn v x90.2 _:=hx90;exact Htm.out _ x90 hgu (A4G hx90a hx90b)));refine gs ?_;refine geC hL ?_;clear hB hG hL L;rintro u ⟨⟨⟨⟨hgu,hB,hG,-⟩,hx82⟩,hx90⟩,hx91⟩;obtain⟨hx82a,hx82b⟩:Rn u x82.1 _/\Rn u x82.2 _:=hx82;obtain⟨hx90a,hx90b⟩:Rn u x90.1 _/\Rn u x90.2 _:=hx90;have HR2:=B8S (HR.out.grow hgu);have Ho2:=B8S (C5 Ho.out hgu);clear HR Ho;have HR:=HR2;have Ho:=Ho2;clear HR2 Ho2;have q0:=HR.out.read Hpl1.out hrn;have hfz:=HR.out.fz Hpl1.out;clear hgu;refine gtT ?_;clear hN K;clear q0 hfz;generalize hu0:World.setCell u _ _=u0;have hS:=HR.out.put (P:=x91) (R':=C9 (I8 M1 r kk Lw) Lw) Hpl1.out hrn hx91 (λt ht e=>A9m (A4C e)) (show C7 u g r [slV Lw x91]=u0 from hu0);have hG2:A4 w u0:=O5 HR.out.hd hG hS.2;have Ho2:=B8S (A0o Ho.out HR.out.hd (by decide) hS.2);have Hpl2:=B8S (show(ps1.set r x91).length=n by rw[B8r];exact Hpl1.out);obtain⟨ps2,hps2⟩:∃x,x=ps1.set r x91:=⟨_,rfl⟩
         have hz2:szM (I8 M1 r kk Lw) n Lw (2*Z+1):=(A6w Hz1.out zk).mono (by omega);obtain⟨M2,hM2⟩:∃x,x=I8 M1 r kk Lw:=⟨_,rfl⟩
         have hS1:=hS.1;have hst:=Hst.out;rw[<-hps2,<-hM2]at hS1;rw[<-hps2]at Hpl2;rw[<-hM2]at hst hz2;have HR2:=B8S hS1;have Hz2:=B8S hz2;have Hst2:=B8S hst;clear hB hG HR Ho hS hS1 hu0 hps2 hM2 hst hz2 Hst Hz1 Htm Hdv Hrd3 hx91 hx90a hx90b hx82a hx82b zk;have hG:=hG2;have hB:=Bx.nil u0;have HR:=HR2;have Ho:=Ho2;clear hG2 HR2 Ho2;obtain⟨u,rfl⟩:=exQ u0;refine B8N ?_;refine r0T ?_;refine B8v ?_;clear hB hF;go_loopw [10] (λs0 wr=>∃(i:Nat) (ps:List Ax),i<=n/\s0 = .int .i64 i/\ps.length=n/\RdL w.heap.size Lw (.slice (some ⟨g,0,none⟩) n c0) ps (C9 (H9 M2 r k Lw i) Lw) wr/\wr.ownsRow w.heap.size 3 1 lv r (O9 (I2 le))/\A4 w wr) (λs0 _=>n-(intOf s0).toNat)
         case atStart=>exact⟨0,ps2,B8k _,rfl,Hpl2.out,HR.out,Ho.out,hG⟩
         case round =>
          clear hG HR Ho;obtain⟨i,ps3,hi,rfl,hpl3,hR,ho,hG⟩:=hrel;obtain⟨u,rfl⟩:=exQ wr;have hB:=Bx.nil u;have hF:=Fr.nil w;have Ho:=B8S ho;have Hpl3:=B8S hpl3;clear ho hpl3;rcases B73 i n with hlti|hgei
          ·have hdec3:decide ((i:Int)<(n:Int))=true:=by simp;omega
           have hin:(i:Int)<(n:Int):=by omega
           by_cases hir:i=r
           ·have fir:((i:Int) != (r:Int))=false:=by simp[hir]
            have HR:=B8S (show RdL w.heap.size Lw (.slice (some ⟨g,0,none⟩) n c0) ps3 (C9 (H9 M2 r k Lw (i+1)) Lw) u by rw[show H9 M2 r k Lw (i+1)=H9 M2 r k Lw i from if_pos hir];exact hR);clear hR hir;refine B8N ?_;refine r0T ?_;refine B8V (rfl) ?_;refine B8U ?_;refine A6 ?_;refine B8N ?_;refine B8v ?_;refine r0T ?_;refine B8T (rfl) ?_;refine B8U ?_;refine C8 ?_;refine A6 ?_;refine r0E ?_;refine A6 ?_;go_roundw
            case rel=>exact⟨i+1,ps3,by omega,by go_num,Hpl3.out,HR.out,Ho.out,hG⟩
            case measure=>simp[intOf];omega
           ·have fir:((i:Int) != (r:Int))=true:=by simp;omega
            have ei:H9 M2 r k Lw i i=M2 i:=A3n i i (K2 _);have er:H9 M2 r k Lw i r=M2 r:=A1x i;have hnx:=B0G (M:=M2) (c:=k) (L:=Lw) hir;obtain⟨M',hM'⟩:∃M',M'=H9 M2 r k Lw i:=⟨_,rfl⟩
            rw[<-hM']at hR ei er hnx;have hz2:=Hz2.out;obtain⟨bi,oi,di,pi,hpi,hrd⟩:=hR.elem Hpl3.out hlti (P4 M' Lw i) hlt;rw[A1E hlt]at hrd;obtain⟨br,or,dr,pr,hpr,hrd2⟩:=hR.elem Hpl3.out hrn (P4 M' Lw r) hlt;have hrd2:=λW hg=>(hrd2 W hg).1;have hls:∀(W:World),A4 u W->Calls Tryz.prog 74 #[.slice (some ⟨bi,oi,none⟩) Lw di,.slice (some ⟨br,or,none⟩) Lw dr,rqV pi.1 pi.2 (M' i k)] W (E9 (λy:Ax=>.slice y.1 Lw y.2) (λy W'=>Lzt W' y.1 (C9 (H9 M2 r k Lw (i+1)) Lw i)) W):=λW hg=>by
             have h1:=(hR.row i (by rw[Hpl3.out];exact hlti)).lz.grow hg;rw[hpi]at h1;have h2:=(hR.row r (by rw[Hpl3.out];exact hrn)).lz.grow hg;rw[hpr]at h2;rw[hnx,<-B08];have z1:=hz2 i hlti k hlt;rw[<-ei]at z1;exact A9Y _ _ _ _ Lw di dr (M' i k) pi (P4 M' Lw i) (P4 M' Lw r) (by omega) (2*Z+1) (λj hj=>by rw[A1E hj,ei];exact hz2 i hlti j hj) (λj hj=>by rw[A1E hj,er];exact hz2 r hrn j hj) (by omega) W h1 h2 (hrd W hg).2.1
            have hoth:∀t,t<n->t≠i->C9 (H9 M2 r k Lw (i+1)) Lw t=C9 M' Lw t:=λt ht e=>by rw[hnx];exact A9m (A3b e)
            obtain⟨Y,hY⟩:∃y,y=M' i k:=⟨_,rfl⟩
            rw[<-hY]at hrd hls;have HR:=B8S hR;have Hrd:=B8S hrd;have Hrd2:=B8S hrd2;have Hls:=B8S hls;have Hoth:=B8S hoth;clear hR hir hnx hrd hrd2 hls hoth hY ei er hz2 hpi hpr hM';refine B8N ?_;refine r0T ?_;refine B8V (rfl) ?_;refine B8U ?_;refine A6 ?_;refine B8N ?_;refine B8v ?_;refine r0T ?_;refine B8V (rfl) ?_;refine rdC A8 [] [(0,0),(0,1),(0,2),(0,3),(0,4),(0,5),(0,6),(0,7),(0,8),(0,9),(0,10),(0,11),(0,12),(0,13),(0,14),(0,15),(0,16),(1,17),(0,18)] hB hG λK L hN hL=>?_
            repeat first|refine gya ?_|refine gyr ?_|refine gna ?_|refine gyb (by(rintro v ⟨hgu,hB,hG,-⟩ N hN;have r:=hB.r;simp only[BxR]at r;obtain⟨q0,-,z1,z2,z3⟩:=Hrd.out v hgu;have q1:=Hrd2.out v hgu;go_simp;exact hN)) ?_
            refine gxd (X:=Ax) (λx:Ax=>.slice x.1 Lw x.2) (λx W=>Lzt W x.1 (C9 (H9 M2 r k Lw (i+1)) Lw i)) (λx u u' hg h=>h.grow hg) (λx119=>?_) (C:=by(rintro v ⟨hgu,hB,hG,-⟩;exact Hls.out _ hgu));refine gs ?_;refine geC hL ?_;clear hB hG hL L;rintro u ⟨⟨hgu,hB,hG,-⟩,hx119⟩;have HR2:=B8S (HR.out.grow hgu);have Ho2:=B8S (C5 Ho.out hgu);clear HR Ho Hrd Hrd2;have HR:=HR2;have Ho:=Ho2;clear HR2 Ho2;have q0:=HR.out.read Hpl3.out hlti;have hfz:=HR.out.fz Hpl3.out;clear hgu;refine gt ?_;clear hN K;clear q0 hfz;generalize hu0:World.setCell u _ _=u0;have hS:=HR.out.put (P:=x119) (R':=C9 (H9 M2 r k Lw (i+1)) Lw) Hpl3.out hlti hx119 Hoth.out (show C7 u g i [slV Lw x119]=u0 from hu0);have hG2:A4 w u0:=O5 HR.out.hd hG hS.2;have Ho2:=B8S (A0o Ho.out HR.out.hd (by decide) hS.2);have HR2:=B8S hS.1;clear hB hG HR Ho hS hu0 hx119;have hG:=hG2;have hB:=Bx.nil u0;have HR:=HR2;have Ho:=Ho2;clear hG2 HR2 Ho2;obtain⟨u,rfl⟩:=exQ u0;refine C8 ?_;refine A6 ?_;refine r0E ?_;refine A6 ?_;go_roundw
            case rel=>exact⟨i+1,ps3.set i x119,by omega,by go_num,by rw[B8r];exact Hpl3.out,HR.out,Ho.out,hG⟩
            case measure=>simp[intOf];omega
          ·obtain rfl:n=i:=by omega
           have hdec3:decide ((n:Int)<(n:Int))=false:=by simp
           have HR:=B8S hR;clear hR;refine B8N ?_;refine r0T ?_;refine B8T (rfl) ?_;refine B8x ?_;refine B7 ?_;refine B7 ?_;refine D0 ?_;refine A6 ?_;refine B8N ?_;refine M4 (w:=w) A8 2 [0,0] (by kernel_rfl) (by simp only[List.drop_succ_cons,List.drop_zero];exact rfl) (λ_=>True) noG hB hG trivial ?_;intro K L hN hL;simp only[List.zip_cons_cons,List.zip_nil_left];refine gs ?_;refine H8 ?_;rintro v ⟨hgu,hB1,hG1,-⟩;have ROWn:=B8S (C5 Ho.out hgu);clear Ho;have Ho:=ROWn;clear ROWn;have HR2:=B8S (HR.out.grow hgu);clear HR;have HR:=HR2;clear HR2;clear hB hG;have hB:=hB1;have hG:=hG1;clear hB1 hG1;refine hL _ _ ?_;clear hL L hgu;obtain⟨u,rfl⟩:=exQ v;refine L6 A3r w.heap.size _ _ _ _ [.int .i64 (k:Nat)] rfl rfl (A2w (k:Nat) u) rfl (λ_=>rfl) (λ_=>rfl) (λ_ _=>rfl) Ho.out (by omega) (by omega) hG.sz λp v' w' g1 g2 g3=>?_;have hBn:=Bx.nil w';have HR2:=B8S (show RdL w.heap.size Lw (.slice (some ⟨g,0,none⟩) n c0) ps3 (C9 (H9 M2 r k Lw n) Lw) w' from⟨X5 HR.out.hd (O0 Ho.out HR.out.hd (by decide)) g2,λt ht=>(HR.out.row t ht).stay Ho.out (by decide) (by decide) g2⟩);clear HR;have hGn:=K3 Ho.out hG g2;clear Ho hB hG;have Ho:=B8S g1;have hB:=hBn;have hG:=hGn;clear g1 g2 g3 hBn hGn;obtain⟨u,rfl⟩:=exQ w';simp only[Act.put,List.setIfInBounds_toArray,List.set_cons_succ,List.set_cons_zero];refine NoK.norm (hN _ _ ?_);clear hN K;have HR:=HR2;clear HR2;refine A6 ?_;refine r0E ?_;refine C8 ?_;refine A6 ?_;refine r0E ?_;refine A6 ?_;go_roundw
           case rel=>exact⟨k+1,ps3,r+1,_,by omega,by go_num,by go_num,rfl,by rw[Hst2.out,List.length_append,<-Hr.out];rfl,Hpl3.out,by rw[Hst2.out];exact HR.out,by rw[Hst2.out,A22];exact Ho.out,hG⟩
           case measure=>simp[intOf];omega
       ·obtain rfl:P=p:=by omega
        have fp:decide ((P:Int)<(n:Int))=false:=by simp;omega
        have fpn:decide (P<n)=false:=by simp;omega
        have fPn:((P:Int) == (n:Int))=true:=by simp;omega
        have hst:=Hstep.out;rw[Hno.out (by omega)]at hst;have Hst:=B8S hst;clear hst;refine B8N ?_;refine B8N (rsE A8 [0,0,0,0,0,0,0,0,0,0,0,0,1,0,0] hB hG λL hL=>?_)
        repeat first|refine gya ?_|refine gyr ?_|refine gna ?_|refine gyb (by(rintro v ⟨hgu,hB,hG,-⟩ N hN;have r:=hB.r;simp only[BxR]at r;(first|have q0:=Hr0.out v hG|skip);go_simp;exact hN)) ?_
        refine gmn (by exact rfl) ?_;refine okf (by simp only[Act.put,List.setIfInBounds_toArray,List.set_cons_succ,List.set_cons_zero];exact rfl) ?_;refine gs ?_;refine geT hL ?_;clear hB hG hL L;rintro u ⟨hgu,hB,hG,-⟩;have HR2:=B8S (HR.out.grow hgu);have Ho2:=B8S (C5 Ho.out hgu);clear HR Ho;have HR:=HR2;have Ho:=Ho2;clear HR2 Ho2;clear hgu;refine B8T (rfl) ?_;refine B8x ?_;refine B7 ?_;refine B7 ?_;refine D0 ?_;refine A6 ?_;refine B8N ?_;refine r0T ?_;refine B8V (rfl) ?_;refine B8x ?_;refine B7 ?_;refine D0 ?_;refine A6 ?_;refine r0E ?_;refine A6 ?_;go_roundw
        case rel=>exact⟨k+1,ps,r,_,by omega,by go_num,rfl,rfl,by rw[Hst.out];exact Hr.out,Hpl.out,by rw[Hst.out];exact HR.out,by rw[Hst.out];exact Ho.out,hG⟩
        case measure=>simp[intOf];omega
     ·have fr:decide ((r:Int)<(n:Int))=false:=by simp;omega
      have frn:decide (r<n)=false:=by simp;omega
      have HF:=B8S (show(M,le)=FG by rw[Hfull.out hrn]);clear hgz hstep hr;refine B8N ?_;refine B8N ?_
      (first|have q0:=Hr0.out u hG|skip)
      refine r0N ?_;refine B8T (rfl) ?_;refine B8x ?_;refine B7 ?_;refine B7 ?_;refine D0 ?_;refine A6 ?_;refine B8N ?_;obtain⟨A5,c5,rfl,-,hLi⟩:=A1M (l:=I2 le) Ho.out (by rw[A1J];exact Hr.out);have hrc:r<=c0:=by omega
      have hsl:∀W,(Instr.slice 24 (.slice (some ⟨g,0,none⟩) n c0) none (some (.int .i64 (r:Nat))) none).run Tryz.prog W = .ok (.slice (some ⟨g,0,none⟩) r c0) W:=λW=>by
       have h2:(r:Int)<=(c0:Int):=by omega
       go_simp
      refine r0N ?_;refine rt Tryz.results70 ?_;exact⟨(g,c0,(A5,c5),ps),by rw[<-HF.out,<-Hr.out],⟨by rw[<-HF.out];simp only;rw[<-Hr.out];exact HR.out.lrz Hpl.out (by omega) (λi _=>P4 _ _ _),by rw[<-HF.out];exact hLi⟩,hG⟩
    ·obtain rfl:Lw=k:=by omega
     have hdec:decide ((Lw:Int)<(Lw:Int))=false:=by simp
     have HF:=B8S (show(M,le)=FG by rw[HFG.out];exact HG0.out);clear hgz hstep hr;refine B8N ?_;refine B8N ?_
     (first|have q0:=Hr0.out u hG|skip)
     refine r0N ?_;refine B8T (rfl) ?_;refine B8x ?_;refine B7 ?_;refine B7 ?_;refine D0 ?_;refine A6 ?_;refine B8N ?_;obtain⟨A5,c5,rfl,-,hLi⟩:=A1M (l:=I2 le) Ho.out (by rw[A1J];exact Hr.out);have hrc:r<=c0:=by omega
     have hsl:∀W,(Instr.slice 24 (.slice (some ⟨g,0,none⟩) n c0) none (some (.int .i64 (r:Nat))) none).run Tryz.prog W = .ok (.slice (some ⟨g,0,none⟩) r c0) W:=λW=>by
      have h2:(r:Int)<=(c0:Int):=by omega
      go_simp
     refine r0N ?_;refine rt Tryz.results70 ?_;exact⟨(g,c0,(A5,c5),ps),by rw[<-HF.out,<-Hr.out],⟨by rw[<-HF.out];simp only;rw[<-Hr.out];exact HR.out.lrz Hpl.out (by omega) (λi _=>P4 _ _ _),by rw[<-HF.out];exact hLi⟩,hG⟩
end Go.Proofs.YtgpglgbcobeogaaGreatDoor
