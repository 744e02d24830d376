import Derived.Test.YtgpglgbcobeogaaGreatDoorL26
set_option linter.unusedSimpArgs false
set_option linter.unusedVariables false
set_option maxHeartbeats 2000000
set_option maxRecDepth 100000
namespace Go.Proofs.YtgpglgbcobeogaaGreatDoor
open Go.RowKit
theorem Rz.a{u:World}{p:Az}{q:Rat}(h:Rz u p q):Rn u p.1 q.num.natAbs:=h.1
theorem A4G{u:World}{p:Az}{q:Rat}(h1:Rn u p.1 q.num.natAbs)(h2:Rn u p.2 q.den):Rz u p q:=⟨h1,h2⟩
theorem Rz.b{u:World}{p:Az}{q:Rat}(h:Rz u p q):Rn u p.2 q.den:=h.2
theorem Rz.put{u u':World}{p:Az}{q:Rat}(h:Rz u p q){bl:List (Nat×TypeId×Array Value)}(hB:Bx u bl)(k:Nat){b:Nat}{t:TypeId}{cs:Array Value}(hk:bl[k]?=some (b,t,cs))(ht:t≠193)(i:Nat)(vs:List Value)(hu:C7 u b i vs=u'):Rz u' p q:=⟨h.1.put hB k hk ht i vs hu,h.2.put hB k hk ht i vs hu⟩
theorem Rz.own{u w':World}{B:Nat}{e:TypeId}{size n:Nat}{v:Value}{xs:List Value}{o:Obj}{p:Az}{q:Rat}(hl:Rz u p q)(h:u.ownsRow B e size v n xs)(ht:e≠193)(hg:(u.alloc o).grownBy w' v.ownBlock):Rz w' p q:=⟨hl.1.own h ht hg,hl.2.own h ht hg⟩
def zL(p:Az)(q:Rat):List Value:=[.bool (F9 q.num),.slice p.1.1 (ln q.num.natAbs) p.1.2,.slice p.2.1 (ln q.den) p.2.2]
def Cz(u:World)(b i:Nat)(p:Az)(q:Rat):Prop :=
 u.cell? ⟨b,i,none⟩=some (.bool (F9 q.num))/\u.cell? ⟨b,i+1,none⟩=some (.slice p.1.1 (ln q.num.natAbs) p.1.2)/\u.cell? ⟨b,i+2,none⟩=some (.slice p.2.1 (ln q.den) p.2.2)
def Lz(u:World)(A:Option Addr)(l:List Rat):Prop :=
 l≠[]->∃b off,A=some ⟨b,off,none⟩/\b<u.heap.size/\∀i,i<l.length->∃p:Az,Rz u p (gq l i)/\Cz u b (off+i*3) p (gq l i)
theorem Cz.grow{u u':World}{b i:Nat}{p:Az}{q:Rat}(h:Cz u b i p q)(hb:b<u.heap.size)(hg:A4 u u'):Cz u' b i p q :=
 ⟨(hg.cell (p:=⟨b,i,none⟩) hb).trans h.1,(hg.cell (p:=⟨b,i+1,none⟩) hb).trans h.2.1,(hg.cell (p:=⟨b,i+2,none⟩) hb).trans h.2.2⟩
theorem Lz.grow{u u':World}{A:Option Addr}{l:List Rat}(h:Lz u A l)(hg:A4 u u'):Lz u' A l:=λhn=>by
 obtain⟨b,off,e,hb,hc⟩:=h hn;refine⟨b,off,e,B8X hb hg.size,λi hi=>?_⟩;obtain⟨p,h1,h2⟩:=hc i hi;exact⟨p,h1.grow hg,h2.grow hb hg⟩
theorem Lz.nil(u:World)(A:Option Addr):Lz u A []:=λh=>absurd rfl h
theorem Lz.addr{u:World}{A:Option Addr}{l:List Rat}(h:Lz u A l)(hl:0<l.length):∃b off,A=some ⟨b,off,none⟩:=by
 obtain⟨b,off,e,_⟩:=h (λh0=>by rw[h0]at hl;cases hl);exact⟨b,off,e⟩
theorem Lz.read{u:World}{b off:Nat}{l:List Rat}(h:Lz u (some ⟨b,off,none⟩) l){i:Nat}(hi:i<l.length):∃p:Az,∀W,A4 u W->Rz W p (gq l i)/\Cz W b (off+i*3) p (gq l i):=by
 obtain⟨b',off',e,hb,hc⟩:=h (λh0=>by rw[h0]at hi;cases hi);cases e;obtain⟨p,h1,h2⟩:=hc i hi;exact⟨p,λW hg=>⟨h1.grow hg,h2.grow hb hg⟩⟩
abbrev Zr:=Az×Rat
def zrL(r:Zr):List Value:=zL r.1 r.2
def E6(u:World)(ps:List Zr):Prop:=∀r∈ps,Rz u r.1 r.2
theorem E6.nil(u:World):E6 u []:=λ_ h=>by cases h
theorem E6.grow{u u':World}{ps:List Zr}(h:E6 u ps)(hg:A4 u u'):E6 u' ps:=λr hr=>(h r hr).grow hg
theorem E6.put{u u':World}{ps:List Zr}(h:E6 u ps){bl:List (Nat×TypeId×Array Value)}(hB:Bx u bl)(k:Nat){b:Nat}{t:TypeId}{cs:Array Value}(hk:bl[k]?=some (b,t,cs))(ht:t≠193)(i:Nat)(vs:List Value)(hu:C7 u b i vs=u'):E6 u' ps:=λr hr=>(h r hr).put hB k hk ht i vs hu
theorem E6.own{u w':World}{B:Nat}{e:TypeId}{size n:Nat}{v:Value}{xs:List Value}{o:Obj}{ps:List Zr}(hl:E6 u ps)(h:u.ownsRow B e size v n xs)(ht:e≠193)(hg:(u.alloc o).grownBy w' v.ownBlock):E6 w' ps:=λr hr=>(hl r hr).own h ht hg
theorem E6.snoc{u:World}{ps:List Zr}(h:E6 u ps){p:Az}{q:Rat}(h1:Rn u p.1 q.num.natAbs)(h2:Rn u p.2 q.den):E6 u (ps++[(p,q)]):=λr hr=>by
 rcases List.mem_append.1 hr with hr|hr
 ·exact h r hr
 ·have:r=(p,q):=by simpa using hr
  subst this;exact⟨h1,h2⟩
theorem A30(r:Zr):(zrL r).length=3:=rfl
theorem B34(l:List Zr){i:Nat}{r:Zr}(hi:l[i]?=some r){j:Nat}(hj:j<3):(l.flatMap zrL)[i*3+j]?=(zrL r)[j]?:=by
 induction l generalizing i with
 | nil=>simp at hi
 | cons x l ih =>
  rw[List.flatMap_cons]
  cases i with
  | zero =>
   simp at hi;subst hi;rw[B9u (by rw[A30];omega)];simp
  | succ i =>
   rw[B9v (by rw[A30];omega),A30,show(i+1)*3+j-3=i*3+j by omega];exact ih (by simpa using hi)
theorem B6L(l:List Zr):(l.flatMap zrL).length=3*l.length:=by
 induction l with
 | nil=>rfl
 | cons x l ih=>simp[List.flatMap_cons,A30,ih];omega
theorem Y6{u:World}{B n:Nat}{v:Value}{ps:List Zr}(h:u.ownsRow B 33 3 v n (ps.flatMap zrL))(ha:E6 u ps):∃A c,v = .slice A n c/\(∀b off,A=some ⟨b,off,none⟩->B<=b)/\c<=maxLen/\Lz u A (ps.map (·.2))/\n=ps.length:=by
 have hn:n=ps.length:=by have:=h.1;rw[B6L]at this;omega
 obtain⟨_,h|⟨g,cap,cur,rfl,hb,hh,hn',hc,hs,ht⟩⟩:=h
 ·obtain⟨rfl,h0⟩:=h;exact⟨none,0,by rw[h0],(λb off e=>by cases e),by unfold maxLen;omega,λhne=>absurd (by rw[B76 (l:=ps) (by omega)];rfl) hne,hn⟩
 ·refine⟨_,cap,rfl,(λb off e=>by cases e;exact hb),hc,λ_=>⟨g,0,rfl,N7 hh,λi hi=>?_⟩,hn⟩;have hil:i<ps.length:=by simpa using hi
  obtain⟨r,hr⟩:∃r,ps[i]?=some r:=⟨_,B8i hil⟩
  have hq:gq (ps.map (·.2)) i=r.2:=by unfold gq;rw[List.getElem?_map,hr];rfl
  rw[hq];refine⟨r.1,ha r (B8J hr),?_⟩;have key:∀j v,j<3->(zrL r)[j]?=some v->u.cell? ⟨g,0+i*3+j,none⟩=some v:=λj v hj hv=>by
   rw[B8E u g _ cur 33 (0,0) hh,Nat.zero_add];have h1:(cur.toList.take (n*3))[i*3+j]?=some v:=by rw[ht,B34 ps hr hj,hv]
   rw[B9b,if_pos (by omega)]at h1
   simpa using h1
  exact⟨key 0 _ (by omega) rfl,key 1 _ (by omega) rfl,key 2 _ (by omega) rfl⟩
theorem A1I(l:List Rat):(l.flatMap qL).length=5*l.length:=by
 induction l with
 | nil=>rfl
 | cons x l ih=>simp[List.flatMap_cons,qL,ih];omega
theorem A3t(l:List Rat){i:Nat}{q:Rat}(hi:l[i]?=some q){j:Nat}(hj:j<5):(l.flatMap qL)[i*5+j]?=(qL q)[j]?:=by
 induction l generalizing i with
 | nil=>simp at hi
 | cons x l ih =>
  rw[List.flatMap_cons]
  cases i with
  | zero =>
   simp at hi;subst hi;rw[B9u (by simp[qL];omega)];simp
  | succ i =>
   rw[B9v (by simp[qL];omega),show(qL x).length=5 from rfl,show(i+1)*5+j-5=i*5+j by omega];exact ih (by simpa using hi)
theorem Q8{u:World}{B n:Nat}{v:Value}{l:List Rat}(h:u.ownsRow B 48 5 v n (l.flatMap qL)):∃A c,v = .slice A n c/\n<=c/\c<=maxLen/\Lq u A l/\n=l.length:=by
 have hn:n=l.length:=by have:=h.1;rw[A1I]at this;omega
 obtain⟨_,h|⟨g,cap,cur,rfl,hb,hh,hn',hc,hs,ht⟩⟩:=h
 ·obtain⟨rfl,h0⟩:=h;exact⟨none,0,by rw[h0],by omega,by unfold maxLen;omega,λhne=>absurd (B76 (by omega)) hne,hn⟩
 ·refine⟨_,cap,rfl,hn',hc,λ_=>⟨g,0,rfl,N7 hh,λi q hi j v hj=>?_⟩,hn⟩;have hil:i<l.length:=(List.getElem?_eq_some_iff.1 hi).1;have hj5:j<5:=(List.getElem?_eq_some_iff.1 hj).1;rw[B8E u g _ cur 48 (0,0) hh,Nat.zero_add];have h1:(cur.toList.take (n*5))[i*5+j]?=some v:=by rw[ht,A3t l hi hj5,hj]
  rw[B9b,if_pos (by omega)]at h1
  simpa using h1
theorem A27(n m:Int)(hm:0<m)(hm2:m<=9223372036854775807)(w:World):Calls Tryz.prog 24 #[.int .i64 n,.int .i64 m] w λe w'=>e = .returned (.int .i64 (K9 n m))/\A4 w w' :=
 (B5j n m hm hm2 w).mono λe w' ⟨h,hw⟩=>⟨h,hw ▸ A4.refl _⟩
def A1f:Nat->Int
 | 3=>2
 | 4=>3
 | 5=>4
 | _=>1
def A07(n:Int):Rat:=I0 (K9 n 41-20) (A1f (K9 (n.tdiv 41) 6).toNat)
theorem A9u(j:Nat):0<A1f j/\A1f j<=4:=by unfold A1f;split<;>omega
theorem A9f(n:Int):qs (A07 n)<=5:=by
 have h1:=A1z n (m:=41) (by omega);have h2:=A9u (K9 (n.tdiv 41) 6).toNat;exact B2e 0 0 _ _ 5 (by omega) (by omega) (by omega)
theorem B3V(n:Int)(h0 : -9223372036854775808<=n)(h1:n<=9223372036854775807) : -9223372036854775808<=n.tdiv 41/\n.tdiv 41<=9223372036854775807:=by
 have h:n.tdiv 41=n/41\/n.tdiv 41=n/41+1:=by
  rw[Int.tdiv_eq_ediv];split
  ·left;omega
  ·right;rfl
 omega
theorem B57(j:Nat)(hj:j<6)(W:World):(Instr.index 104 (.agg #[.int .i64 1,.int .i64 1,.int .i64 1,.int .i64 2,.int .i64 3,.int .i64 4]) (.int .i64 (j:Nat))).run Tryz.prog W = .ok (.int .i64 (A1f j)) W:=by
 rcases (by omega:j=0\/j=1\/j=2\/j=3\/j=4\/j=5)with rfl|rfl|rfl|rfl|rfl|rfl<;>kernel_rfl
theorem A7B(n:Int)(w:World)(h0 : -9223372036854775808<=n)(h1:n<=9223372036854775807):Calls Tryz.prog 13 #[.int .i64 n] w (Ret (F7 (A07 n)) w):=by
 obtain⟨t,ht⟩:∃t,t=n.tdiv 41:=⟨_,rfl⟩
 have htb : -9223372036854775808<=t/\t<=9223372036854775807:=by rw[ht];exact B3V n h0 h1
 have htw:IntKind.i64.wrap t=t:=B8j _ htb;obtain⟨r1,r2⟩:=A1z n (m:=41) (by omega);obtain⟨s1,s2⟩:=A1z t (m:=6) (by omega);have hov:∀W,Calls Tryz.prog 25 #[.int .i64 (K9 n 41-20),.int .i64 (A1f (K9 t 6).toNat)] W (Ret (F7 (A07 n)) W):=λW=>by
  have h2:=A9u (K9 t 6).toNat;have:=A7H (K9 n 41-20) (A1f (K9 t 6).toNat) (by omega) (by omega) (by omega) (by omega) (by omega) W;rw[ht]at this⊢;exact this
 obtain⟨Q,hQ⟩:∃Q,Q=A07 n:=⟨_,rfl⟩
 rw[<-hQ]at hov⊢;obtain⟨p,hp⟩:∃p,p=K9 n 41:=⟨_,rfl⟩
 obtain⟨j,hj⟩:∃j:Nat,K9 t 6=(j:Int):=⟨(K9 t 6).toNat,by omega⟩
 have hpk1:=λW=>A27 n 41 (by omega) (by omega) W;have hpk2:=λW=>A27 t 6 (by omega) (by omega) W;rw[hj]at hpk2 hov s1 s2;rw[<-hp]at hpk1 hov r1 r2;rw[Int.toNat_natCast]at hov;have htd:n.tdiv 41=t:=ht.symm;have hix:=B57 j (by omega);have fw:IntKind.i64.wrap (p-20)=p-20:=B8j _ (by omega);obtain⟨D,hD⟩:∃D,D=A1f j:=⟨_,rfl⟩
 rw[<-hD]at hov;simp only[<-hD]at hix;have Hov:=B8S hov;have Hpk1:=B8S hpk1;have Hpk2:=B8S hpk2;clear ht hQ hp hj hD hov hpk1 hpk2;go_enter Tryz.func13,Tryz.ntmps13;refine en1 ?_;intro u hG b2 hB hF;refine B8N (rsC A8 [0,1,0,0,0,0,1,0,1] hB hG λK L hN hL=>?_);refine gs ?_;refine gmw (C:=λv=>Hpk1.out _) ?_;refine gs ?_;refine gmw (C:=λv=>Hpk2.out _) ?_;refine gs ?_;refine grd (F7 Q) (λ(x11:Ax×Ax)=>?_) (C:=λv _=>Hov.out _);refine geC hL ?_;clear hB hG hL L;rintro u ⟨⟨-,hB,hG,-⟩,hx11⟩;obtain⟨hx11a,hx11b⟩:Rn u x11.1 _/\Rn u x11.2 _:=hx11;refine gtT ?_;clear hN K;refine sv hB hF hG 0 0 [_,_,_] ?_;intro u hu hBG;replace hx11a:=hx11a.put hB 0 rfl (by first|decide|simp) _ _ hu;replace hx11b:=hx11b.put hB 0 rfl (by first|decide|simp) _ _ hu;clear hB hG hu;obtain⟨hB,hG⟩:=hBG;refine rt Tryz.results13 ?_;exact⟨x11,rfl,⟨hx11a,hx11b⟩,hG⟩
def A4E(l:List Int)(i:Nat):Rat:=if i<l.length then A07 (gi l i)else B9 0
def R5(l:List Int)(n:Nat):List Rat:=(List.range n).map (A4E l)
theorem A9P(l:List Int)(n:Nat):(R5 l n).length=n:=by unfold R5;simp
theorem B4H(l:List Int)(n:Nat):R5 l (n+1)=R5 l n++[A4E l n]:=by unfold R5;rw[B9J,List.map_append];rfl
theorem A65(A:Option Addr)(l:List Int)(c p n:Nat)(hp:p=l.length)(hn:n<=1048576)(hpm:p<=9223372036854775807)(hb:∀x∈l,-9223372036854775808<=x/\x<=9223372036854775807)(w:World)(h:Li w A l) :
  Calls Tryz.prog 31 #[.slice A p c,.int .i64 n] w λe w'=>∃(v:Value) (ps:List Zr),e = .returned v/\ps.map (·.2)=R5 l n/\E6 w' ps/\w'.ownsRow w.heap.size 33 3 v n (ps.flatMap zrL)/\A4 w w':=by
 have H:=B8S h;have Hp:=B8S hp;have Hb:=B8S hb;clear h hp hb;go_enter Tryz.func31,Tryz.ntmps31;refine en0 ?_;intro u hG hB hF;refine r0T ?_;refine B8N ?_;refine r0T ?_;refine B8v ?_;clear hB hF;go_loopw [6,5] (λs0 s1 wr=>∃(i:Nat) (ps:List Zr),i<=n/\s0 = .int .i64 i/\ps.map (·.2)=R5 l i/\E6 wr ps/\wr.ownsRow w.heap.size 33 3 s1 i (ps.flatMap zrL)/\A4 w wr) (λs0 _ _=>n-(intOf s0).toNat)
 case atStart=>exact⟨0,[],B8k _,rfl,rfl,E6.nil _,B9x _ _ _ _,hG⟩
 case round =>
  clear hG;obtain⟨i,ps,hi,rfl,hps,hA,ho,hG⟩:=hrel;obtain⟨u,rfl⟩:=exQ wr;have hB:=Bx.nil u;have hF:=Fr.nil w;have Ho:=B8S ho;have Hps:=B8S hps;clear ho hps;rcases B73 i n with hlt|hge
  ·have hdec:decide ((i:Int)<(n:Int))=true:=by simp;omega
   have hsu:=B4H l i
   have hun:A4E l i=if i<l.length then A07 (gi l i)else B9 0:=rfl
   by_cases hip:i<p
   ·have hil:i<l.length:=by rw[<-Hp.out];exact hip
    obtain⟨ba,oa,hAe,-⟩:=H.out.cell hil;have hcl:∀W,A4 w W->W.cell? ⟨ba,oa+i,none⟩=some (.int .i64 (gi l i)):=λW hg=>by
     obtain⟨b',o',e,hc⟩:=(H.out.grow hg).cell hil;rw[hAe]at e;cases e;exact hc
    obtain⟨x1,x2⟩:=Hb.out (gi l i) (B8J (A6h hil));rw[if_pos hil]at hun;rw[hun]at hsu;have hr:=λW=>A7B (gi l i) W x1 x2;obtain⟨X,hX⟩:∃X,X=gi l i:=⟨_,rfl⟩
    simp only[<-hX]at hcl hr;rw[<-hX]at hsu x1 x2;obtain⟨Q,hQ⟩:∃Q,Q=A07 X:=⟨_,rfl⟩
    simp only[<-hQ]at hr;rw[<-hQ]at hsu;have Hsu:=B8S hsu;have Hcl:=B8S hcl;have Hr:=B8S hr;have hdp:decide ((i:Int)<(p:Int))=true:=by simp;omega
    subst hAe;clear hsu hcl hr hX hQ hun hil;refine B8N ?_;refine r0T ?_;refine B8V (rfl) ?_;refine B8U ?_;refine A6 ?_;refine B8N ?_;refine B8v ?_;refine r0T ?_;refine B8V (rfl) ?_;refine M4 (w:=w) A8 6 [0,0,0,0,0,1] (by kernel_rfl) (by simp only[List.drop_succ_cons,List.drop_zero];exact rfl) (λ_=>True) noG hB hG trivial ?_;intro K L hN hL;simp only[List.zip_cons_cons,List.zip_nil_left]
    repeat first|refine gya ?_|refine gyr ?_|refine gna ?_|refine gyb (by(rintro v ⟨hgu,hB,hG,-⟩ N hN;have r:=hB.r;simp only[BxR]at r;have hcb:=Hcl.out v hG;go_simp;exact hN)) ?_
    refine grd (F7 Q) (λ(x21:Ax×Ax)=>?_) (C:=λv _=>Hr.out _);refine H8 ?_;rintro v ⟨⟨hgu,hB1,hG1,-⟩,hx21⟩;replace hA:=hA.grow hgu;obtain⟨hx21a,hx21b⟩:Rn v x21.1 _/\Rn v x21.2 _:=hx21;have ROWn:=B8S (C5 Ho.out hgu);clear Ho;have Ho:=ROWn;clear ROWn;clear hB hG;have hB:=hB1;have hG:=hG1;clear hB1 hG1;refine hL _ _ ?_;clear hL L hgu;obtain⟨u,rfl⟩:=exQ v;refine L6 X4 w.heap.size _ _ _ _ (zL x21 Q) rfl rfl (A0m x21.1 x21.2 Q u) rfl (λ_=>rfl) (λ_=>rfl) (λ_ _=>rfl) Ho.out (by omega) (by omega) hG.sz λp v' w' g1 g2 g3=>?_;have hBn:=Bx.nil w';have hGn:=K3 Ho.out hG g2;replace hA:=hA.own Ho.out (by decide) g2;replace hx21a:=hx21a.own Ho.out (by decide) g2;replace hx21b:=hx21b.own Ho.out (by decide) g2;clear Ho hB hG;have Ho:=B8S g1;have hB:=hBn;have hG:=hGn;clear g1 g2 g3 hBn hGn;obtain⟨u,rfl⟩:=exQ w';simp only[Act.put,List.setIfInBounds_toArray,List.set_cons_succ,List.set_cons_zero];refine NoK.norm (hN _ _ ?_);clear hN K;refine C8 ?_;refine A6 ?_;refine r0E ?_;refine A6 ?_;go_roundw
    case rel=>exact⟨i+1,ps++[(x21,Q)],by omega,by go_num,by rw[List.map_append,Hps.out,Hsu.out];rfl,hA.snoc hx21a hx21b,by have:=Ho.out;rw[B97];simpa [zrL]using this,hG⟩
    case measure=>simp[intOf];omega
   ·rw[if_neg (by rw[<-Hp.out];exact hip)]at hun;rw[hun]at hsu;have Hsu:=B8S hsu;have hdp:decide ((i:Int)<(p:Int))=false:=by simp;omega
    clear hsu hun;refine B8N ?_;refine r0T ?_;refine B8V (rfl) ?_;refine B8U ?_;refine A6 ?_;refine B8N ?_;refine B8v ?_;refine r0T ?_;refine B8T (rfl) ?_;refine M4 (w:=w) A8 2 [0,1] (by kernel_rfl) (by simp only[List.drop_succ_cons,List.drop_zero];exact rfl) (λ_=>True) noG hB hG trivial ?_;intro K L hN hL;simp only[List.zip_cons_cons,List.zip_nil_left];refine gs ?_;refine grd (F7 (B9 0)) (λ(x25:Ax×Ax)=>?_) (C:=λv _=>A0t 0 (by omega) (by omega) _);refine H8 ?_;rintro v ⟨⟨hgu,hB1,hG1,-⟩,hx25⟩;replace hA:=hA.grow hgu;obtain⟨hx25a,hx25b⟩:Rn v x25.1 _/\Rn v x25.2 _:=hx25;have ROWn:=B8S (C5 Ho.out hgu);clear Ho;have Ho:=ROWn;clear ROWn;clear hB hG;have hB:=hB1;have hG:=hG1;clear hB1 hG1;refine hL _ _ ?_;clear hL L hgu;obtain⟨u,rfl⟩:=exQ v;refine L6 X4 w.heap.size _ _ _ _ (zL x25 (B9 0)) rfl rfl (A0m x25.1 x25.2 (B9 0) u) rfl (λ_=>rfl) (λ_=>rfl) (λ_ _=>rfl) Ho.out (by omega) (by omega) hG.sz λp v' w' g1 g2 g3=>?_;have hBn:=Bx.nil w';have hGn:=K3 Ho.out hG g2;replace hA:=hA.own Ho.out (by decide) g2;replace hx25a:=hx25a.own Ho.out (by decide) g2;replace hx25b:=hx25b.own Ho.out (by decide) g2;clear Ho hB hG;have Ho:=B8S g1;have hB:=hBn;have hG:=hGn;clear g1 g2 g3 hBn hGn;obtain⟨u,rfl⟩:=exQ w';simp only[Act.put,List.setIfInBounds_toArray,List.set_cons_succ,List.set_cons_zero];refine NoK.norm (hN _ _ ?_);clear hN K;refine C8 ?_;refine A6 ?_;refine r0E ?_;refine A6 ?_;go_roundw
    case rel=>exact⟨i+1,ps++[(x25,B9 0)],by omega,by go_num,by rw[List.map_append,Hps.out,Hsu.out];rfl,hA.snoc hx25a hx25b,by have:=Ho.out;rw[B97];simpa [zrL]using this,hG⟩
    case measure=>simp[intOf];omega
  ·obtain rfl:n=i:=by omega
   have hdec:decide ((n:Int)<(n:Int))=false:=by simp
   refine B8N ?_;refine r0T ?_;refine B8T (rfl) ?_;refine B8x ?_;refine B7 ?_;refine B7 ?_;refine D0 ?_;refine A6 ?_;refine r0T ?_;refine rt Tryz.results31 ?_;exact⟨_,ps,rfl,Hps.out,hA,Ho.out,hG⟩
theorem B1T(A:Option Addr)(l:List Int)(c p n:Nat)(hp:p=l.length)(hn:n<=1048576)(hpm:p<=9223372036854775807)(hb:∀x∈l,-9223372036854775808<=x/\x<=9223372036854775807)(w:World)(h:Li w A l) :
  Calls Tryz.prog 31 #[.slice A p c,.int .i64 n] w λe w'=>∃(A':Option Addr) (c':Nat),e = .returned (.slice A' n c')/\(Lz w' A' (R5 l n)/\∀b off,A'=some ⟨b,off,none⟩->w.heap.size<=b)/\A4 w w' :=
 (A65 A l c p n hp hn hpm hb w h).mono λe w' ⟨v,ps,he,hps,hA,ho,hG⟩=>by
  obtain⟨A',cc,rfl,hcc1,hcc2,hL,hkl⟩:=Y6 ho hA;rw[hps]at hL;exact⟨A',cc,he,⟨hL,hcc1⟩,hG⟩
theorem A7z(A:Option Addr)(l:List Rat)(c n:Nat)(hn:n=l.length)(hm:n<=1048576)(hs:∀x∈l,qs x<=BIG)(w:World)(h:Lz w A l)(HT:Tab w) :
  Calls Tryz.prog 16 #[.slice A n c] w λe w'=>∃v:Value,e = .returned v/\w'.ownsRow w.heap.size 48 5 v n (l.flatMap qL)/\A4 w w':=by
 have H:=B8S h;have Hn:=B8S hn;have Hs:=B8S hs;clear h hn hs;go_enter Tryz.func16,Tryz.ntmps16;refine en0 ?_;intro u hG hB hF;refine r0T ?_;refine B8N ?_;refine r0T ?_;refine B8v ?_;clear hB hF;go_loopw [4,3] (λs0 s1 wr=>∃(i:Nat),i<=n/\s0 = .int .i64 i/\wr.ownsRow w.heap.size 48 5 s1 i ((l.take i).flatMap qL)/\A4 w wr) (λs0 _ _=>n-(intOf s0).toNat)
 case atStart=>exact⟨0,B8k _,rfl,B9x _ _ _ _,hG⟩
 case round =>
  clear hG;obtain⟨i,hi,rfl,ho,hG⟩:=hrel;obtain⟨u,rfl⟩:=exQ wr;have hB:=Bx.nil u;have hF:=Fr.nil w;have Ho:=B8S ho;clear ho;rcases B73 i n with hlt|hge
  ·have hdec:decide ((i:Int)<(n:Int))=true:=by simp;omega
   have hil:i<l.length:=by rw[<-Hn.out];exact hlt
   have hsu:l.take (i+1)=l.take i++[gq l i]:=by
    rw[B8h hil];unfold gq;rw[B8i hil];rfl
   obtain⟨ba,oa,rfl⟩:=H.out.addr (by omega);obtain⟨p,hrd⟩:=(H.out).read hil;have z:=Hs.out _ (A2o hil);obtain⟨Q,hQ⟩:∃Q,Q=gq l i:=⟨_,rfl⟩
   rw[<-hQ]at hsu z;simp only[<-hQ]at hrd;have Hsu:=B8S hsu;have Hrd:=B8S hrd;clear hsu hrd hQ hil;refine B8N ?_;refine r0T ?_;refine B8V (rfl) ?_;refine B8U ?_;refine A6 ?_;refine B8N ?_;refine B8v ?_;refine M4 (w:=w) A8 6 [0,0,0,0,0,1] (by kernel_rfl) (by simp only[List.drop_succ_cons,List.drop_zero];exact rfl) (λ_=>True) noG hB hG trivial ?_;intro K L hN hL;simp only[List.zip_cons_cons,List.zip_nil_left]
   repeat first|refine gya ?_|refine gyr ?_|refine gna ?_|refine gyb (by(rintro v ⟨hgu,hB,hG,-⟩ N hN;have r:=hB.r;simp only[BxR]at r;obtain⟨-,hc1,hc2,hc3⟩:=Hrd.out v hG;go_simp;exact hN)) ?_
   refine gmd (C:=λv ⟨hgu,hB,hG,_⟩=>A8n p.1 p.2 Q _ (Hrd.out _ hG).1.a (Hrd.out _ hG).1.b z (HT.grow hG)) ?_;refine H8 ?_;rintro v ⟨hgu,hB1,hG1,-⟩;have ROWn:=B8S (C5 Ho.out hgu);clear Ho;have Ho:=ROWn;clear ROWn;clear hB hG;have hB:=hB1;have hG:=hG1;clear hB1 hG1;refine hL _ _ ?_;clear hL L hgu;obtain⟨u,rfl⟩:=exQ v;refine L6 A3S w.heap.size _ _ _ _ (qL Q) rfl rfl (A4c Q u) rfl (λ_=>rfl) (λ_=>rfl) (λ_ _=>rfl) Ho.out (by omega) (by omega) hG.sz λp v' w' g1 g2 g3=>?_;have hBn:=Bx.nil w';have hGn:=K3 Ho.out hG g2;clear Ho hB hG;have Ho:=B8S g1;have hB:=hBn;have hG:=hGn;clear g1 g2 g3 hBn hGn;obtain⟨u,rfl⟩:=exQ w';simp only[Act.put,List.setIfInBounds_toArray,List.set_cons_succ,List.set_cons_zero];refine NoK.norm (hN _ _ ?_);clear hN K;refine C8 ?_;refine A6 ?_;refine r0E ?_;refine A6 ?_;go_roundw
   case rel=>exact⟨i+1,by omega,by go_num,by have:=Ho.out;rw[Hsu.out,B97];simpa using this,hG⟩
   case measure=>simp[intOf];omega
  ·obtain rfl:n=i:=by omega
   have hdec:decide ((n:Int)<(n:Int))=false:=by simp
   have ho2:=Ho.out;rw[B8u (B84 Hn.out.symm)]at ho2;have HL:=B8S ho2;clear ho2;refine B8N ?_;refine r0T ?_;refine B8T (rfl) ?_;refine B8x ?_;refine B7 ?_;refine B7 ?_;refine D0 ?_;refine A6 ?_;refine r0T ?_;refine rt Tryz.results16 ?_;exact⟨_,rfl,HL.out,hG⟩
theorem B13(A:Option Addr)(l:List Rat)(c n:Nat)(hn:n=l.length)(hm:n<=1048576)(hs:∀x∈l,qs x<=BIG)(w:World)(h:Lz w A l)(HT:Tab w) :
  Calls Tryz.prog 16 #[.slice A n c] w λe w'=>∃(A':Option Addr) (c':Nat),e = .returned (.slice A' n c')/\Lq w' A' l/\A4 w w' :=
 (A7z A l c n hn hm hs w h HT).mono λe w' ⟨v,he,ho,hG⟩=>by
  obtain⟨A',cc,rfl,hcc1,hcc2,hL,hkl⟩:=Q8 ho;exact⟨A',cc,he,hL,hG⟩
theorem B40:B9 0=0:=rfl
abbrev A4Q(p:Az)(q:Rat):Array Value:=#[.bool (F9 q.num),.slice p.1.1 (ln q.num.natAbs) p.1.2,.slice p.2.1 (ln q.den) p.2.2]
abbrev B2c:Array Value:=#[.bool false,.slice none 0 0,.slice none 0 0]
theorem H5{f g:Nat->Rat}{n:Nat}(h:∀i,i<n->f i=g i):D2 f n=D2 g n:=by
 induction n with
 | zero=>rfl
 | succ n ih=>simp only[D2];rw[ih (λi hi=>h i (by omega)),h n (by omega)]
theorem B4m(A B:Option Addr)(l l':List Rat)(c d n:Nat)(hn:n=l.length)(hn':n=l'.length)(hm:n<=1099511627776)(s M:Nat)(hs:∀x∈l,qs x<=s)(hs':∀x∈l',qs x<=s)(hM:∀j,j<=n->qs (D2 (λi=>C3 (gq l i) (gq l' i)) j)<=M)(hB:M+2*s+100<=BIG)(w:World)(h:Lz w A l)(h':Lz w B l') :
  Calls Tryz.prog 105 #[.slice A n c,.slice B n d] w (Ret (F7 (D2 (λi=>C3 (gq l i) (gq l' i)) n)) w):=by
 have H:=B8S h;have H':=B8S h';have Hs:=B8S hs;have Hs':=B8S hs';have HM:=B8S hM;have Hn:=B8S hn;have Hn':=B8S hn';clear h hs hM hn h' hs' hn';go_enter Tryz.func105,Tryz.ntmps105;refine en1 ?_;intro u hG b4 hB hF;refine B8N (rsC H4 [1,2] hB hG λK L hN hL=>?_);refine grd (F7 (B9 0)) (λ(x7:Ax×Ax)=>?_) (C:=λv _=>A0t 0 (by omega) (by omega) _);refine gaa (A38 _ _ _ _ _) λb5 hb5 hn5=>?_;replace hF:=hF.n1 [] hB hG hb5 hn5;refine geC hL ?_;clear hB hG hL L;rintro u ⟨⟨⟨-,hB,hG,-⟩,hx7⟩,h5⟩;replace hB:=hB.cons' h5;clear h5;obtain⟨hx7a,hx7b⟩:Rn u x7.1 _/\Rn u x7.2 _:=hx7;clear hb5 hn5;refine gtT ?_;clear hN K;refine sv hB hF hG 0 0 [_,_,_] ?_;intro u hu hBG;replace hx7a:=hx7a.put hB 0 rfl (by first|decide|simp) _ _ hu;replace hx7b:=hx7b.put hB 0 rfl (by first|decide|simp) _ _ hu;clear hB hG hu;obtain⟨hB,hG⟩:=hBG;refine B8N ?_;refine r0T ?_;refine B8v ?_;go_loopw [6] (λs0 wr=>∃(j:Nat) (S:Rat) (p:Az),j<=n/\s0 = .int .i64 j/\(S=D2 (λi=>C3 (gq l i) (gq l' i)) j/\Rz wr p S)/\Bx wr [(b5,33,A4Q p S),(b4,33,B2c)]/\A4 w wr) (λs0 _=>n-(intOf s0).toNat)
 case atStart=>exact⟨0,B9 0,x7,B8k _,rfl,⟨B40,⟨hx7a,hx7b⟩⟩,hB,hG⟩
 case round =>
  clear hB hG;obtain⟨j,S,p,hj,rfl,hrel0,hB,hG⟩:=hrel;obtain⟨u,rfl⟩:=exQ wr;have H0:=B8S hrel0;clear hrel0;rcases B73 j n with hlt0|hge0
  ·have hdec:decide ((j:Int)<(n:Int))=true:=by simp;omega
   have hjl:j<l.length:=by rw[<-Hn.out];exact hlt0
   have hjl':j<l'.length:=by rw[<-Hn'.out];exact hlt0
   have z1:=HM.out j (by omega);have z2:=Hs.out _ (A2o hjl);have z3:=Hs'.out _ (A2o hjl');have hnx:D2 (λi=>C3 (gq l i) (gq l' i)) (j+1)=G9 (D2 (λi=>C3 (gq l i) (gq l' i)) j) (C3 (gq l j) (gq l' j)):=rfl;rw[<-H0.out.1]at z1 hnx;obtain⟨ba,oa,rfl⟩:=H.out.addr (by omega);obtain⟨bb,ob,rfl⟩:=H'.out.addr (by omega);obtain⟨r,hrd⟩:=H.out.read hjl;obtain⟨r',hrd'⟩:=H'.out.read hjl';obtain⟨X,hX⟩:∃F,F=gq l j:=⟨_,rfl⟩
   obtain⟨Y,hY⟩:∃F,F=gq l' j:=⟨_,rfl⟩
   rw[<-hX]at z2;rw[<-hY]at z3;rw[<-hX,<-hY]at hnx;simp only[<-hX]at hrd;simp only[<-hY]at hrd';have z4:qs (C3 X Y)<=2*s:=by have:=Y4 X Y;unfold C3;omega
   have hS:=H0.out.2;have Hrd:=B8S hrd;have Hrd':=B8S hrd';have Hnx:=B8S hnx;clear hrd hrd' hnx hX hY hjl hjl' H0;refine B8N ?_;refine r0T ?_;refine B8V (rfl) ?_;refine B8U ?_;refine A6 ?_;refine B8N ?_;refine B8v ?_;refine rdC H4 [] [(0,0),(0,1),(0,2),(0,3),(0,4),(0,5),(0,6),(0,7),(0,8),(1,9),(1,10)] hB hG λK L hN hL=>?_
   repeat first|refine gya ?_|refine gyr ?_|refine gna ?_|refine gyb (by(rintro v ⟨hgu,hB,hG,-⟩ N hN;have r:=hB.r;simp only[BxR]at r;obtain⟨-,c1,c2,c3⟩:=Hrd.out v hG;obtain⟨-,d1,d2,d3⟩:=Hrd'.out v hG;go_simp;exact hN)) ?_
   refine grd (F7 (C3 X Y)) (λ(x23:Ax×Ax)=>?_) (C:=by(rintro v ⟨hgu,hB,hG,-⟩;exact A3P r.1 r.2 r'.1 r'.2 X Y _ (Hrd.out _ hG).1.a (Hrd.out _ hG).1.b (Hrd'.out _ hG).1.a (Hrd'.out _ hG).1.b (by omega)));refine grd (F7 (G9 S (C3 X Y))) (λ(x24:Ax×Ax)=>?_) (C:=by(rintro v ⟨⟨hgu,hB,hG,-⟩,hx23⟩;obtain⟨hx23a,hx23b⟩:Rn v x23.1 _/\Rn v x23.2 _:=hx23;exact B0H p.1 p.2 x23.1 x23.2 S (C3 X Y) _ (hS.grow hgu).a (hS.grow hgu).b hx23a hx23b (by omega)));refine geC hL ?_;clear hB hG hL L;rintro u ⟨⟨⟨hgu,hB,hG,-⟩,hx23⟩,hx24⟩;replace hS:=hS.grow hgu;obtain⟨hx23a,hx23b⟩:Rn u x23.1 _/\Rn u x23.2 _:=hx23;obtain⟨hx24a,hx24b⟩:Rn u x24.1 _/\Rn u x24.2 _:=hx24;clear hgu;refine gt ?_;clear hN K;refine sv hB hF hG 0 0 [_,_,_] ?_;intro u hu hBG;replace hS:=hS.put hB 0 rfl (by first|decide|simp) _ _ hu;replace hx23a:=hx23a.put hB 0 rfl (by first|decide|simp) _ _ hu;replace hx23b:=hx23b.put hB 0 rfl (by first|decide|simp) _ _ hu;replace hx24a:=hx24a.put hB 0 rfl (by first|decide|simp) _ _ hu;replace hx24b:=hx24b.put hB 0 rfl (by first|decide|simp) _ _ hu;clear hB hG hu;obtain⟨hB,hG⟩:=hBG;refine C8 ?_;refine A6 ?_;refine r0E ?_;refine A6 ?_;go_roundw
   case rel=>exact⟨j+1,G9 S (C3 X Y),x24,by omega,by go_num,⟨Hnx.out.symm,⟨hx24a,hx24b⟩⟩,hB,hG⟩
   case measure=>simp[intOf];try omega
  ·obtain rfl:n=j:=by omega
   have hdec:decide ((n:Int)<(n:Int))=false:=by simp
   have hS:=H0.out.2;have HS0:=B8S H0.out.1;clear H0;refine B8N ?_;refine r0T ?_;refine B8T (rfl) ?_;refine B8x ?_;refine B7 ?_;refine B7 ?_;refine D0 ?_;refine A6 ?_;refine r0T ?_;refine sv hB hF hG 1 0 [_,_,_] ?_;intro u hu hBG;replace hS:=hS.put hB 1 rfl (by first|decide|simp) _ _ hu;clear hB hG hu;obtain⟨hB,hG⟩:=hBG;refine rt Tryz.results105 ?_;exact B4Z HS0.out hS.a hS.b hG
abbrev A0E(q:Rat):Array Value:=#[.bool (F9 q.num),.int .u64 (C4 q.num.natAbs),.string (B8 q.num.natAbs),.int .u64 (C4 (U5 q.den)),.string (B8 (U5 q.den))]
def A3c(b2 b8:Nat)(A:Option Addr)(m c:Nat)(l:List Rat)(q:Rat)(W:World):Prop :=
 Blk W b2 35 #[.slice A m c]/\Blk W b8 48 (A0E q)/\Lq W A l
theorem A3c.mk{b2 b8:Nat}{A:Option Addr}{m c:Nat}{l:List Rat}{q:Rat}{u:World}(h1:Blk u b2 35 #[.slice A m c])(h2:Blk u b8 48 (A0E q))(h3:Lq u A l):A3c b2 b8 A m c l q u:=⟨h1,h2,h3⟩
theorem A3c.grow{b2 b8:Nat}{A:Option Addr}{m c:Nat}{l:List Rat}{q:Rat}{u u':World}(hg:A4 u u')(h:A3c b2 b8 A m c l q u):A3c b2 b8 A m c l q u':=⟨h.1.grow hg,h.2.1.grow hg,h.2.2.grow hg⟩
def A3a(b3 b4 b5 b8:Nat)(A B:Option Addr)(m c d:Nat)(l l':List Rat)(a:Rat)(W:World):Prop :=
 Blk W b3 35 #[.slice A m c]/\Blk W b4 35 #[.slice B m d]/\Blk W b5 48 (A0E a)/\Blk W b8 48 (A0E (B9 1))/\Lq W A l/\Lq W B l'
theorem A3a.mk{b3 b4 b5 b8:Nat}{A B:Option Addr}{m c d:Nat}{l l':List Rat}{a:Rat}{u:World}(h1:Blk u b3 35 #[.slice A m c])(h2:Blk u b4 35 #[.slice B m d])(h3:Blk u b5 48 (A0E a))(h4:Blk u b8 48 (A0E (B9 1)))(h5:Lq u A l)(h6:Lq u B l'):A3a b3 b4 b5 b8 A B m c d l l' a u:=⟨h1,h2,h3,h4,h5,h6⟩
theorem A3a.grow{b3 b4 b5 b8:Nat}{A B:Option Addr}{m c d:Nat}{l l':List Rat}{a:Rat}{u u':World}(hg:A4 u u')(h:A3a b3 b4 b5 b8 A B m c d l l' a u):A3a b3 b4 b5 b8 A B m c d l l' a u' :=
 ⟨h.1.grow hg,h.2.1.grow hg,h.2.2.1.grow hg,h.2.2.2.1.grow hg,h.2.2.2.2.1.grow hg,h.2.2.2.2.2.grow hg⟩
def LzX(u:World)(bs:List Nat)(A:Option Addr)(l:List Rat):Prop:=Lz u A l/\(∀b off,A=some ⟨b,off,none⟩->b∉bs)/\0<l.length
theorem LzX.a{u:World}{bs:List Nat}{A:Option Addr}{l:List Rat}(h:LzX u bs A l):Lz u A l:=h.1
theorem LzX.grow{u u':World}{bs:List Nat}{A:Option Addr}{l:List Rat}(h:LzX u bs A l)(hg:A4 u u'):LzX u' bs A l:=⟨h.1.grow hg,h.2⟩
theorem Cz.far{u:World}{b i:Nat}{p:Az}{q:Rat}(h:Cz u b i p q){a:Addr}(ha:b≠a.block)(v:Value):Cz (u.setCell a v) b i p q:=by
 have key:∀j,(u.setCell a v).cell? ⟨b,j,none⟩=u.cell? ⟨b,j,none⟩:=λj=>World.cell?_of_block (B8F u a v b ha);exact⟨(key _).trans h.1,(key _).trans h.2.1,(key _).trans h.2.2⟩
theorem LzX.put{u u':World}{bs:List Nat}{A:Option Addr}{l:List Rat}(h:LzX u bs A l){bl:List (Nat×TypeId×Array Value)}(hB:Bx u bl)(k:Nat){b:Nat}{t:TypeId}{cs:Array Value}(hk:bl[k]?=some (b,t,cs))(ht:b∈bs/\t≠193)(i:Nat)(vs:List Value)(hu:C7 u b i vs=u'):LzX u' bs A l:=by
 refine⟨λhn=>?_,h.2⟩;obtain⟨ba,oa,e,hb,hc⟩:=h.1 hn;have hne:ba≠b:=λe'=>h.2.1 ba oa e (e' ▸ ht.1);have hsz:∀(vs:List Value) (i:Nat) (u:World),(C7 u b i vs).heap.size=u.heap.size:=by
  intro vs
  induction vs with
  | nil=>exact λ_ _=>rfl
  | cons v vs ih=>exact λi u=>(ih (i+1) (u.setCell ⟨b,i,none⟩ v)).trans (by simp[World.setCell])
 have hcz:∀(vs:List Value) (i:Nat) (u:World) (j:Nat) (p:Az) (q:Rat),Cz u ba j p q->Cz (C7 u b i vs) ba j p q:=by
  intro vs
  induction vs with
  | nil=>exact λ_ _ _ _ _ h=>h
  | cons v vs ih=>exact λi u j p q h=>ih (i+1) (u.setCell ⟨b,i,none⟩ v) j p q (h.far (a:=⟨b,i,none⟩) hne v)
 refine⟨ba,oa,e,by rw[<-hu,hsz];exact hb,λj hj=>?_⟩;obtain⟨p,h1,h2⟩:=hc j hj;exact⟨p,h1.put hB k hk ht.2 i vs hu,by rw[<-hu];exact hcz vs i u _ p _ h2⟩
theorem LzX.lt{u:World}{bs:List Nat}{A:Option Addr}{l:List Rat}(h:LzX u bs A l):∀b off,A=some ⟨b,off,none⟩->b<u.heap.size:=λb off e=>by
 obtain⟨b',off',e',hb,_⟩:=h.1 (λh0=>by have:=h.2.2;rw[h0]at this;cases this);rw[e]at e';cases e';exact hb
theorem LzX.more{v:World}{n b:Nat}{bs:List Nat}{A:Option Addr}{l:List Rat}(h:LzX v bs A l)(hlt:∀b off,A=some ⟨b,off,none⟩->b<n)(hb:n<=b):LzX v (b::bs) A l :=
 ⟨h.1,λb' off e hm=>by
  rcases List.mem_cons.1 hm with rfl|hm
  ·have:=hlt b' off e;omega
  ·exact h.2.1 b' off e hm,h.2.2⟩
theorem LzX.addr{u:World}{bs:List Nat}{A:Option Addr}{l:List Rat}(h:LzX u bs A l):∃b off,A=some ⟨b,off,none⟩:=h.1.addr h.2.2
theorem Li.at{u:World}{A:Option Addr}{l:List Int}{i:Nat}(h:Li u A l)(hi:i<l.length):∃b off,A=some ⟨b,off,none⟩/\∀W,A4 u W->W.cell? ⟨b,off+i,none⟩=some (.int .i64 (gi l i)):=by
 obtain⟨b,off,e,-⟩:=h.cell hi;refine⟨b,off,e,λW hg=>?_⟩;obtain⟨b',o',e',hc⟩:=(h.grow hg).cell hi;rw[e]at e';cases e';exact hc
abbrev O9(l:List Int):List Value:=l.map λx=>Value.int .i64 x
theorem A2w(y:Int)(w:World):(Instr.buildSlice 22 1 #[(0,.int .i64 y)]).run Tryz.prog w = .ok (.slice (some ⟨w.heap.size,0,none⟩) 1 1) (w.alloc (.cells #[.int .i64 y] 3)):=by
 go_simp
theorem A3r:EI 22 3 1 8:=A03 (by kernel_rfl) (by kernel_rfl) (by omega)
theorem A1M{u:World}{B n:Nat}{v:Value}{l:List Int}(h:u.ownsRow B 3 1 v n (O9 l))(hn:n=l.length):∃A c,v = .slice A n c/\n<=c/\Li u A l:=by
 subst hn;obtain⟨_,h|⟨g,cap,cur,rfl,hb,hh,hn,hc,hs,ht⟩⟩:=h
 ·obtain⟨rfl,h0⟩:=h;exact⟨none,0,by rw[h0],by omega,λhne=>absurd (B76 h0) hne⟩
 ·refine⟨_,cap,rfl,hn,λ_=>⟨g,0,rfl,N7 hh,λi x hi=>?_⟩⟩;rw[Nat.zero_add,B8E u g i cur 3 (0,0) hh];have hil:i<l.length:=(List.getElem?_eq_some_iff.1 hi).1;have h1:(cur.toList.take (l.length*1))[i]?=some (.int .i64 x):=by rw[ht,List.getElem?_map,hi];rfl
  rw[B9b,if_pos (by omega)]at h1
  simpa using h1
end Go.Proofs.YtgpglgbcobeogaaGreatDoor
