import Derived.Test.YtgpglgbcobeogaaGreatDoorK23
import Derived.Test.YtgpglgbcobeogaaGreatDoorK24
set_option linter.unusedSimpArgs false
set_option linter.unusedVariables false
set_option maxHeartbeats 2000000
set_option maxRecDepth 100000
namespace Go.Proofs.YtgpglgbcobeogaaGreatDoor
open Go.RowKit
theorem Rz.a{u:World}{p:Az}{q:Rat}(h:Rz u p q):Rn u p.1 q.num.natAbs:=h.1
theorem Rz.b{u:World}{p:Az}{q:Rat}(h:Rz u p q):Rn u p.2 q.den:=h.2
theorem Rz.put{u u':World}{p:Az}{q:Rat}(h:Rz u p q){bl:List (Nat×TypeId×Array Value)}(hB:Bx u bl)(k:Nat){b:Nat}{t:TypeId}{cs:Array Value}(hk:bl[k]?=some (b,t,cs))(ht:t≠193)(i:Nat)(vs:List Value)(hu:C3 u b i vs=u'):Rz u' p q:=⟨h.1.put hB k hk ht i vs hu,h.2.put hB k hk ht i vs hu⟩
theorem Rz.own{u w':World}{B:Nat}{e:TypeId}{size n:Nat}{v:Value}{xs:List Value}{o:Obj}{p:Az}{q:Rat}(hl:Rz u p q)(h:u.ownsRow B e size v n xs)(ht:e≠193)(hg:(u.alloc o).grownBy w' v.ownBlock):Rz w' p q:=⟨hl.1.own h ht hg,hl.2.own h ht hg⟩
def zL(p:Az)(q:Rat):List Value:=[.bool (D9 q.num),.slice p.1.1 (ln q.num.natAbs) p.1.2,.slice p.2.1 (ln q.den) p.2.2]
def Cz(u:World)(b i:Nat)(p:Az)(q:Rat):Prop :=
 u.cell? ⟨b,i,none⟩=some (.bool (D9 q.num))/\u.cell? ⟨b,i+1,none⟩=some (.slice p.1.1 (ln q.num.natAbs) p.1.2)/\u.cell? ⟨b,i+2,none⟩=some (.slice p.2.1 (ln q.den) p.2.2)
def Lz(u:World)(A:Option Addr)(l:List Rat):Prop :=
 l≠[]->∃b off,A=some ⟨b,off,none⟩/\b<u.heap.size/\∀i,i<l.length->∃p:Az,Rz u p (gq l i)/\Cz u b (off+i*3) p (gq l i)
theorem Cz.grow{u u':World}{b i:Nat}{p:Az}{q:Rat}(h:Cz u b i p q)(hb:b<u.heap.size)(hg:A4 u u'):Cz u' b i p q :=
 ⟨(hg.cell (p:=⟨b,i,none⟩) hb).trans h.1,(hg.cell (p:=⟨b,i+1,none⟩) hb).trans h.2.1,(hg.cell (p:=⟨b,i+2,none⟩) hb).trans h.2.2⟩
theorem Lz.grow{u u':World}{A:Option Addr}{l:List Rat}(h:Lz u A l)(hg:A4 u u'):Lz u' A l:=λhn=>by
 obtain⟨b,off,e,hb,hc⟩:=h hn;refine⟨b,off,e,B9y hb hg.size,λi hi=>?_⟩;obtain⟨p,h1,h2⟩:=hc i hi;exact⟨p,h1.grow hg,h2.grow hb hg⟩
theorem Lz.nil(u:World)(A:Option Addr):Lz u A []:=λh=>absurd rfl h
theorem Lz.addr{u:World}{A:Option Addr}{l:List Rat}(h:Lz u A l)(hl:0<l.length):∃b off,A=some ⟨b,off,none⟩:=by
 obtain⟨b,off,e,_⟩:=h (λh0=>by rw[h0]at hl;cases hl);exact⟨b,off,e⟩
theorem Lz.read{u:World}{b off:Nat}{l:List Rat}(h:Lz u (some ⟨b,off,none⟩) l){i:Nat}(hi:i<l.length):∃p:Az,∀W,A4 u W->Rz W p (gq l i)/\Cz W b (off+i*3) p (gq l i):=by
 obtain⟨b',off',e,hb,hc⟩:=h (λh0=>by rw[h0]at hi;cases hi);cases e;obtain⟨p,h1,h2⟩:=hc i hi;exact⟨p,λW hg=>⟨h1.grow hg,h2.grow hb hg⟩⟩
abbrev Zr:=Az×Rat
def zrL(r:Zr):List Value:=zL r.1 r.2
def M9(u:World)(ps:List Zr):Prop:=∀r∈ps,Rz u r.1 r.2
theorem M9.nil(u:World):M9 u []:=λ_ h=>by cases h
theorem M9.grow{u u':World}{ps:List Zr}(h:M9 u ps)(hg:A4 u u'):M9 u' ps:=λr hr=>(h r hr).grow hg
theorem M9.put{u u':World}{ps:List Zr}(h:M9 u ps){bl:List (Nat×TypeId×Array Value)}(hB:Bx u bl)(k:Nat){b:Nat}{t:TypeId}{cs:Array Value}(hk:bl[k]?=some (b,t,cs))(ht:t≠193)(i:Nat)(vs:List Value)(hu:C3 u b i vs=u'):M9 u' ps:=λr hr=>(h r hr).put hB k hk ht i vs hu
theorem M9.own{u w':World}{B:Nat}{e:TypeId}{size n:Nat}{v:Value}{xs:List Value}{o:Obj}{ps:List Zr}(hl:M9 u ps)(h:u.ownsRow B e size v n xs)(ht:e≠193)(hg:(u.alloc o).grownBy w' v.ownBlock):M9 w' ps:=λr hr=>(hl r hr).own h ht hg
theorem M9.snoc{u:World}{ps:List Zr}(h:M9 u ps){p:Az}{q:Rat}(h1:Rn u p.1 q.num.natAbs)(h2:Rn u p.2 q.den):M9 u (ps++[(p,q)]):=λr hr=>by
 rcases List.mem_append.1 hr with hr|hr
 ·exact h r hr
 ·have:r=(p,q):=by simpa using hr
  subst this;exact⟨h1,h2⟩
theorem A46(r:Zr):(zrL r).length=3:=rfl
theorem B18(l:List Zr){i:Nat}{r:Zr}(hi:l[i]?=some r){j:Nat}(hj:j<3):(l.flatMap zrL)[i*3+j]?=(zrL r)[j]?:=by
 induction l generalizing i with
 | nil=>simp at hi
 | cons x l ih =>
  rw[List.flatMap_cons]
  cases i with
  | zero =>
   simp at hi;subst hi;rw[C1L (by rw[A46];omega)];simp
  | succ i =>
   rw[C1M (by rw[A46];omega),A46,show(i+1)*3+j-3=i*3+j by omega];exact ih (by simpa using hi)
theorem B9E(l:List Zr):(l.flatMap zrL).length=3*l.length:=by
 induction l with
 | nil=>rfl
 | cons x l ih=>simp[List.flatMap_cons,A46,ih];omega
theorem A6m{u:World}{B n:Nat}{v:Value}{ps:List Zr}(h:u.ownsRow B 33 3 v n (ps.flatMap zrL))(ha:M9 u ps):∃A c,v = .slice A n c/\(∀b off,A=some ⟨b,off,none⟩->B<=b)/\c<=maxLen/\Lz u A (ps.map (·.2))/\n=ps.length:=by
 have hn:n=ps.length:=by have:=h.1;rw[B9E]at this;omega
 obtain⟨_,h|⟨g,cap,cur,rfl,hb,hh,hn',hc,hs,ht⟩⟩:=h
 ·obtain⟨rfl,h0⟩:=h;exact⟨none,0,by rw[h0],(λb off e=>by cases e),by unfold maxLen;omega,λhne=>absurd (by rw[B9X (l:=ps) (by omega)];rfl) hne,hn⟩
 ·refine⟨_,cap,rfl,(λb off e=>by cases e;exact hb),hc,λ_=>⟨g,0,rfl,K9 hh,λi hi=>?_⟩,hn⟩;have hil:i<ps.length:=by simpa using hi
  obtain⟨r,hr⟩:∃r,ps[i]?=some r:=⟨_,B99 hil⟩
  have hq:gq (ps.map (·.2)) i=r.2:=by unfold gq;rw[List.getElem?_map,hr];rfl
  rw[hq];refine⟨r.1,ha r (B9k hr),?_⟩;have key:∀j v,j<3->(zrL r)[j]?=some v->u.cell? ⟨g,0+i*3+j,none⟩=some v:=λj v hj hv=>by
   rw[B9f u g _ cur 33 (0,0) hh,Nat.zero_add];have h1:(cur.toList.take (n*3))[i*3+j]?=some v:=by rw[ht,B18 ps hr hj,hv]
   rw[C02,if_pos (by omega)]at h1
   simpa using h1
  exact⟨key 0 _ (by omega) rfl,key 1 _ (by omega) rfl,key 2 _ (by omega) rfl⟩
theorem A0A(l:List Rat):(l.flatMap qL).length=5*l.length:=by
 induction l with
 | nil=>rfl
 | cons x l ih=>simp[List.flatMap_cons,qL,ih];omega
theorem A3H(l:List Rat){i:Nat}{q:Rat}(hi:l[i]?=some q){j:Nat}(hj:j<5):(l.flatMap qL)[i*5+j]?=(qL q)[j]?:=by
 induction l generalizing i with
 | nil=>simp at hi
 | cons x l ih =>
  rw[List.flatMap_cons]
  cases i with
  | zero =>
   simp at hi;subst hi;rw[C1L (by simp[qL];omega)];simp
  | succ i =>
   rw[C1M (by simp[qL];omega),show(qL x).length=5 from rfl,show(i+1)*5+j-5=i*5+j by omega];exact ih (by simpa using hi)
theorem M7{u:World}{B n:Nat}{v:Value}{l:List Rat}(h:u.ownsRow B 48 5 v n (l.flatMap qL)):∃A c,v = .slice A n c/\n<=c/\c<=maxLen/\Lq u A l/\n=l.length:=by
 have hn:n=l.length:=by have:=h.1;rw[A0A]at this;omega
 obtain⟨_,h|⟨g,cap,cur,rfl,hb,hh,hn',hc,hs,ht⟩⟩:=h
 ·obtain⟨rfl,h0⟩:=h;exact⟨none,0,by rw[h0],by omega,by unfold maxLen;omega,λhne=>absurd (B9X (by omega)) hne,hn⟩
 ·refine⟨_,cap,rfl,hn',hc,λ_=>⟨g,0,rfl,K9 hh,λi q hi j v hj=>?_⟩,hn⟩;have hil:i<l.length:=(List.getElem?_eq_some_iff.1 hi).1;have hj5:j<5:=(List.getElem?_eq_some_iff.1 hj).1;rw[B9f u g _ cur 48 (0,0) hh,Nat.zero_add];have h1:(cur.toList.take (n*5))[i*5+j]?=some v:=by rw[ht,A3H l hi hj5,hj]
  rw[C02,if_pos (by omega)]at h1
  simpa using h1
theorem A2l(n m:Int)(hm:0<m)(hm2:m<=9223372036854775807)(w:World):Calls Tryz.prog 24 #[.int .i64 n,.int .i64 m] w λe w'=>e = .returned (.int .i64 (K8 n m))/\A4 w w' :=
 (B1w n m hm hm2 w).mono λe w' ⟨h,hw⟩=>⟨h,hw ▸ A4.refl _⟩
def A1c:Nat->Int
 | 3=>2
 | 4=>3
 | 5=>4
 | _=>1
def A2J(n:Int):Rat:=K3 (K8 n 41-20) (A1c (K8 (n.tdiv 41) 6).toNat)
theorem A9N(j:Nat):0<A1c j/\A1c j<=4:=by unfold A1c;split<;>omega
theorem B4d(n:Int):qs (A2J n)<=5:=by
 have h1:=A2N n (m:=41) (by omega);have h2:=A9N (K8 (n.tdiv 41) 6).toNat;exact B3l 0 0 _ _ 5 (by omega) (by omega) (by omega)
theorem B33(n:Int)(h0 : -9223372036854775808<=n)(h1:n<=9223372036854775807) : -9223372036854775808<=n.tdiv 41/\n.tdiv 41<=9223372036854775807:=by
 have h:n.tdiv 41=n/41\/n.tdiv 41=n/41+1:=by
  rw[Int.tdiv_eq_ediv];split
  ·left;omega
  ·right;rfl
 omega
theorem B7h(j:Nat)(hj:j<6)(W:World):(Instr.index 104 (.agg #[.int .i64 1,.int .i64 1,.int .i64 1,.int .i64 2,.int .i64 3,.int .i64 4]) (.int .i64 (j:Nat))).run Tryz.prog W = .ok (.int .i64 (A1c j)) W:=by
 rcases (by omega:j=0\/j=1\/j=2\/j=3\/j=4\/j=5)with rfl|rfl|rfl|rfl|rfl|rfl<;>kernel_rfl
theorem B7j(n:Int)(w:World)(h0 : -9223372036854775808<=n)(h1:n<=9223372036854775807):Calls Tryz.prog 13 #[.int .i64 n] w (Ret (A0C (A2J n)) w):=by
 obtain⟨t,ht⟩:∃t,t=n.tdiv 41:=⟨_,rfl⟩
 have htb : -9223372036854775808<=t/\t<=9223372036854775807:=by rw[ht];exact B33 n h0 h1
 have htw:IntKind.i64.wrap t=t:=C0A _ htb;obtain⟨r1,r2⟩:=A2N n (m:=41) (by omega);obtain⟨s1,s2⟩:=A2N t (m:=6) (by omega);have hov:∀W,Calls Tryz.prog 25 #[.int .i64 (K8 n 41-20),.int .i64 (A1c (K8 t 6).toNat)] W (Ret (A0C (A2J n)) W):=λW=>by
  have h2:=A9N (K8 t 6).toNat;have:=B0O (K8 n 41-20) (A1c (K8 t 6).toNat) (by omega) (by omega) (by omega) (by omega) (by omega) W;rw[ht]at this⊢;exact this
 obtain⟨Q,hQ⟩:∃Q,Q=A2J n:=⟨_,rfl⟩
 rw[<-hQ]at hov⊢;obtain⟨p,hp⟩:∃p,p=K8 n 41:=⟨_,rfl⟩
 obtain⟨j,hj⟩:∃j:Nat,K8 t 6=(j:Int):=⟨(K8 t 6).toNat,by omega⟩
 have hpk1:=λW=>A2l n 41 (by omega) (by omega) W;have hpk2:=λW=>A2l t 6 (by omega) (by omega) W;rw[hj]at hpk2 hov s1 s2;rw[<-hp]at hpk1 hov r1 r2;rw[Int.toNat_natCast]at hov;have htd:n.tdiv 41=t:=ht.symm;have hix:=B7h j (by omega);have fw:IntKind.i64.wrap (p-20)=p-20:=C0A _ (by omega);obtain⟨D,hD⟩:∃D,D=A1c j:=⟨_,rfl⟩
 rw[<-hD]at hov;simp only[<-hD]at hix;have Hov:=B9t hov;have Hpk1:=B9t hpk1;have Hpk2:=B9t hpk2;clear ht hQ hp hj hD hov hpk1 hpk2;go_enter Tryz.func13,Tryz.ntmps13;refine en1 ?_;intro u hG b2 hB hF;refine B9o (rsC A8 [0,1,0,0,0,0,1,0,1] hB hG λK L hN hL=>?_);refine gs ?_;refine gmw (C:=λv=>Hpk1.out _) ?_;refine gs ?_;refine gmw (C:=λv=>Hpk2.out _) ?_;refine gs ?_;refine grd (A0C Q) (λ(x11:Ax×Ax)=>?_) (C:=λv _=>Hov.out _);refine geC hL ?_;clear hB hG hL L;rintro u ⟨⟨-,hB,hG,-⟩,hx11⟩;obtain⟨hx11a,hx11b⟩:Rn u x11.1 _/\Rn u x11.2 _:=hx11;refine gtT ?_;clear hN K;refine sv hB hF hG 0 0 [_,_,_] ?_;intro u hu hBG;replace hx11a:=hx11a.put hB 0 rfl (by first|decide|simp) _ _ hu;replace hx11b:=hx11b.put hB 0 rfl (by first|decide|simp) _ _ hu;clear hB hG hu;obtain⟨hB,hG⟩:=hBG;refine rt Tryz.results13 ?_;exact⟨x11,rfl,⟨hx11a,hx11b⟩,hG⟩
def A5I(l:List Int)(i:Nat):Rat:=if i<l.length then A2J (gi l i)else C2 0
def S3(l:List Int)(n:Nat):List Rat:=(List.range n).map (A5I l)
theorem A8b(l:List Int)(n:Nat):(S3 l n).length=n:=by unfold S3;simp
theorem B3t(l:List Int)(n:Nat):S3 l (n+1)=S3 l n++[A5I l n]:=by unfold S3;rw[C0k,List.map_append];rfl
theorem A89(A:Option Addr)(l:List Int)(c p n:Nat)(hp:p=l.length)(hn:n<=1048576)(hpm:p<=9223372036854775807)(hb:∀x∈l,-9223372036854775808<=x/\x<=9223372036854775807)(w:World)(h:Li w A l) :
  Calls Tryz.prog 31 #[.slice A p c,.int .i64 n] w λe w'=>∃(v:Value) (ps:List Zr),e = .returned v/\ps.map (·.2)=S3 l n/\M9 w' ps/\w'.ownsRow w.heap.size 33 3 v n (ps.flatMap zrL)/\A4 w w':=by
 have H:=B9t h;have Hp:=B9t hp;have Hb:=B9t hb;clear h hp hb;go_enter Tryz.func31,Tryz.ntmps31;refine en0 ?_;intro u hG hB hF;refine r0T ?_;refine B9o ?_;refine r0T ?_;refine C0M ?_;clear hB hF;go_loopw [6,5] (λs0 s1 wr=>∃(i:Nat) (ps:List Zr),i<=n/\s0 = .int .i64 i/\ps.map (·.2)=S3 l i/\M9 wr ps/\wr.ownsRow w.heap.size 33 3 s1 i (ps.flatMap zrL)/\A4 w wr) (λs0 _ _=>n-(intOf s0).toNat)
 case atStart=>exact⟨0,[],C0B _,rfl,rfl,M9.nil _,C1O _ _ _ _,hG⟩
 case round =>
  clear hG;obtain⟨i,ps,hi,rfl,hps,hA,ho,hG⟩:=hrel;obtain⟨u,rfl⟩:=exQ wr;have hB:=Bx.nil u;have hF:=Fr.nil w;have Ho:=B9t ho;have Hps:=B9t hps;clear ho hps;rcases B9U i n with hlt|hge
  ·have hdec:decide ((i:Int)<(n:Int))=true:=by simp;omega
   have hsu:=B3t l i
   have hun:A5I l i=if i<l.length then A2J (gi l i)else C2 0:=rfl
   by_cases hip:i<p
   ·have hil:i<l.length:=by rw[<-Hp.out];exact hip
    obtain⟨ba,oa,hAe,-⟩:=H.out.cell hil;have hcl:∀W,A4 w W->W.cell? ⟨ba,oa+i,none⟩=some (.int .i64 (gi l i)):=λW hg=>by
     obtain⟨b',o',e,hc⟩:=(H.out.grow hg).cell hil;rw[hAe]at e;cases e;exact hc
    obtain⟨x1,x2⟩:=Hb.out (gi l i) (B9k (A7J hil));rw[if_pos hil]at hun;rw[hun]at hsu;have hr:=λW=>B7j (gi l i) W x1 x2;obtain⟨X,hX⟩:∃X,X=gi l i:=⟨_,rfl⟩
    simp only[<-hX]at hcl hr;rw[<-hX]at hsu x1 x2;obtain⟨Q,hQ⟩:∃Q,Q=A2J X:=⟨_,rfl⟩
    simp only[<-hQ]at hr;rw[<-hQ]at hsu;have Hsu:=B9t hsu;have Hcl:=B9t hcl;have Hr:=B9t hr;have hdp:decide ((i:Int)<(p:Int))=true:=by simp;omega
    subst hAe;clear hsu hcl hr hX hQ hun hil;refine B9o ?_;refine r0T ?_;refine B9w (rfl) ?_;refine B9v ?_;refine A6 ?_;refine B9o ?_;refine C0M ?_;refine r0T ?_;refine B9w (rfl) ?_;refine T0 (w:=w) A8 6 [0,0,0,0,0,1] (by kernel_rfl) (by simp only[List.drop_succ_cons,List.drop_zero];exact rfl) (λ_=>True) noG hB hG trivial ?_;intro K L hN hL;simp only[List.zip_cons_cons,List.zip_nil_left]
    repeat first|refine gya ?_|refine gyr ?_|refine gna ?_|refine gyb (by(rintro v ⟨hgu,hB,hG,-⟩ N hN;have r:=hB.r;simp only[BxR]at r;have hcb:=Hcl.out v hG;go_simp;exact hN)) ?_
    refine grd (A0C Q) (λ(x21:Ax×Ax)=>?_) (C:=λv _=>Hr.out _);refine I7 ?_;rintro v ⟨⟨hgu,hB1,hG1,-⟩,hx21⟩;replace hA:=hA.grow hgu;obtain⟨hx21a,hx21b⟩:Rn v x21.1 _/\Rn v x21.2 _:=hx21;have ROWn:=B9t (C0 Ho.out hgu);clear Ho;have Ho:=ROWn;clear ROWn;clear hB hG;have hB:=hB1;have hG:=hG1;clear hB1 hG1;refine hL _ _ ?_;clear hL L hgu;obtain⟨u,rfl⟩:=exQ v;refine U5 A99 w.heap.size _ _ _ _ (zL x21 Q) rfl rfl (A8E x21.1 x21.2 Q u) rfl (λ_=>rfl) (λ_=>rfl) (λ_ _=>rfl) Ho.out (by omega) (by omega) hG.sz λp v' w' g1 g2 g3=>?_;have hBn:=Bx.nil w';have hGn:=V3 Ho.out hG g2;replace hA:=hA.own Ho.out (by decide) g2;replace hx21a:=hx21a.own Ho.out (by decide) g2;replace hx21b:=hx21b.own Ho.out (by decide) g2;clear Ho hB hG;have Ho:=B9t g1;have hB:=hBn;have hG:=hGn;clear g1 g2 g3 hBn hGn;obtain⟨u,rfl⟩:=exQ w';simp only[Act.put,List.setIfInBounds_toArray,List.set_cons_succ,List.set_cons_zero];refine NoK.norm (hN _ _ ?_);clear hN K;refine C7 ?_;refine A6 ?_;refine r0E ?_;refine A6 ?_;go_roundw
    case rel=>exact⟨i+1,ps++[(x21,Q)],by omega,by go_num,by rw[List.map_append,Hps.out,Hsu.out];rfl,hA.snoc hx21a hx21b,by have:=Ho.out;rw[C1Y];simpa [zrL]using this,hG⟩
    case measure=>simp[intOf];omega
   ·rw[if_neg (by rw[<-Hp.out];exact hip)]at hun;rw[hun]at hsu;have Hsu:=B9t hsu;have hdp:decide ((i:Int)<(p:Int))=false:=by simp;omega
    clear hsu hun;refine B9o ?_;refine r0T ?_;refine B9w (rfl) ?_;refine B9v ?_;refine A6 ?_;refine B9o ?_;refine C0M ?_;refine r0T ?_;refine B9u (rfl) ?_;refine T0 (w:=w) A8 2 [0,1] (by kernel_rfl) (by simp only[List.drop_succ_cons,List.drop_zero];exact rfl) (λ_=>True) noG hB hG trivial ?_;intro K L hN hL;simp only[List.zip_cons_cons,List.zip_nil_left];refine gs ?_;refine grd (A0C (C2 0)) (λ(x25:Ax×Ax)=>?_) (C:=λv _=>B6r 0 (by omega) (by omega) _);refine I7 ?_;rintro v ⟨⟨hgu,hB1,hG1,-⟩,hx25⟩;replace hA:=hA.grow hgu;obtain⟨hx25a,hx25b⟩:Rn v x25.1 _/\Rn v x25.2 _:=hx25;have ROWn:=B9t (C0 Ho.out hgu);clear Ho;have Ho:=ROWn;clear ROWn;clear hB hG;have hB:=hB1;have hG:=hG1;clear hB1 hG1;refine hL _ _ ?_;clear hL L hgu;obtain⟨u,rfl⟩:=exQ v;refine U5 A99 w.heap.size _ _ _ _ (zL x25 (C2 0)) rfl rfl (A8E x25.1 x25.2 (C2 0) u) rfl (λ_=>rfl) (λ_=>rfl) (λ_ _=>rfl) Ho.out (by omega) (by omega) hG.sz λp v' w' g1 g2 g3=>?_;have hBn:=Bx.nil w';have hGn:=V3 Ho.out hG g2;replace hA:=hA.own Ho.out (by decide) g2;replace hx25a:=hx25a.own Ho.out (by decide) g2;replace hx25b:=hx25b.own Ho.out (by decide) g2;clear Ho hB hG;have Ho:=B9t g1;have hB:=hBn;have hG:=hGn;clear g1 g2 g3 hBn hGn;obtain⟨u,rfl⟩:=exQ w';simp only[Act.put,List.setIfInBounds_toArray,List.set_cons_succ,List.set_cons_zero];refine NoK.norm (hN _ _ ?_);clear hN K;refine C7 ?_;refine A6 ?_;refine r0E ?_;refine A6 ?_;go_roundw
    case rel=>exact⟨i+1,ps++[(x25,C2 0)],by omega,by go_num,by rw[List.map_append,Hps.out,Hsu.out];rfl,hA.snoc hx25a hx25b,by have:=Ho.out;rw[C1Y];simpa [zrL]using this,hG⟩
    case measure=>simp[intOf];omega
  ·obtain rfl:n=i:=by omega
   have hdec:decide ((n:Int)<(n:Int))=false:=by simp
   refine B9o ?_;refine r0T ?_;refine B9u (rfl) ?_;refine C0O ?_;refine B9 ?_;refine B9 ?_;refine E3 ?_;refine A6 ?_;refine r0T ?_;refine rt Tryz.results31 ?_;exact⟨_,ps,rfl,Hps.out,hA,Ho.out,hG⟩
theorem B5P(A:Option Addr)(l:List Int)(c p n:Nat)(hp:p=l.length)(hn:n<=1048576)(hpm:p<=9223372036854775807)(hb:∀x∈l,-9223372036854775808<=x/\x<=9223372036854775807)(w:World)(h:Li w A l) :
  Calls Tryz.prog 31 #[.slice A p c,.int .i64 n] w λe w'=>∃(A':Option Addr) (c':Nat),e = .returned (.slice A' n c')/\(Lz w' A' (S3 l n)/\∀b off,A'=some ⟨b,off,none⟩->w.heap.size<=b)/\A4 w w' :=
 (A89 A l c p n hp hn hpm hb w h).mono λe w' ⟨v,ps,he,hps,hA,ho,hG⟩=>by
  obtain⟨A',cc,rfl,hcc1,hcc2,hL,hkl⟩:=A6m ho hA;rw[hps]at hL;exact⟨A',cc,he,⟨hL,hcc1⟩,hG⟩
theorem B0q(A:Option Addr)(l:List Rat)(c n:Nat)(hn:n=l.length)(hm:n<=1048576)(hs:∀x∈l,qs x<=BIG)(w:World)(h:Lz w A l)(HT:Tab w) :
  Calls Tryz.prog 16 #[.slice A n c] w λe w'=>∃v:Value,e = .returned v/\w'.ownsRow w.heap.size 48 5 v n (l.flatMap qL)/\A4 w w':=by
 have H:=B9t h;have Hn:=B9t hn;have Hs:=B9t hs;clear h hn hs;go_enter Tryz.func16,Tryz.ntmps16;refine en0 ?_;intro u hG hB hF;refine r0T ?_;refine B9o ?_;refine r0T ?_;refine C0M ?_;clear hB hF;go_loopw [4,3] (λs0 s1 wr=>∃(i:Nat),i<=n/\s0 = .int .i64 i/\wr.ownsRow w.heap.size 48 5 s1 i ((l.take i).flatMap qL)/\A4 w wr) (λs0 _ _=>n-(intOf s0).toNat)
 case atStart=>exact⟨0,C0B _,rfl,C1O _ _ _ _,hG⟩
 case round =>
  clear hG;obtain⟨i,hi,rfl,ho,hG⟩:=hrel;obtain⟨u,rfl⟩:=exQ wr;have hB:=Bx.nil u;have hF:=Fr.nil w;have Ho:=B9t ho;clear ho;rcases B9U i n with hlt|hge
  ·have hdec:decide ((i:Int)<(n:Int))=true:=by simp;omega
   have hil:i<l.length:=by rw[<-Hn.out];exact hlt
   have hsu:l.take (i+1)=l.take i++[gq l i]:=by
    rw[B98 hil];unfold gq;rw[B99 hil];rfl
   obtain⟨ba,oa,rfl⟩:=H.out.addr (by omega);obtain⟨p,hrd⟩:=(H.out).read hil;have z:=Hs.out _ (A4B hil);obtain⟨Q,hQ⟩:∃Q,Q=gq l i:=⟨_,rfl⟩
   rw[<-hQ]at hsu z;simp only[<-hQ]at hrd;have Hsu:=B9t hsu;have Hrd:=B9t hrd;clear hsu hrd hQ hil;refine B9o ?_;refine r0T ?_;refine B9w (rfl) ?_;refine B9v ?_;refine A6 ?_;refine B9o ?_;refine C0M ?_;refine T0 (w:=w) A8 6 [0,0,0,0,0,1] (by kernel_rfl) (by simp only[List.drop_succ_cons,List.drop_zero];exact rfl) (λ_=>True) noG hB hG trivial ?_;intro K L hN hL;simp only[List.zip_cons_cons,List.zip_nil_left]
   repeat first|refine gya ?_|refine gyr ?_|refine gna ?_|refine gyb (by(rintro v ⟨hgu,hB,hG,-⟩ N hN;have r:=hB.r;simp only[BxR]at r;obtain⟨-,hc1,hc2,hc3⟩:=Hrd.out v hG;go_simp;exact hN)) ?_
   refine gmd (C:=λv ⟨hgu,hB,hG,_⟩=>B37 p.1 p.2 Q _ (Hrd.out _ hG).1.a (Hrd.out _ hG).1.b z (HT.grow hG)) ?_;refine I7 ?_;rintro v ⟨hgu,hB1,hG1,-⟩;have ROWn:=B9t (C0 Ho.out hgu);clear Ho;have Ho:=ROWn;clear ROWn;clear hB hG;have hB:=hB1;have hG:=hG1;clear hB1 hG1;refine hL _ _ ?_;clear hL L hgu;obtain⟨u,rfl⟩:=exQ v;refine U5 A2k w.heap.size _ _ _ _ (qL Q) rfl rfl (A4W Q u) rfl (λ_=>rfl) (λ_=>rfl) (λ_ _=>rfl) Ho.out (by omega) (by omega) hG.sz λp v' w' g1 g2 g3=>?_;have hBn:=Bx.nil w';have hGn:=V3 Ho.out hG g2;clear Ho hB hG;have Ho:=B9t g1;have hB:=hBn;have hG:=hGn;clear g1 g2 g3 hBn hGn;obtain⟨u,rfl⟩:=exQ w';simp only[Act.put,List.setIfInBounds_toArray,List.set_cons_succ,List.set_cons_zero];refine NoK.norm (hN _ _ ?_);clear hN K;refine C7 ?_;refine A6 ?_;refine r0E ?_;refine A6 ?_;go_roundw
   case rel=>exact⟨i+1,by omega,by go_num,by have:=Ho.out;rw[Hsu.out,C1Y];simpa using this,hG⟩
   case measure=>simp[intOf];omega
  ·obtain rfl:n=i:=by omega
   have hdec:decide ((n:Int)<(n:Int))=false:=by simp
   have ho2:=Ho.out;rw[C0L (C0V Hn.out.symm)]at ho2;have HL:=B9t ho2;clear ho2;refine B9o ?_;refine r0T ?_;refine B9u (rfl) ?_;refine C0O ?_;refine B9 ?_;refine B9 ?_;refine E3 ?_;refine A6 ?_;refine r0T ?_;refine rt Tryz.results16 ?_;exact⟨_,rfl,HL.out,hG⟩
theorem B4x(A:Option Addr)(l:List Rat)(c n:Nat)(hn:n=l.length)(hm:n<=1048576)(hs:∀x∈l,qs x<=BIG)(w:World)(h:Lz w A l)(HT:Tab w) :
  Calls Tryz.prog 16 #[.slice A n c] w λe w'=>∃(A':Option Addr) (c':Nat),e = .returned (.slice A' n c')/\Lq w' A' l/\A4 w w' :=
 (B0q A l c n hn hm hs w h HT).mono λe w' ⟨v,he,ho,hG⟩=>by
  obtain⟨A',cc,rfl,hcc1,hcc2,hL,hkl⟩:=M7 ho;exact⟨A',cc,he,hL,hG⟩
end Go.Proofs.YtgpglgbcobeogaaGreatDoor
namespace Go.Proofs.YtgpglgbcobeogaaGreatDoor
open Go Go.RowKit
def A3d{V:Type}:List V->Nat->List V->List V
 | xs,_,[]=>xs
 | xs,i,v::vs=>A3d (xs.set i v) (i+1) vs
theorem B0k{V:Type}:∀(vs ys fa fb:List V),ys.length=vs.length->A3d (fa++(ys++fb)) fa.length vs=fa++(vs++fb)
 | [],ys,fa,fb,h=>by
  obtain rfl:ys=[]:=List.length_eq_zero_iff.1 h;rfl
 | v::vs,[],fa,fb,h=>by cases h
 | v::vs,y::ys,fa,fb,h=>by
  show A3d ((fa++(y::ys++fb)).set fa.length v) (fa.length+1) vs=_;have e:(fa++(y::ys++fb)).set fa.length v=(fa++[v])++(ys++fb):=by
   simp[List.set_append_right]
  rw[e,show fa.length+1=(fa++[v]).length by simp,B0k vs ys _ fb (by simpa using h)];simp
theorem A5K{V α:Type}{enc:α->List V}{size:Nat}(he:∀x,(enc x).length=size):∀ps:List α,(ps.flatMap enc).length=ps.length*size
 | []=>by simp
 | p::ps=>by rw[List.flatMap_cons,List.length_append,A5K he ps,he,List.length_cons,C08];omega
theorem B5f{V α:Type}{enc:α->List V}{size:Nat}(he:∀x,(enc x).length=size)(ps:List α)(k:Nat)(z:α)(hk:k<ps.length):A3d (ps.flatMap enc) (k*size) (enc z)=(ps.set k z).flatMap enc:=by
 have e:ps=ps.take k++(ps[k]::ps.drop (k+1)):=by rw[<-C0i hk,B9e]
 have e2:ps.set k z=ps.take k++(z::ps.drop (k+1)):=by
  rw[List.set_eq_take_append_cons_drop,if_pos hk]
 rw[e2]
 conv=>lhs;rw[e]
 rw[C1Y,List.flatMap_cons,C1Y,List.flatMap_cons];have hl:((ps.take k).flatMap enc).length=k*size:=by rw[A5K he,List.length_take,C0U (by omega)]
 have:=B0k (enc z) (enc ps[k]) ((ps.take k).flatMap enc) ((ps.drop (k+1)).flatMap enc) (by rw[he,he]);rw[hl]at this;exact this
theorem A8G{V α:Type}{enc:α->List V}{size:Nat}(he:∀x,(enc x).length=size)(ps:List α)(k j:Nat)(hk:k<ps.length)(hj:j<size):(ps.flatMap enc)[k*size+j]?=(enc ps[k])[j]?:=by
 have e:ps=ps.take k++(ps[k]::ps.drop (k+1)):=by rw[<-C0i hk,B9e]
 have hl:((ps.take k).flatMap enc).length=k*size:=by rw[A5K he,List.length_take,C0U (by omega)]
 conv=>lhs;rw[e]
 rw[C1Y,List.flatMap_cons,C1M (by omega),hl,Nat.add_sub_cancel_left,C1L (by rw[he];exact hj)]
theorem A3U{u u1 u2:World}{r:Option Nat}(h:u.grownBy u1 r)(h':u1.grownBy u2 r):u.grownBy u2 r:=by
 obtain⟨a1,a2,a3,a4,a5⟩:=h;obtain⟨b1,b2,b3,b4,b5⟩:=h';exact⟨b1.trans a1,b2.trans a2,b3.trans a3,B9l a4 b4,λk hk hr=>(b5 k (B9y hk a4) hr).trans (a5 k hk hr)⟩
theorem B0f{B:Nat}{e:TypeId}{size g cap n:Nat}:∀(vs:List Value) (i:Nat) (u:World) (xs:List Value),u.ownsRow B e size (.slice (some ⟨g,0,none⟩) n cap) n xs ->
  (C3 u g i vs).ownsRow B e size (.slice (some ⟨g,0,none⟩) n cap) n (A3d xs i vs)/\u.grownBy (C3 u g i vs) (some g)
 | [],i,u,xs,h=>⟨h,⟨rfl,rfl,rfl,K2 _,λ_ _ _=>rfl⟩⟩
 | v::vs,i,u,xs,h=>by
  obtain⟨h1,h2⟩:=h.stored i v;obtain⟨h3,h4⟩:=B0f vs (i+1) _ _ h1;exact⟨h3,A3U h2 h4⟩
theorem V4{α:Type}{enc:α->List Value}{B:Nat}{e:TypeId}{size g cap n:Nat}(he:∀x,(enc x).length=size){u:World}{ps:List α}(h:u.ownsRow B e size (.slice (some ⟨g,0,none⟩) n cap) n (ps.flatMap enc))(k:Nat)(z:α)(hk:k<ps.length) :
  (C3 u g (k*size) (enc z)).ownsRow B e size (.slice (some ⟨g,0,none⟩) n cap) n ((ps.set k z).flatMap enc)/\u.grownBy (C3 u g (k*size) (enc z)) (some g):=by
 have:=B0f (enc z) (k*size) u _ h;rw[B5f he ps k z hk]at this;exact this
theorem A0E{α:Type}{enc:α->List Value}{B:Nat}{e:TypeId}{size g cap n:Nat}(he:∀x,(enc x).length=size){u:World}{ps:List α}(h:u.ownsRow B e size (.slice (some ⟨g,0,none⟩) n cap) n (ps.flatMap enc))(hn:n=ps.length)(k j:Nat)(hk:k<ps.length)(hj:j<size) :
  u.cell? ⟨g,k*size+j,none⟩=(enc ps[k])[j]?:=by
 have hlt:k*size+j<n*size:=by
  have:k*size+size<=ps.length*size:=by rw[<-Nat.succ_mul];exact C0H _ hk
  rw[hn];omega
 rw[h.cellAt (k*size+j) hlt,A8G he ps k j hk hj]
def U8(v v2:Value):Prop:=∀g,v.ownBlock=some g->v2.ownBlock=some g->False
theorem U8.symm{v v2:Value}(h:U8 v v2):U8 v2 v:=λg h1 h2=>h g h2 h1
theorem A0O{u:World}{B:Nat}{e:TypeId}{size n:Nat}{v:Value}{xs:List Value}(h:u.ownsRow B e size v n xs)(h0:0<n):∃g cap,v = .slice (some ⟨g,0,none⟩) n cap/\B<=g/\n<=cap:=by
 obtain⟨_,h|⟨g,cap,cur,rfl,hb',hh,hn,hc',hs,ht2⟩⟩:=h
 ·omega
 ·exact⟨g,cap,rfl,hb',hn⟩
theorem P4{u:World}{B B':Nat}{e e':TypeId}{s s':Nat}{v v':Value}{n n':Nat}{xs xs':List Value}(h:u.ownsRow B e s v n xs)(h':u.ownsRow B' e' s' v' n' xs')(hne:e≠e'):U8 v v':=λg h1 h2=>by
 obtain⟨_,h|⟨g1,cap,cur,rfl,hb,hh,hn,hc,hs,ht⟩⟩:=h
 ·rw[h.1]at h1;cases h1
 ·obtain⟨_,h'|⟨g2,cap',cur',rfl,hb',hh',hn',hc',hs',ht'⟩⟩:=h'
  ·rw[h'.1]at h2;cases h2
  ·have e1:g=g1:=B9Z h1.symm;have e2:g=g2:=B9Z h2.symm;rw[<-e1]at hh;rw[<-e2,hh]at hh';injection hh' with hh';injection hh' with _ h3 _;exact hne h3
theorem O5{w u u':World}{e:TypeId}{size n:Nat}{v:Value}{xs:List Value}(h:u.ownsRow w.heap.size e size v n xs)(hG:A4 w u)(hg:u.grownBy u' v.ownBlock):A4 w u':=hG.grown hg λk hk=>(h.lt k hk).1
theorem A8o{ops:Array Oper}{a:Act}{u:World}{K:Act->World->Prop}{d2:Option Nat}{s z:Operand}{t2:TypeId}{p2:String}{f2:Array Edge}{rest:List Oper}{T e:TypeId}{size bytes:Nat}(hE:EI T e size bytes)
  (B:Nat) (v:Value) (n:Nat) (xs:List Value) (b:Nat) (ys:List Value) (hy:ys.length=size) (h1:(ys.all λy=>y.oneCell')=true) (hblk:Blk u b e ys.toArray)
  (hs:a.eval s=v) (hz:a.eval z = .slice (some ⟨b,0,none⟩) 1 1)
  (hown:u.ownsRow B e size v n xs) (hl:n+1<=1099511627776) (hl2:(n+1)*bytes<=140737488355328) (hB:B<=u.heap.size)
  (h:∀v' w',w'.ownsRow B e size v' (n+1) (xs++ys)->u.grownBy w' v.ownBlock->(v'.ownBlock=v.ownBlock\/v'.ownBlock=some u.heap.size)->wpList Tryz.prog ops (NoK K) rest (a.put d2 v') w') :
  wpList Tryz.prog ops (NoK K) (⟨d2,.call { callee:=.builtin .append,args:=#[s,z],argTypes:=#[T,T] },t2,p2,f2,none⟩::rest) a u:=by
 obtain⟨hund,⟨i0,z0,hi0,hz0,hz1,hz2,hz3⟩,hpos⟩:=hE;refine wpList_append_own_at u (a:=a) (Q:=NoK K) rfl s z T rfl B e i0 z0 size bytes hund hi0 hz0 hz1 hz2 hz3 hpos v n xs hs hown ⟨b,0,none⟩ 1 1 ys hz (by rw[hy];omega) ?_ (λy hy=>List.all_eq_true.1 h1 y hy) (by unfold maxLen;omega) hl2 hB λv' w' g1 g2 _ g4=>h v' w' g1 g2 g4;intro j y hj;rw[C0C,Nat.zero_add,Blk.cell hblk j,List.getElem?_toArray];exact hj
end Go.Proofs.YtgpglgbcobeogaaGreatDoor
