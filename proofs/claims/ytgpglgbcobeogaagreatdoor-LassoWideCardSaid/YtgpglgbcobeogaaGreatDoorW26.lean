import Derived.Test.YtgpglgbcobeogaaGreatDoorW24
import Derived.Test.YtgpglgbcobeogaaGreatDoorW25
set_option linter.unusedSimpArgs false
set_option linter.unusedVariables false
set_option maxHeartbeats 2000000
set_option maxRecDepth 100000
namespace Go.Proofs.YtgpglgbcobeogaaGreatDoor
open Go.RowKit
theorem Rz.a{u:World}{p:Az}{q:Rat}(h:Rz u p q):Rn u p.1 q.num.natAbs:=h.1
theorem B5t{u:World}{p:Az}{q:Rat}(h1:Rn u p.1 q.num.natAbs)(h2:Rn u p.2 q.den):Rz u p q:=⟨h1,h2⟩
theorem Rz.b{u:World}{p:Az}{q:Rat}(h:Rz u p q):Rn u p.2 q.den:=h.2
theorem Rz.put{u u':World}{p:Az}{q:Rat}(h:Rz u p q){bl:List (Nat×TypeId×Array Value)}(hB:Bx u bl)(k:Nat){b:Nat}{t:TypeId}{cs:Array Value}(hk:bl[k]?=some (b,t,cs))(ht:t≠193)(i:Nat)(vs:List Value)(hu:C2 u b i vs=u'):Rz u' p q:=⟨h.1.put hB k hk ht i vs hu,h.2.put hB k hk ht i vs hu⟩
theorem Rz.own{u w':World}{B:Nat}{e:TypeId}{size n:Nat}{v:Value}{xs:List Value}{o:Obj}{p:Az}{q:Rat}(hl:Rz u p q)(h:u.ownsRow B e size v n xs)(ht:e≠193)(hg:(u.alloc o).grownBy w' v.ownBlock):Rz w' p q:=⟨hl.1.own h ht hg,hl.2.own h ht hg⟩
def zL(p:Az)(q:Rat):List Value:=[.bool (D6 q.num),.slice p.1.1 (ln q.num.natAbs) p.1.2,.slice p.2.1 (ln q.den) p.2.2]
def Cz(u:World)(b i:Nat)(p:Az)(q:Rat):Prop :=
 u.cell? ⟨b,i,none⟩=some (.bool (D6 q.num))∧u.cell? ⟨b,i+1,none⟩=some (.slice p.1.1 (ln q.num.natAbs) p.1.2)∧u.cell? ⟨b,i+2,none⟩=some (.slice p.2.1 (ln q.den) p.2.2)
def Lz(u:World)(A:Option Addr)(l:List Rat):Prop :=
 l≠[]→∃b off,A=some ⟨b,off,none⟩∧b<u.heap.size∧∀i,i<l.length→∃p:Az,Rz u p (gq l i)∧Cz u b (off+i*3) p (gq l i)
theorem Cz.grow{u u':World}{b i:Nat}{p:Az}{q:Rat}(h:Cz u b i p q)(hb:b<u.heap.size)(hg:A4 u u'):Cz u' b i p q :=
 ⟨(hg.cell (p:=⟨b,i,none⟩) hb).trans h.1,(hg.cell (p:=⟨b,i+1,none⟩) hb).trans h.2.1,(hg.cell (p:=⟨b,i+2,none⟩) hb).trans h.2.2⟩
theorem Lz.grow{u u':World}{A:Option Addr}{l:List Rat}(h:Lz u A l)(hg:A4 u u'):Lz u' A l:=fun hn=>by
 obtain⟨b,off,e,hb,hc⟩:=h hn;refine⟨b,off,e,B9l hb hg.size,fun i hi=>?_⟩;obtain⟨p,h1,h2⟩:=hc i hi;exact⟨p,h1.grow hg,h2.grow hb hg⟩
theorem Lz.nil(u:World)(A:Option Addr):Lz u A []:=fun h=>absurd rfl h
theorem Lz.addr{u:World}{A:Option Addr}{l:List Rat}(h:Lz u A l)(hl:0<l.length):∃b off,A=some ⟨b,off,none⟩:=by
 obtain⟨b,off,e,_⟩:=h (fun h0=>by rw[h0]at hl;cases hl);exact⟨b,off,e⟩
theorem Lz.read{u:World}{b off:Nat}{l:List Rat}(h:Lz u (some ⟨b,off,none⟩) l){i:Nat}(hi:i<l.length):∃p:Az,∀W,A4 u W→Rz W p (gq l i)∧Cz W b (off+i*3) p (gq l i):=by
 obtain⟨b',off',e,hb,hc⟩:=h (fun h0=>by rw[h0]at hi;cases hi);cases e;obtain⟨p,h1,h2⟩:=hc i hi;exact⟨p,fun W hg=>⟨h1.grow hg,h2.grow hb hg⟩⟩
abbrev Zr:=Az×Rat
def zrL(r:Zr):List Value:=zL r.1 r.2
def I1(u:World)(ps:List Zr):Prop:=∀r∈ps,Rz u r.1 r.2
theorem I1.nil(u:World):I1 u []:=fun _ h=>by cases h
theorem I1.grow{u u':World}{ps:List Zr}(h:I1 u ps)(hg:A4 u u'):I1 u' ps:=fun r hr=>(h r hr).grow hg
theorem I1.put{u u':World}{ps:List Zr}(h:I1 u ps){bl:List (Nat×TypeId×Array Value)}(hB:Bx u bl)(k:Nat){b:Nat}{t:TypeId}{cs:Array Value}(hk:bl[k]?=some (b,t,cs))(ht:t≠193)(i:Nat)(vs:List Value)(hu:C2 u b i vs=u'):I1 u' ps:=fun r hr=>(h r hr).put hB k hk ht i vs hu
theorem I1.own{u w':World}{B:Nat}{e:TypeId}{size n:Nat}{v:Value}{xs:List Value}{o:Obj}{ps:List Zr}(hl:I1 u ps)(h:u.ownsRow B e size v n xs)(ht:e≠193)(hg:(u.alloc o).grownBy w' v.ownBlock):I1 w' ps:=fun r hr=>(hl r hr).own h ht hg
theorem I1.snoc{u:World}{ps:List Zr}(h:I1 u ps){p:Az}{q:Rat}(h1:Rn u p.1 q.num.natAbs)(h2:Rn u p.2 q.den):I1 u (ps++[(p,q)]):=fun r hr=>by
 rcases List.mem_append.1 hr with hr|hr
 ·exact h r hr
 ·have:r=(p,q):=by simpa using hr
  subst this;exact⟨h1,h2⟩
theorem A4C(r:Zr):(zrL r).length=3:=rfl
theorem B33(l:List Zr){i:Nat}{r:Zr}(hi:l[i]?=some r){j:Nat}(hj:j<3):(l.flatMap zrL)[i*3+j]?=(zrL r)[j]?:=by
 induction l generalizing i with
 | nil=>simp at hi
 | cons x l ih =>
  rw[List.flatMap_cons]
  cases i with
  | zero =>
   simp at hi;subst hi;rw[C08 (by rw[A4C];omega)];simp
  | succ i =>
   rw[C09 (by rw[A4C];omega),A4C,show(i+1)*3+j-3=i*3+j by omega];exact ih (by simpa using hi)
theorem B3h(l:List Zr):(l.flatMap zrL).length=3*l.length:=by
 induction l with
 | nil=>rfl
 | cons x l ih=>simp[List.flatMap_cons,A4C,ih];omega
theorem A3n{u:World}{B n:Nat}{v:Value}{ps:List Zr}(h:u.ownsRow B 33 3 v n (ps.flatMap zrL))(ha:I1 u ps):∃A c,v = .slice A n c∧(∀b off,A=some ⟨b,off,none⟩→B≤b)∧c≤maxLen∧Lz u A (ps.map (·.2))∧n=ps.length:=by
 have hn:n=ps.length:=by have:=h.1;rw[B3h]at this;omega
 obtain⟨_,h|⟨g,cap,cur,rfl,hb,hh,hn',hc,hs,ht⟩⟩:=h
 ·obtain⟨rfl,h0⟩:=h;exact⟨none,0,by rw[h0],(fun b off e=>by cases e),by unfold maxLen;omega,fun hne=>absurd (by rw[B9K (l:=ps) (by omega)];rfl) hne,hn⟩
 ·refine⟨_,cap,rfl,(fun b off e=>by cases e;exact hb),hc,fun _=>⟨g,0,rfl,J3 hh,fun i hi=>?_⟩,hn⟩;have hil:i<ps.length:=by simpa using hi
  obtain⟨r,hr⟩:∃r,ps[i]?=some r:=⟨_,B9w hil⟩
  have hq:gq (ps.map (·.2)) i=r.2:=by unfold gq;rw[List.getElem?_map,hr];rfl
  rw[hq];refine⟨r.1,ha r (B9X hr),?_⟩;have key:∀j v,j<3→(zrL r)[j]?=some v→u.cell? ⟨g,0+i*3+j,none⟩=some v:=fun j v hj hv=>by
   rw[B9S u g _ cur 33 (0,0) hh,Nat.zero_add];have h1:(cur.toList.take (n*3))[i*3+j]?=some v:=by rw[ht,B33 ps hr hj,hv]
   rw[C0p,if_pos (by omega)]at h1
   simpa using h1
  exact⟨key 0 _ (by omega) rfl,key 1 _ (by omega) rfl,key 2 _ (by omega) rfl⟩
theorem X6(l:List Rat):(l.flatMap qL).length=5*l.length:=by
 induction l with
 | nil=>rfl
 | cons x l ih=>simp[List.flatMap_cons,qL,ih];omega
theorem A2T(l:List Rat){i:Nat}{q:Rat}(hi:l[i]?=some q){j:Nat}(hj:j<5):(l.flatMap qL)[i*5+j]?=(qL q)[j]?:=by
 induction l generalizing i with
 | nil=>simp at hi
 | cons x l ih =>
  rw[List.flatMap_cons]
  cases i with
  | zero =>
   simp at hi;subst hi;rw[C08 (by simp[qL];omega)];simp
  | succ i =>
   rw[C09 (by simp[qL];omega),show(qL x).length=5 from rfl,show(i+1)*5+j-5=i*5+j by omega];exact ih (by simpa using hi)
theorem K9{u:World}{B n:Nat}{v:Value}{l:List Rat}(h:u.ownsRow B 48 5 v n (l.flatMap qL)):∃A c,v = .slice A n c∧n≤c∧c≤maxLen∧Lq u A l∧n=l.length:=by
 have hn:n=l.length:=by have:=h.1;rw[X6]at this;omega
 obtain⟨_,h|⟨g,cap,cur,rfl,hb,hh,hn',hc,hs,ht⟩⟩:=h
 ·obtain⟨rfl,h0⟩:=h;exact⟨none,0,by rw[h0],by omega,by unfold maxLen;omega,fun hne=>absurd (B9K (by omega)) hne,hn⟩
 ·refine⟨_,cap,rfl,hn',hc,fun _=>⟨g,0,rfl,J3 hh,fun i q hi j v hj=>?_⟩,hn⟩;have hil:i<l.length:=(List.getElem?_eq_some_iff.1 hi).1;have hj5:j<5:=(List.getElem?_eq_some_iff.1 hj).1;rw[B9S u g _ cur 48 (0,0) hh,Nat.zero_add];have h1:(cur.toList.take (n*5))[i*5+j]?=some v:=by rw[ht,A2T l hi hj5,hj]
  rw[C0p,if_pos (by omega)]at h1
  simpa using h1
theorem A5M(n m:Int)(hm:0<m)(hm2:m≤9223372036854775807)(w:World):Calls Tryz.prog 24 #[.int .i64 n,.int .i64 m] w fun e w'=>e = .returned (.int .i64 (N5 n m))∧A4 w w' :=
 (B1V n m hm hm2 w).mono fun e w' ⟨h,hw⟩=>⟨h,hw ▸ A4.refl _⟩
def A1U:Nat→Int
 | 3=>2
 | 4=>3
 | 5=>4
 | _=>1
def A14(n:Int):Rat:=I6 (N5 n 41-20) (A1U (N5 (n.tdiv 41) 6).toNat)
theorem A9U(j:Nat):0<A1U j∧A1U j≤4:=by unfold A1U;split<;>omega
theorem B3o(n:Int):qs (A14 n)≤5:=by
 have h1:=A4g n (m:=41) (by omega);have h2:=A9U (N5 (n.tdiv 41) 6).toNat;exact B7v 0 0 _ _ 5 (by omega) (by omega) (by omega)
theorem B3f(n:Int)(h0 : -9223372036854775808≤n)(h1:n≤9223372036854775807) : -9223372036854775808≤n.tdiv 41∧n.tdiv 41≤9223372036854775807:=by
 have h:n.tdiv 41=n/41∨n.tdiv 41=n/41+1:=by
  rw[Int.tdiv_eq_ediv];split
  ·left;omega
  ·right;rfl
 omega
theorem B1C(j:Nat)(hj:j<6)(W:World):(Instr.index 104 (.agg #[.int .i64 1,.int .i64 1,.int .i64 1,.int .i64 2,.int .i64 3,.int .i64 4]) (.int .i64 (j:Nat))).run Tryz.prog W = .ok (.int .i64 (A1U j)) W:=by
 rcases (by omega:j=0∨j=1∨j=2∨j=3∨j=4∨j=5)with rfl|rfl|rfl|rfl|rfl|rfl<;>kernel_rfl
theorem B3F(n:Int)(w:World)(h0 : -9223372036854775808≤n)(h1:n≤9223372036854775807):Calls Tryz.prog 13 #[.int .i64 n] w (Ret (W7 (A14 n)) w):=by
 obtain⟨t,ht⟩:∃t,t=n.tdiv 41:=⟨_,rfl⟩
 have htb : -9223372036854775808≤t∧t≤9223372036854775807:=by rw[ht];exact B3f n h0 h1
 have htw:IntKind.i64.wrap t=t:=B9x _ htb;obtain⟨r1,r2⟩:=A4g n (m:=41) (by omega);obtain⟨s1,s2⟩:=A4g t (m:=6) (by omega);have hov:∀W,Calls Tryz.prog 25 #[.int .i64 (N5 n 41-20),.int .i64 (A1U (N5 t 6).toNat)] W (Ret (W7 (A14 n)) W):=fun W=>by
  have h2:=A9U (N5 t 6).toNat;have:=B0O (N5 n 41-20) (A1U (N5 t 6).toNat) (by omega) (by omega) (by omega) (by omega) (by omega) W;rw[ht]at this⊢;exact this
 obtain⟨Q,hQ⟩:∃Q,Q=A14 n:=⟨_,rfl⟩
 rw[←hQ]at hov⊢;obtain⟨p,hp⟩:∃p,p=N5 n 41:=⟨_,rfl⟩
 obtain⟨j,hj⟩:∃j:Nat,N5 t 6=(j:Int):=⟨(N5 t 6).toNat,by omega⟩
 have hpk1:=fun W=>A5M n 41 (by omega) (by omega) W;have hpk2:=fun W=>A5M t 6 (by omega) (by omega) W;rw[hj]at hpk2 hov s1 s2;rw[←hp]at hpk1 hov r1 r2;rw[Int.toNat_natCast]at hov;have htd:n.tdiv 41=t:=ht.symm;have hix:=B1C j (by omega);have fw:IntKind.i64.wrap (p-20)=p-20:=B9x _ (by omega);obtain⟨D,hD⟩:∃D,D=A1U j:=⟨_,rfl⟩
 rw[←hD]at hov;simp only[←hD]at hix;have Hov:=B9g hov;have Hpk1:=B9g hpk1;have Hpk2:=B9g hpk2;clear ht hQ hp hj hD hov hpk1 hpk2;go_enter Tryz.func13,Tryz.ntmps13;refine en1 ?_;intro u hG b2 hB hF;refine B9b (rsC A8 [0,1,0,0,0,0,1,0,1] hB hG fun K L hN hL=>?_);refine gs ?_;refine gmw (C:=fun v=>Hpk1.out _) ?_;refine gs ?_;refine gmw (C:=fun v=>Hpk2.out _) ?_;refine gs ?_;refine grd (W7 Q) (fun(x11:Ax×Ax)=>?_) (C:=fun v _=>Hov.out _);refine geC hL ?_;clear hB hG hL L;rintro u ⟨⟨-,hB,hG,-⟩,hx11⟩;obtain⟨hx11a,hx11b⟩:Rn u x11.1 _∧Rn u x11.2 _:=hx11;refine gtT ?_;clear hN K;refine sv hB hF hG 0 0 [_,_,_] ?_;intro u hu hBG;replace hx11a:=hx11a.put hB 0 rfl (by first|decide|simp) _ _ hu;replace hx11b:=hx11b.put hB 0 rfl (by first|decide|simp) _ _ hu;clear hB hG hu;obtain⟨hB,hG⟩:=hBG;refine rt Tryz.results13 ?_;exact⟨x11,rfl,⟨hx11a,hx11b⟩,hG⟩
def A4H(l:List Int)(i:Nat):Rat:=if i<l.length then A14 (gi l i)else C1 0
def A0H(l:List Int)(n:Nat):List Rat:=(List.range n).map (A4H l)
theorem B40(l:List Int)(n:Nat):(A0H l n).length=n:=by unfold A0H;simp
theorem B5p(l:List Int)(n:Nat):A0H l (n+1)=A0H l n++[A4H l n]:=by unfold A0H;rw[C0X,List.map_append];rfl
theorem B8L(A:Option Addr)(l:List Int)(c p n:Nat)(hp:p=l.length)(hn:n≤1048576)(hpm:p≤9223372036854775807)(hb:∀x∈l,-9223372036854775808≤x∧x≤9223372036854775807)(w:World)(h:Li w A l) :
  Calls Tryz.prog 31 #[.slice A p c,.int .i64 n] w fun e w'=>∃(v:Value) (ps:List Zr),e = .returned v∧ps.map (·.2)=A0H l n∧I1 w' ps∧w'.ownsRow w.heap.size 33 3 v n (ps.flatMap zrL)∧A4 w w':=by
 have H:=B9g h;have Hp:=B9g hp;have Hb:=B9g hb;clear h hp hb;go_enter Tryz.func31,Tryz.ntmps31;refine en0 ?_;intro u hG hB hF;refine r0T ?_;refine B9b ?_;refine r0T ?_;refine B99 ?_;clear hB hF;go_loopw [6,5] (fun s0 s1 wr=>∃(i:Nat) (ps:List Zr),i≤n∧s0 = .int .i64 i∧ps.map (·.2)=A0H l i∧I1 wr ps∧wr.ownsRow w.heap.size 33 3 s1 i (ps.flatMap zrL)∧A4 w wr) (fun s0 _ _=>n-(intOf s0).toNat)
 case atStart=>exact⟨0,[],B9y _,rfl,rfl,I1.nil _,C1B _ _ _ _,hG⟩
 case round =>
  clear hG;obtain⟨i,ps,hi,rfl,hps,hA,ho,hG⟩:=hrel;obtain⟨u,rfl⟩:=exQ wr;have hB:=Bx.nil u;have hF:=Fr.nil w;have Ho:=B9g ho;have Hps:=B9g hps;clear ho hps;rcases B9H i n with hlt|hge
  ·have hdec:decide ((i:Int)<(n:Int))=true:=by simp;omega
   have hsu:=B5p l i
   have hun:A4H l i=if i<l.length then A14 (gi l i)else C1 0:=rfl
   by_cases hip:i<p
   ·have hil:i<l.length:=by rw[←Hp.out];exact hip
    obtain⟨ba,oa,hAe,-⟩:=H.out.cell hil;have hcl:∀W,A4 w W→W.cell? ⟨ba,oa+i,none⟩=some (.int .i64 (gi l i)):=fun W hg=>by
     obtain⟨b',o',e,hc⟩:=(H.out.grow hg).cell hil;rw[hAe]at e;cases e;exact hc
    obtain⟨x1,x2⟩:=Hb.out (gi l i) (B9X (A5Q hil));rw[if_pos hil]at hun;rw[hun]at hsu;have hr:=fun W=>B3F (gi l i) W x1 x2;obtain⟨X,hX⟩:∃X,X=gi l i:=⟨_,rfl⟩
    simp only[←hX]at hcl hr;rw[←hX]at hsu x1 x2;obtain⟨Q,hQ⟩:∃Q,Q=A14 X:=⟨_,rfl⟩
    simp only[←hQ]at hr;rw[←hQ]at hsu;have Hsu:=B9g hsu;have Hcl:=B9g hcl;have Hr:=B9g hr;have hdp:decide ((i:Int)<(p:Int))=true:=by simp;omega
    subst hAe;clear hsu hcl hr hX hQ hun hil;refine B9b ?_;refine r0T ?_;refine B9j (rfl) ?_;refine B9i ?_;refine A6 ?_;refine B9b ?_;refine B99 ?_;refine r0T ?_;refine B9j (rfl) ?_;refine R0 (w:=w) A8 6 [0,0,0,0,0,1] (by kernel_rfl) (by simp only[List.drop_succ_cons,List.drop_zero];exact rfl) (fun _=>True) noG hB hG trivial ?_;intro K L hN hL;simp only[List.zip_cons_cons,List.zip_nil_left]
    repeat first|refine gya ?_|refine gyr ?_|refine gna ?_|refine gyb (by(rintro v ⟨hgu,hB,hG,-⟩ N hN;have r:=hB.r;simp only[BxR]at r;have hcb:=Hcl.out v hG;go_simp;exact hN)) ?_
    refine grd (W7 Q) (fun(x21:Ax×Ax)=>?_) (C:=fun v _=>Hr.out _);refine H6 ?_;rintro v ⟨⟨hgu,hB1,hG1,-⟩,hx21⟩;replace hA:=hA.grow hgu;obtain⟨hx21a,hx21b⟩:Rn v x21.1 _∧Rn v x21.2 _:=hx21;have ROWn:=B9g (B9 Ho.out hgu);clear Ho;have Ho:=ROWn;clear ROWn;clear hB hG;have hB:=hB1;have hG:=hG1;clear hB1 hG1;refine hL _ _ ?_;clear hL L hgu;obtain⟨u,rfl⟩:=exQ v;refine S9 A8q w.heap.size _ _ _ _ (zL x21 Q) rfl rfl (A7B x21.1 x21.2 Q u) rfl (fun _=>rfl) (fun _=>rfl) (fun _ _=>rfl) Ho.out (by omega) (by omega) hG.sz fun p v' w' g1 g2 g3=>?_;have hBn:=Bx.nil w';have hGn:=S7 Ho.out hG g2;replace hA:=hA.own Ho.out (by decide) g2;replace hx21a:=hx21a.own Ho.out (by decide) g2;replace hx21b:=hx21b.own Ho.out (by decide) g2;clear Ho hB hG;have Ho:=B9g g1;have hB:=hBn;have hG:=hGn;clear g1 g2 g3 hBn hGn;obtain⟨u,rfl⟩:=exQ w';simp only[Act.put,List.setIfInBounds_toArray,List.set_cons_succ,List.set_cons_zero];refine NoK.norm (hN _ _ ?_);clear hN K;refine C8 ?_;refine A6 ?_;refine r0E ?_;refine A6 ?_;go_roundw
    case rel=>exact⟨i+1,ps++[(x21,Q)],by omega,by go_num,by rw[List.map_append,Hps.out,Hsu.out];rfl,hA.snoc hx21a hx21b,by have:=Ho.out;rw[C1K];simpa [zrL]using this,hG⟩
    case measure=>simp[intOf];omega
   ·rw[if_neg (by rw[←Hp.out];exact hip)]at hun;rw[hun]at hsu;have Hsu:=B9g hsu;have hdp:decide ((i:Int)<(p:Int))=false:=by simp;omega
    clear hsu hun;refine B9b ?_;refine r0T ?_;refine B9j (rfl) ?_;refine B9i ?_;refine A6 ?_;refine B9b ?_;refine B99 ?_;refine r0T ?_;refine B9h (rfl) ?_;refine R0 (w:=w) A8 2 [0,1] (by kernel_rfl) (by simp only[List.drop_succ_cons,List.drop_zero];exact rfl) (fun _=>True) noG hB hG trivial ?_;intro K L hN hL;simp only[List.zip_cons_cons,List.zip_nil_left];refine gs ?_;refine grd (W7 (C1 0)) (fun(x25:Ax×Ax)=>?_) (C:=fun v _=>A55 0 (by omega) (by omega) _);refine H6 ?_;rintro v ⟨⟨hgu,hB1,hG1,-⟩,hx25⟩;replace hA:=hA.grow hgu;obtain⟨hx25a,hx25b⟩:Rn v x25.1 _∧Rn v x25.2 _:=hx25;have ROWn:=B9g (B9 Ho.out hgu);clear Ho;have Ho:=ROWn;clear ROWn;clear hB hG;have hB:=hB1;have hG:=hG1;clear hB1 hG1;refine hL _ _ ?_;clear hL L hgu;obtain⟨u,rfl⟩:=exQ v;refine S9 A8q w.heap.size _ _ _ _ (zL x25 (C1 0)) rfl rfl (A7B x25.1 x25.2 (C1 0) u) rfl (fun _=>rfl) (fun _=>rfl) (fun _ _=>rfl) Ho.out (by omega) (by omega) hG.sz fun p v' w' g1 g2 g3=>?_;have hBn:=Bx.nil w';have hGn:=S7 Ho.out hG g2;replace hA:=hA.own Ho.out (by decide) g2;replace hx25a:=hx25a.own Ho.out (by decide) g2;replace hx25b:=hx25b.own Ho.out (by decide) g2;clear Ho hB hG;have Ho:=B9g g1;have hB:=hBn;have hG:=hGn;clear g1 g2 g3 hBn hGn;obtain⟨u,rfl⟩:=exQ w';simp only[Act.put,List.setIfInBounds_toArray,List.set_cons_succ,List.set_cons_zero];refine NoK.norm (hN _ _ ?_);clear hN K;refine C8 ?_;refine A6 ?_;refine r0E ?_;refine A6 ?_;go_roundw
    case rel=>exact⟨i+1,ps++[(x25,C1 0)],by omega,by go_num,by rw[List.map_append,Hps.out,Hsu.out];rfl,hA.snoc hx25a hx25b,by have:=Ho.out;rw[C1K];simpa [zrL]using this,hG⟩
    case measure=>simp[intOf];omega
  ·obtain rfl:n=i:=by omega
   have hdec:decide ((n:Int)<(n:Int))=false:=by simp
   refine B9b ?_;refine r0T ?_;refine B9h (rfl) ?_;refine C0B ?_;refine C0 ?_;refine C0 ?_;refine E4 ?_;refine A6 ?_;refine r0T ?_;refine rt Tryz.results31 ?_;exact⟨_,ps,rfl,Hps.out,hA,Ho.out,hG⟩
theorem B7b(A:Option Addr)(l:List Int)(c p n:Nat)(hp:p=l.length)(hn:n≤1048576)(hpm:p≤9223372036854775807)(hb:∀x∈l,-9223372036854775808≤x∧x≤9223372036854775807)(w:World)(h:Li w A l) :
  Calls Tryz.prog 31 #[.slice A p c,.int .i64 n] w fun e w'=>∃(A':Option Addr) (c':Nat),e = .returned (.slice A' n c')∧(Lz w' A' (A0H l n)∧∀b off,A'=some ⟨b,off,none⟩→w.heap.size≤b)∧A4 w w' :=
 (B8L A l c p n hp hn hpm hb w h).mono fun e w' ⟨v,ps,he,hps,hA,ho,hG⟩=>by
  obtain⟨A',cc,rfl,hcc1,hcc2,hL,hkl⟩:=A3n ho hA;rw[hps]at hL;exact⟨A',cc,he,⟨hL,hcc1⟩,hG⟩
theorem A79(A:Option Addr)(l:List Rat)(c n:Nat)(hn:n=l.length)(hm:n≤1048576)(hs:∀x∈l,qs x≤BIG)(w:World)(h:Lz w A l)(HT:Tab w) :
  Calls Tryz.prog 16 #[.slice A n c] w fun e w'=>∃v:Value,e = .returned v∧w'.ownsRow w.heap.size 48 5 v n (l.flatMap qL)∧A4 w w':=by
 have H:=B9g h;have Hn:=B9g hn;have Hs:=B9g hs;clear h hn hs;go_enter Tryz.func16,Tryz.ntmps16;refine en0 ?_;intro u hG hB hF;refine r0T ?_;refine B9b ?_;refine r0T ?_;refine B99 ?_;clear hB hF;go_loopw [4,3] (fun s0 s1 wr=>∃(i:Nat),i≤n∧s0 = .int .i64 i∧wr.ownsRow w.heap.size 48 5 s1 i ((l.take i).flatMap qL)∧A4 w wr) (fun s0 _ _=>n-(intOf s0).toNat)
 case atStart=>exact⟨0,B9y _,rfl,C1B _ _ _ _,hG⟩
 case round =>
  clear hG;obtain⟨i,hi,rfl,ho,hG⟩:=hrel;obtain⟨u,rfl⟩:=exQ wr;have hB:=Bx.nil u;have hF:=Fr.nil w;have Ho:=B9g ho;clear ho;rcases B9H i n with hlt|hge
  ·have hdec:decide ((i:Int)<(n:Int))=true:=by simp;omega
   have hil:i<l.length:=by rw[←Hn.out];exact hlt
   have hsu:l.take (i+1)=l.take i++[gq l i]:=by
    rw[B9v hil];unfold gq;rw[B9w hil];rfl
   obtain⟨ba,oa,rfl⟩:=H.out.addr (by omega);obtain⟨p,hrd⟩:=(H.out).read hil;have z:=Hs.out _ (A4T hil);obtain⟨Q,hQ⟩:∃Q,Q=gq l i:=⟨_,rfl⟩
   rw[←hQ]at hsu z;simp only[←hQ]at hrd;have Hsu:=B9g hsu;have Hrd:=B9g hrd;clear hsu hrd hQ hil;refine B9b ?_;refine r0T ?_;refine B9j (rfl) ?_;refine B9i ?_;refine A6 ?_;refine B9b ?_;refine B99 ?_;refine R0 (w:=w) A8 6 [0,0,0,0,0,1] (by kernel_rfl) (by simp only[List.drop_succ_cons,List.drop_zero];exact rfl) (fun _=>True) noG hB hG trivial ?_;intro K L hN hL;simp only[List.zip_cons_cons,List.zip_nil_left]
   repeat first|refine gya ?_|refine gyr ?_|refine gna ?_|refine gyb (by(rintro v ⟨hgu,hB,hG,-⟩ N hN;have r:=hB.r;simp only[BxR]at r;obtain⟨-,hc1,hc2,hc3⟩:=Hrd.out v hG;go_simp;exact hN)) ?_
   refine gmd (C:=fun v ⟨hgu,hB,hG,_⟩=>B2L p.1 p.2 Q _ (Hrd.out _ hG).1.a (Hrd.out _ hG).1.b z (HT.grow hG)) ?_;refine H6 ?_;rintro v ⟨hgu,hB1,hG1,-⟩;have ROWn:=B9g (B9 Ho.out hgu);clear Ho;have Ho:=ROWn;clear ROWn;clear hB hG;have hB:=hB1;have hG:=hG1;clear hB1 hG1;refine hL _ _ ?_;clear hL L hgu;obtain⟨u,rfl⟩:=exQ v;refine S9 A2i w.heap.size _ _ _ _ (qL Q) rfl rfl (A4a Q u) rfl (fun _=>rfl) (fun _=>rfl) (fun _ _=>rfl) Ho.out (by omega) (by omega) hG.sz fun p v' w' g1 g2 g3=>?_;have hBn:=Bx.nil w';have hGn:=S7 Ho.out hG g2;clear Ho hB hG;have Ho:=B9g g1;have hB:=hBn;have hG:=hGn;clear g1 g2 g3 hBn hGn;obtain⟨u,rfl⟩:=exQ w';simp only[Act.put,List.setIfInBounds_toArray,List.set_cons_succ,List.set_cons_zero];refine NoK.norm (hN _ _ ?_);clear hN K;refine C8 ?_;refine A6 ?_;refine r0E ?_;refine A6 ?_;go_roundw
   case rel=>exact⟨i+1,by omega,by go_num,by have:=Ho.out;rw[Hsu.out,C1K];simpa using this,hG⟩
   case measure=>simp[intOf];omega
  ·obtain rfl:n=i:=by omega
   have hdec:decide ((n:Int)<(n:Int))=false:=by simp
   have ho2:=Ho.out;rw[B98 (C0I Hn.out.symm)]at ho2;have HL:=B9g ho2;clear ho2;refine B9b ?_;refine r0T ?_;refine B9h (rfl) ?_;refine C0B ?_;refine C0 ?_;refine C0 ?_;refine E4 ?_;refine A6 ?_;refine r0T ?_;refine rt Tryz.results16 ?_;exact⟨_,rfl,HL.out,hG⟩
theorem B83(A:Option Addr)(l:List Rat)(c n:Nat)(hn:n=l.length)(hm:n≤1048576)(hs:∀x∈l,qs x≤BIG)(w:World)(h:Lz w A l)(HT:Tab w) :
  Calls Tryz.prog 16 #[.slice A n c] w fun e w'=>∃(A':Option Addr) (c':Nat),e = .returned (.slice A' n c')∧Lq w' A' l∧A4 w w' :=
 (A79 A l c n hn hm hs w h HT).mono fun e w' ⟨v,he,ho,hG⟩=>by
  obtain⟨A',cc,rfl,hcc1,hcc2,hL,hkl⟩:=K9 ho;exact⟨A',cc,he,hL,hG⟩
theorem G4{f g:Nat→Rat}{n:Nat}(h:∀i,i<n→f i=g i):C6 f n=C6 g n:=by
 induction n with
 | zero=>rfl
 | succ n ih=>simp only[C6];rw[ih (fun i hi=>h i (by omega)),h n (by omega)]
end Go.Proofs.YtgpglgbcobeogaaGreatDoor
namespace Go.Proofs.YtgpglgbcobeogaaGreatDoor
open Go Go.RowKit
def B7(rs:List (List Rat))(i:Nat):List Rat:=(rs[i]?).getD []
def E7(a b:List Rat)(n:Nat):Rat:=C6 (fun i=>D8 (gq a i) (gq b i)) n
theorem B8A(a b:List Rat)(n:Nat):E7 a b (n+1)=H5 (E7 a b n) (D8 (gq a n) (gq b n)):=rfl
theorem A7V(a b:List Rat)(n:Nat):E7 a b n=E7 b a n:=G4 fun i _=>by unfold D8;exact Rat.mul_comm _ _
theorem A1J{a b:List Rat}{n s t:Nat}(ha:∀i,i<n→qs (gq a i)≤s)(hb:∀i,i<n→qs (gq b i)≤t):∀j,j≤n→qs (E7 a b j)≤j*(s+t+1)+1:=fun j hj =>
 A8c _ (s+t) n (fun i hi=>B9Y (A0d _ _) (Nat.add_le_add (ha i hi) (hb i hi))) j hj
theorem W8(f:Nat→Rat){n i:Nat}(h:i<n):gq ((List.range n).map f) i=f i:=by
 show((((List.range n).map f)[i]?).getD 0)=_;simp[h]
def A0v(X:List (List Rat))(y w:List Rat)(n L:Nat):List Rat:=(List.range n).map fun i=>F8 (gq y i) (E7 w (B7 X i) L)
def H8(X:List (List Rat))(j n:Nat):List Rat:=(List.range n).map fun i=>gq (B7 X i) j
def A0W(X:List (List Rat))(y w:List Rat)(n L:Nat):List Rat:=(List.range L).map fun j=>E7 (H8 X j n) (A0v X y w n L) n
def S8(a b:Rat):Rat:=if a<b then b else a
def V8(p:List Rat):Nat→Rat
 | 0=>0
 | n+1=>S8 (V8 p n) (Y8 (gq p n))
def M4(n:Nat):List Rat:=List.replicate n 0
def N3(X:List (List Rat))(y:List Rat)(n L:Nat):Rat:=V8 (A0W X y (M4 L) n L) L
def A2u(p w a:Rat):Bool:=if 0<w then decide (p=a)else if w<0 then decide (p=I7 a)else decide (Y8 p≤a)
def A0K(f:Nat→Bool):Nat→Nat→Nat
 | 0,i=>i
 | k+1,i=>if f i then A0K f k (i+1)else i
theorem A4Q(f:Nat→Bool)(k i:Nat):i≤A0K f k i∧A0K f k i≤i+k∧(∀j,i≤j→j<A0K f k i→f j=true)∧(A0K f k i<i+k→f (A0K f k i)=false):=by
 induction k generalizing i with
 | zero=>exact⟨B9G _,B9G _,fun j h1 h2=>absurd h2 (by simp[A0K];omega),fun h=>absurd h (by simp[A0K])⟩
 | succ k ih =>
  unfold A0K
  cases hf:f i with
  | true =>
   rw[if_pos rfl];obtain⟨h1,h2,h3,h4⟩:=ih (i+1);refine⟨by omega,by omega,fun j h5 h6=>?_,fun h5=>h4 (by omega)⟩;rcases C1M h5 with h|h
   ·rw[←h];exact hf
   ·exact h3 j h h6
  | false =>
   rw[if_neg (by simp)];exact⟨B9G _,by omega,fun j h5 h6=>absurd h6 (by omega),fun _=>hf⟩
theorem B8V(X:List (List Rat))(y w:List Rat)(n L:Nat):(A0v X y w n L).length=n:=by unfold A0v;simp
theorem B77(X:List (List Rat))(j n:Nat):(H8 X j n).length=n:=by unfold H8;simp
theorem B3n(X:List (List Rat))(y w:List Rat)(n L:Nat):(A0W X y w n L).length=L:=by unfold A0W;simp
theorem A70(X:List (List Rat))(y w:List Rat)(n L:Nat){i:Nat}(h:i<n):gq (A0v X y w n L) i=F8 (gq y i) (E7 w (B7 X i) L):=W8 _ h
theorem A1O(X:List (List Rat))(j n:Nat){i:Nat}(h:i<n):gq (H8 X j n) i=gq (B7 X i) j:=W8 _ h
theorem A8Z(X:List (List Rat))(y w:List Rat)(n L:Nat){j:Nat}(h:j<L):gq (A0W X y w n L) j=E7 (H8 X j n) (A0v X y w n L) n:=W8 _ h
theorem B0P(n i:Nat):gq (M4 n) i=0:=by
 unfold gq M4;rw[C0t];split<;>rfl
theorem B0y(a:Rat):qs (Y8 a)=qs a:=by
 unfold Y8 Rat.abs;split
 ·rfl
 ·exact A2d a
theorem A8d{X:List (List Rat)}{y w:List Rat}{n L s:Nat}(hn:n≤20)(hL:L≤20)(hs:s≤10000000)(hX:∀i,i<n→∀j,j<L→qs (gq (B7 X i) j)≤s)(hy:∀i,i<n→qs (gq y i)≤s)(hw:∀j,j<L→qs (gq w j)≤s):∀i,i<n→qs (gq (A0v X y w n L) i)≤500000000:=fun i hi=>by
 rw[A70 X y w n L hi];have h1:=A1J (a:=w) (b:=B7 X i) (n:=L) hw (hX i hi) L (B9G _);have h2:=A01 (gq y i) (E7 w (B7 X i) L);have h3:=hy i hi;have h4:L*(s+s+1)≤20*(s+s+1):=B94 _ hL;unfold F8;omega
theorem B88{X:List (List Rat)}{y w:List Rat}{n L s:Nat}(hn:n≤20)(hL:L≤20)(hs:s≤10000000)(hX:∀i,i<n→∀j,j<L→qs (gq (B7 X i) j)≤s)(hy:∀i,i<n→qs (gq y i)≤s)(hw:∀j,j<L→qs (gq w j)≤s):∀j,j<L→qs (gq (A0W X y w n L) j)≤11000000000:=fun j hj=>by
 rw[A8Z X y w n L hj];have h0:=A8d hn hL hs hX hy hw;have h1:=A1J (a:=H8 X j n) (b:=A0v X y w n L) (n:=n) (s:=s) (t:=500000000) (fun i hi=>by rw[A1O X j n hi];exact hX i hi j hj) h0 n (B9G _);have h4:n*(s+500000000+1)≤20*(s+500000000+1):=B94 _ hn;omega
theorem B5E{a b:Rat}{s:Nat}(h1:qs a≤s)(h2:qs b≤s):qs (S8 a b)≤s:=by unfold S8;split<;>assumption
theorem A6B{p:List Rat}{n s:Nat}(hs:1≤s)(h:∀j,j<n→qs (gq p j)≤s):∀j,j≤n→qs (V8 p j)≤s
 | 0,_=>by rw[V8,A2e];exact hs
 | j+1,hj=>B5E (A6B hs h j (by omega)) (by rw[B0y];exact h j (by omega))
theorem B13{w:Rat}:w.num.sign=1↔0<w:=by
 rw[Int.sign_eq_one_iff_pos,Rat.lt_iff];simp
theorem A4s{w:Rat}:w.num.sign = -1↔w<0:=by
 rw[Int.sign_eq_neg_one_iff_neg,Rat.lt_iff];simp
end Go.Proofs.YtgpglgbcobeogaaGreatDoor
namespace Go.Proofs.YtgpglgbcobeogaaGreatDoor
open Go.RowKit
def LzX(u:World)(bs:List Nat)(A:Option Addr)(l:List Rat):Prop:=Lz u A l∧(∀b off,A=some ⟨b,off,none⟩→b∉bs)∧0<l.length
theorem LzX.a{u:World}{bs:List Nat}{A:Option Addr}{l:List Rat}(h:LzX u bs A l):Lz u A l:=h.1
theorem LzX.grow{u u':World}{bs:List Nat}{A:Option Addr}{l:List Rat}(h:LzX u bs A l)(hg:A4 u u'):LzX u' bs A l:=⟨h.1.grow hg,h.2⟩
theorem Cz.far{u:World}{b i:Nat}{p:Az}{q:Rat}(h:Cz u b i p q){a:Addr}(ha:b≠a.block)(v:Value):Cz (u.setCell a v) b i p q:=by
 have key:∀j,(u.setCell a v).cell? ⟨b,j,none⟩=u.cell? ⟨b,j,none⟩:=fun j=>World.cell?_of_block (B9T u a v b ha);exact⟨(key _).trans h.1,(key _).trans h.2.1,(key _).trans h.2.2⟩
theorem LzX.put{u u':World}{bs:List Nat}{A:Option Addr}{l:List Rat}(h:LzX u bs A l){bl:List (Nat×TypeId×Array Value)}(hB:Bx u bl)(k:Nat){b:Nat}{t:TypeId}{cs:Array Value}(hk:bl[k]?=some (b,t,cs))(ht:b∈bs∧t≠193)(i:Nat)(vs:List Value)(hu:C2 u b i vs=u'):LzX u' bs A l:=by
 refine⟨fun hn=>?_,h.2⟩;obtain⟨ba,oa,e,hb,hc⟩:=h.1 hn;have hne:ba≠b:=fun e'=>h.2.1 ba oa e (e' ▸ ht.1);have hsz:∀(vs:List Value) (i:Nat) (u:World),(C2 u b i vs).heap.size=u.heap.size:=by
  intro vs
  induction vs with
  | nil=>exact fun _ _=>rfl
  | cons v vs ih=>exact fun i u=>(ih (i+1) (u.setCell ⟨b,i,none⟩ v)).trans (by simp[World.setCell])
 have hcz:∀(vs:List Value) (i:Nat) (u:World) (j:Nat) (p:Az) (q:Rat),Cz u ba j p q→Cz (C2 u b i vs) ba j p q:=by
  intro vs
  induction vs with
  | nil=>exact fun _ _ _ _ _ h=>h
  | cons v vs ih=>exact fun i u j p q h=>ih (i+1) (u.setCell ⟨b,i,none⟩ v) j p q (h.far (a:=⟨b,i,none⟩) hne v)
 refine⟨ba,oa,e,by rw[←hu,hsz];exact hb,fun j hj=>?_⟩;obtain⟨p,h1,h2⟩:=hc j hj;exact⟨p,h1.put hB k hk ht.2 i vs hu,by rw[←hu];exact hcz vs i u _ p _ h2⟩
theorem LzX.lt{u:World}{bs:List Nat}{A:Option Addr}{l:List Rat}(h:LzX u bs A l):∀b off,A=some ⟨b,off,none⟩→b<u.heap.size:=fun b off e=>by
 obtain⟨b',off',e',hb,_⟩:=h.1 (fun h0=>by have:=h.2.2;rw[h0]at this;cases this);rw[e]at e';cases e';exact hb
theorem LzX.more{v:World}{n b:Nat}{bs:List Nat}{A:Option Addr}{l:List Rat}(h:LzX v bs A l)(hlt:∀b off,A=some ⟨b,off,none⟩→b<n)(hb:n≤b):LzX v (b::bs) A l :=
 ⟨h.1,fun b' off e hm=>by
  rcases List.mem_cons.1 hm with rfl|hm
  ·have:=hlt b' off e;omega
  ·exact h.2.1 b' off e hm,h.2.2⟩
theorem LzX.addr{u:World}{bs:List Nat}{A:Option Addr}{l:List Rat}(h:LzX u bs A l):∃b off,A=some ⟨b,off,none⟩:=h.1.addr h.2.2
theorem Li.at{u:World}{A:Option Addr}{l:List Int}{i:Nat}(h:Li u A l)(hi:i<l.length):∃b off,A=some ⟨b,off,none⟩∧∀W,A4 u W→W.cell? ⟨b,off+i,none⟩=some (.int .i64 (gi l i)):=by
 obtain⟨b,off,e,-⟩:=h.cell hi;refine⟨b,off,e,fun W hg=>?_⟩;obtain⟨b',o',e',hc⟩:=(h.grow hg).cell hi;rw[e]at e';cases e';exact hc
abbrev A0D(l:List Int):List Value:=l.map fun x=>Value.int .i64 x
theorem B0A(y:Int)(w:World):(Instr.buildSlice 22 1 #[(0,.int .i64 y)]).run Tryz.prog w = .ok (.slice (some ⟨w.heap.size,0,none⟩) 1 1) (w.alloc (.cells #[.int .i64 y] 3)):=by
 go_simp
theorem A8g:EI 22 3 1 8:=A0l (by kernel_rfl) (by kernel_rfl) (by omega)
theorem A4R{u:World}{B n:Nat}{v:Value}{l:List Int}(h:u.ownsRow B 3 1 v n (A0D l))(hn:n=l.length):∃A c,v = .slice A n c∧n≤c∧Li u A l:=by
 subst hn;obtain⟨_,h|⟨g,cap,cur,rfl,hb,hh,hn,hc,hs,ht⟩⟩:=h
 ·obtain⟨rfl,h0⟩:=h;exact⟨none,0,by rw[h0],by omega,fun hne=>absurd (B9K h0) hne⟩
 ·refine⟨_,cap,rfl,hn,fun _=>⟨g,0,rfl,J3 hh,fun i x hi=>?_⟩⟩;rw[Nat.zero_add,B9S u g i cur 3 (0,0) hh];have hil:i<l.length:=(List.getElem?_eq_some_iff.1 hi).1;have h1:(cur.toList.take (l.length*1))[i]?=some (.int .i64 x):=by rw[ht,List.getElem?_map,hi];rfl
  rw[C0p,if_pos (by omega)]at h1
  simpa using h1
end Go.Proofs.YtgpglgbcobeogaaGreatDoor
