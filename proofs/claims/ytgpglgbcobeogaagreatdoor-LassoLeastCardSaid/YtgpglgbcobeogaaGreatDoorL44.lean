import Derived.Test.YtgpglgbcobeogaaGreatDoorL37
import Derived.Test.YtgpglgbcobeogaaGreatDoorL43
set_option linter.unusedSimpArgs false
set_option linter.unusedVariables false
set_option maxHeartbeats 4000000
set_option maxRecDepth 100000
namespace Go.Proofs.YtgpglgbcobeogaaGreatDoor
open Go Go.RowKit
section
variable {u w':World} {B:Nat} {e:TypeId} {size n:Nat} {v:Value} {xs:List Value} {o:Obj}
theorem A3z{b:Nat}{cs:Array Value}{T:TypeId}{fr:Nat×Nat}(hb:u.heap[b]?=some (.cells cs T fr))(h:u.ownsRow B e size v n xs)(ht:e≠T)(hg:(u.alloc o).grownBy w' v.ownBlock):w'.heap[b]?=u.heap[b]?:=by
 have hlt:=N7 hb;have h2:(u.alloc o).heap[b]?=u.heap[b]?:=(A4.alloc u o).block b hlt;refine(hg.block b (by rw[I7];omega) λhxe=>?_).trans h2;obtain⟨_,h|⟨g,cap,cur,rfl,hb',hh,hn,hc',hs,ht2⟩⟩:=h
 ·rw[h.1]at hxe;cases hxe
 ·have h1:b=g:=B78 hxe;rw[h1,hh]at hb;injection hb with hb;injection hb with _ h3 _;exact ht h3
structure Lzt(u:World)(A:Option Addr)(l:List Rat):Prop where
 lz:Lz u A l
 ty:∀b off,A=some ⟨b,off,none⟩->∃cs fr,u.heap[b]?=some (.cells cs 33 fr)
structure Lqt(u:World)(A:Option Addr)(l:List Rat):Prop where
 lq:Lq u A l
 ty:∀b off,A=some ⟨b,off,none⟩->∃cs fr,u.heap[b]?=some (.cells cs 48 fr)
theorem Lzt.grow{u u':World}{A:Option Addr}{l:List Rat}(h:Lzt u A l)(hg:A4 u u'):Lzt u' A l:=⟨h.lz.grow hg,λb off hA=>by
 obtain⟨cs,fr,hb⟩:=h.ty b off hA
 exact⟨cs,fr,(hg.block b (N7 hb)).trans hb⟩⟩
theorem Lqt.grow{u u':World}{A:Option Addr}{l:List Rat}(h:Lqt u A l)(hg:A4 u u'):Lqt u' A l:=⟨h.lq.grow hg,λb off hA=>by
 obtain⟨cs,fr,hb⟩:=h.ty b off hA
 exact⟨cs,fr,(hg.block b (N7 hb)).trans hb⟩⟩
theorem cell_of_heap{u u':World}{b:Nat}(h:u'.heap[b]?=u.heap[b]?)(off:Nat):u'.cell? ⟨b,off,none⟩=u.cell? ⟨b,off,none⟩:=by
 unfold World.cell?;rw[h]
theorem Lzt.stay{A:Option Addr}{l:List Rat}(hl:Lzt u A l)(h:u.ownsRow B e size v n xs)(h1:e≠33)(h2:e≠193)(hg:(u.alloc o).grownBy w' v.ownBlock):Lzt w' A l:=by
 refine⟨λhne=>?_,λb off hA=>?_⟩
 ·obtain⟨b,off,eA,hb,hc⟩:=hl.lz hne;obtain⟨cs,fr,hty⟩:=hl.ty b off eA;have hs:=A3z hty h h1 hg;refine⟨b,off,eA,N7 (hs.trans hty),λi hi=>?_⟩;obtain⟨p,g1,g2,g3,g4⟩:=hc i hi;exact⟨p,⟨g1.1.own h h2 hg,g1.2.own h h2 hg⟩,(cell_of_heap hs _).trans g2,(cell_of_heap hs _).trans g3,(cell_of_heap hs _).trans g4⟩
 ·obtain⟨cs,fr,hty⟩:=hl.ty b off hA;exact⟨cs,fr,(A3z hty h h1 hg).trans hty⟩
theorem Lqt.stay{A:Option Addr}{l:List Rat}(hl:Lqt u A l)(h:u.ownsRow B e size v n xs)(h1:e≠48)(hg:(u.alloc o).grownBy w' v.ownBlock):Lqt w' A l:=by
 refine⟨λhne=>?_,λb off hA=>?_⟩
 ·obtain⟨b,off,eA,hb,hc⟩:=hl.lq hne;obtain⟨cs,fr,hty⟩:=hl.ty b off eA;have hs:=A3z hty h h1 hg;exact⟨b,off,eA,N7 (hs.trans hty),λi q hi j v hj=>(cell_of_heap hs _).trans (hc i q hi j v hj)⟩
 ·obtain⟨cs,fr,hty⟩:=hl.ty b off hA;exact⟨cs,fr,(A3z hty h h1 hg).trans hty⟩
end
theorem Lzt.put{u u':World}{A:Option Addr}{l:List Rat}(h:Lzt u A l){bl:List (Nat×TypeId×Array Value)}(hB:Bx u bl)(k:Nat){b:Nat}{t:TypeId}{cs:Array Value}(hk:bl[k]?=some (b,t,cs))(ht1:t≠33)(ht2:t≠193)(i:Nat)(vs:List Value)(hu:C7 u b i vs=u'):Lzt u' A l:=by
 have hb:Blk u b t cs:=hB _ (B8J hk);have hg:u.grownBy u' (some b):=hu ▸ A1F b vs i u;have key:∀(b':Nat) (cs':Array Value) (fr:Nat×Nat),u.heap[b']?=some (Obj.cells cs' 33 fr)->u'.heap[b']?=u.heap[b']?:=λb' cs' fr h'=>hg.block b' (N7 h') λe=>by
  have e:=B78 e;subst e;unfold Blk at hb;rw[hb]at h';injection h' with h';injection h' with _ h3 _;exact ht1 h3
 refine⟨λhne=>?_,λb' off hA=>?_⟩
 ·obtain⟨b',off,eA,hb',hc⟩:=h.lz hne;obtain⟨cs',fr,hty⟩:=h.ty b' off eA;have hs:=key b' cs' fr hty;refine⟨b',off,eA,N7 (hs.trans hty),λj hj=>?_⟩;obtain⟨p,g1,g2,g3,g4⟩:=hc j hj;exact⟨p,⟨g1.1.put hB k hk ht2 i vs hu,g1.2.put hB k hk ht2 i vs hu⟩,(cell_of_heap hs _).trans g2,(cell_of_heap hs _).trans g3,(cell_of_heap hs _).trans g4⟩
 ·obtain⟨cs',fr,hty⟩:=h.ty b' off hA;exact⟨cs',fr,(key b' cs' fr hty).trans hty⟩
theorem A1N{u:World}{B n:Nat}{v:Value}{ps:List Zr}(h:u.ownsRow B 33 3 v n (ps.flatMap zrL))(ha:E6 u ps):∃A c,v = .slice A n c/\(0<n->∃g,A=some ⟨g,0,none⟩)/\n<=c/\Lzt u A (ps.map (·.2))/\n=ps.length:=by
 obtain⟨A,c,e1,-,-,hL,hk⟩:=Y6 h ha;obtain⟨_,h|⟨g,cap,cur,rfl,hb,hh,hn',hc,hs,ht⟩⟩:=h
 ·obtain⟨rfl,h0⟩:=h;cases e1;exact⟨none,0,rfl,λh=>by omega,K2 _,⟨hL,λb off hA=>by cases hA⟩,hk⟩
 ·cases e1;exact⟨_,_,rfl,λ_=>⟨g,rfl⟩,hn',⟨hL,λb off hA=>by cases hA;exact⟨cur,(0,0),hh⟩⟩,hk⟩
def A4A(l:List Rat)(k:Rat)(n:Nat):List Rat:=(List.range n).map λi=>C3 (gq l i) k
def A1b(x y:List Rat)(k:Rat)(n:Nat):List Rat:=(List.range n).map λi=>G0 (gq x i) (C3 k (gq y i))
theorem A9M{u:World}{b:Nat}{p:Az}{q:Rat}(h:Blk u b 33 (A4Q p q)):∀W,A4 u W->Cz W b 0 p q:=λW hg=>by
 have h1:=h.grow hg;exact⟨by rw[h1.cell 0];rfl,by rw[Nat.zero_add,h1.cell 1];rfl,by rw[Nat.zero_add,h1.cell 2];rfl⟩
theorem B6H(A:Option Addr)(l:List Rat)(n c:Nat)(k:Rat)(pk:Az)(hn:l.length=n)(hm:n<=1048576)(s:Nat)(hs:∀i,i<n->qs (gq l i)<=s)(hB:s+qs k<=BIG)(w:World)(h:Lz w A l)(hk:Rz w pk k) :
  Calls Tryz.prog 27 #[.slice A n c,rqV pk.1 pk.2 k] w (E9 (λx:Ax=>.slice x.1 n x.2) (λx W=>Lzt W x.1 (A4A l k n)) w):=by
 have hat:∀i,i<n->∃(bb ob:Nat) (p:Az) (X:Rat),A=some ⟨bb,ob,none⟩/\(∀W,A4 w W->Cz W bb (ob+i*3) p X)/\(∀W,A4 w W->Calls Tryz.prog 28 #[rqV p.1 p.2 X,rqV pk.1 pk.2 k] W (Ret (F7 (C3 X k)) W))/\C3 X k=C3 (gq l i) k:=λi hi=>by
  obtain⟨bb,ob,e⟩:=h.addr (by omega);rw[e]at h;obtain⟨p,hp⟩:=h.read (i:=i) (by omega);have z:=hs i hi;exact⟨bb,ob,p,gq l i,e,λW hg=>(hp W hg).2,λW hg=>A3P p.1 p.2 pk.1 pk.2 _ k W (hp W hg).1.a (hp W hg).1.b (hk.grow hg).a (hk.grow hg).b (by omega),rfl⟩
 unfold A4A;obtain⟨f,hf⟩:∃f:Nat->Rat,f=λi=>C3 (gq l i) k:=⟨_,rfl⟩
 have hfi:∀i,C3 (gq l i) k=f i:=by rw[hf];exact λ_=>rfl
 simp only[hfi]at hat;rw[<-hf];have Hat:=B8S hat;clear hat hf hfi h hk hn hs;go_enter Tryz.func27,Tryz.ntmps27;refine en1 ?_;intro u hG b3 hB hF;refine B8N ?_;have HBK:=B8S (A9M hB.head);refine r0N ?_;have HG0:=B8S hG;clear hB hF hG;obtain⟨w0,rfl⟩:=exQ w;obtain⟨w,hwu⟩:=exQ u;rw[<-hwu]at HG0 HBK;have hB:=Bx.nil u;have hF:=Fr.nil w;have hG:A4 w u:=hwu ▸ A4.refl u;clear hwu;refine B8N ?_;refine r0T ?_;refine B8v ?_;clear hB hF;go_loopw [6,5] (λs0 s1 wr=>∃(i:Nat) (ps:List Zr),i<=n/\s0 = .int .i64 i/\ps.map (·.2)=(List.range i).map f/\E6 wr ps/\wr.ownsRow w.heap.size 33 3 s1 i (ps.flatMap zrL)/\A4 w wr) (λs0 _ _=>n-(intOf s0).toNat)
 case atStart=>exact⟨0,[],B8k _,rfl,rfl,E6.nil _,B9x _ _ _ _,hG⟩
 case round =>
  clear hG;obtain⟨i,ps,hi,rfl,hps,hA,ho,hG⟩:=hrel;obtain⟨u,rfl⟩:=exQ wr;have hB:=Bx.nil u;have hF:=Fr.nil w;have Ho:=B8S ho;have Hps:=B8S hps;clear ho hps;rcases B73 i n with hlt|hge
  ·have hdec:decide ((i:Int)<(n:Int))=true:=by simp;omega
   have hin:(i:Int)<(n:Int):=by omega
   have hsu:=A3G f i;obtain⟨bb,ob,p,X,rfl,hrd,hml,e⟩:=Hat.out i hlt;rw[<-e]at hsu;obtain⟨Q,hQ⟩:∃q,q=C3 X k:=⟨_,rfl⟩
   rw[<-hQ]at hsu;simp only[<-hQ]at hml;have Hsu:=B8S hsu;have Hrd:=B8S hrd;have Hml:=B8S hml;clear hsu hrd hml hQ e;refine B8N ?_;refine r0T ?_;refine B8V (rfl) ?_;refine B8U ?_;refine A6 ?_;refine B8N ?_;refine B8v ?_;refine A1Z (w:=w) H4 7 [0] [(0,0),(0,1),(0,2),(0,3),(0,4),(0,5),(1,6)] (by kernel_rfl) (by kernel_rfl) (by simp only[List.drop_succ_cons,List.drop_zero];exact rfl) (λ_=>True) noG hB hG trivial ?_;intro K L hN hL;simp only[H6,List.getElem?_toArray,List.getElem?_cons_zero,List.getElem?_cons_succ]
   repeat first|refine gya ?_|refine gyr ?_|refine gna ?_|refine gyb (by(rintro v ⟨hgu,hB,hG,-⟩ N hN;have r:=hB.r;simp only[BxR]at r;obtain⟨q1,q2,q3⟩:=Hrd.out v (HG0.out.trans hG);obtain⟨k1,k2,k3⟩:=HBK.out v hG;go_simp;exact hN)) ?_
   refine grd (F7 Q) (λ(x19:Ax×Ax)=>?_) (C:=by(rintro v ⟨hgu,hB,hG,-⟩;exact Hml.out _ (HG0.out.trans hG)));refine H8 ?_;rintro v ⟨⟨hgu,hB1,hG1,-⟩,hx19⟩;replace hA:=hA.grow hgu;obtain⟨hx19a,hx19b⟩:Rn v x19.1 _/\Rn v x19.2 _:=hx19;have ROWn:=B8S (C5 Ho.out hgu);clear Ho;have Ho:=ROWn;clear ROWn;clear hB hG;have hB:=hB1;have hG:=hG1;clear hB1 hG1;refine hL _ _ ?_;clear hL L hgu;obtain⟨u,rfl⟩:=exQ v;refine L6 X4 w.heap.size _ _ _ _ (zL x19 Q) rfl rfl (A0m x19.1 x19.2 Q u) rfl (λ_=>rfl) (λ_=>rfl) (λ_ _=>rfl) Ho.out (by omega) (by omega) hG.sz λp v' w' g1 g2 g3=>?_;have hBn:=Bx.nil w';have hGn:=K3 Ho.out hG g2;replace hA:=hA.own Ho.out (by decide) g2;replace hx19a:=hx19a.own Ho.out (by decide) g2;replace hx19b:=hx19b.own Ho.out (by decide) g2;clear Ho hB hG;have Ho:=B8S g1;have hB:=hBn;have hG:=hGn;clear g1 g2 g3 hBn hGn;obtain⟨u,rfl⟩:=exQ w';simp only[Act.put,List.setIfInBounds_toArray,List.set_cons_succ,List.set_cons_zero];refine NoK.norm (hN _ _ ?_);clear hN K;refine C8 ?_;refine A6 ?_;refine r0E ?_;refine A6 ?_;go_roundw
   case rel=>exact⟨i+1,ps++[(x19,Q)],by omega,by go_num,by rw[List.map_append,Hps.out,Hsu.out];rfl,hA.snoc hx19a hx19b,by have:=Ho.out;rw[B97];simpa [zrL]using this,hG⟩
   case measure=>simp[intOf];omega
  ·obtain rfl:n=i:=by omega
   have hdec:decide ((n:Int)<(n:Int))=false:=by simp
   obtain⟨A',cc,rfl,hcc1,hcc2,hL,hkl⟩:=A1N Ho.out hA;rw[Hps.out]at hL;have HL:=B8S hL;clear hL hkl Ho Hps hA;refine B8N ?_;refine r0T ?_;refine B8T (rfl) ?_;refine B8x ?_;refine B7 ?_;refine B7 ?_;refine D0 ?_;refine A6 ?_;refine r0T ?_;refine rt Tryz.results27 ?_;exact⟨(A',cc),rfl,HL.out,HG0.out.trans hG⟩
theorem A9Y(A B:Option Addr)(l m:List Rat)(n c d:Nat)(k:Rat)(pk:Az)(hn:l.length=n)(hn2:m.length=n)(hm:n<=1048576)(s:Nat)(hs:∀i,i<n->qs (gq l i)<=s)(hs2:∀i,i<n->qs (gq m i)<=s)(hB:2*s+qs k+1<=BIG)(w:World)(h:Lz w A l)(h2:Lz w B m)(hk:Rz w pk k) :
  Calls Tryz.prog 74 #[.slice A n c,.slice B n d,rqV pk.1 pk.2 k] w (E9 (λx:Ax=>.slice x.1 n x.2) (λx W=>Lzt W x.1 (A1b l m k n)) w):=by
 have hat:∀i,i<n->∃(bb ob bc oc:Nat) (p r:Az) (X Y:Rat),A=some ⟨bb,ob,none⟩/\B=some ⟨bc,oc,none⟩/\(∀W,A4 w W->Cz W bb (ob+i*3) p X/\Cz W bc (oc+i*3) r Y)/\(∀W,A4 w W->Calls Tryz.prog 28 #[rqV pk.1 pk.2 k,rqV r.1 r.2 Y] W (Ret (F7 (C3 k Y)) W))/\(∀W (x:Az),A4 w W->Rz W x (C3 k Y)->Calls Tryz.prog 104 #[rqV p.1 p.2 X,rqV x.1 x.2 (C3 k Y)] W (Ret (F7 (G0 X (C3 k Y))) W))/\G0 X (C3 k Y)=G0 (gq l i) (C3 k (gq m i)):=λi hi=>by
  obtain⟨bb,ob,e⟩:=h.addr (by omega);obtain⟨bc,oc,e2⟩:=h2.addr (by omega);rw[e]at h;rw[e2]at h2;obtain⟨p,hp⟩:=h.read (i:=i) (by omega);obtain⟨r,hr⟩:=h2.read (i:=i) (by omega);have z:=hs i hi;have z2:=hs2 i hi;have z3:=Y4 k (gq m i);exact⟨bb,ob,bc,oc,p,r,gq l i,gq m i,e,e2,λW hg=>⟨(hp W hg).2,(hr W hg).2⟩,λW hg=>A3P pk.1 pk.2 r.1 r.2 k _ W (hk.grow hg).a (hk.grow hg).b (hr W hg).1.a (hr W hg).1.b (by omega),λW x hg hx=>A9B p.1 p.2 x.1 x.2 _ _ W (hp W hg).1.a (hp W hg).1.b hx.a hx.b (by unfold C3;omega),rfl⟩
 unfold A1b;obtain⟨f,hf⟩:∃f:Nat->Rat,f=λi=>G0 (gq l i) (C3 k (gq m i)):=⟨_,rfl⟩
 have hfi:∀i,G0 (gq l i) (C3 k (gq m i))=f i:=by rw[hf];exact λ_=>rfl
 simp only[hfi]at hat;rw[<-hf];have Hat:=B8S hat;clear hat hf hfi h h2 hk hn hn2 hs hs2;go_enter Tryz.func74,Tryz.ntmps74;refine en1 ?_;intro u hG b5 hB hF;refine B8N ?_;have HBK:=B8S (A9M hB.head);refine r0N ?_;have HG0:=B8S hG;clear hB hF hG;obtain⟨w0,rfl⟩:=exQ w;obtain⟨w,hwu⟩:=exQ u;rw[<-hwu]at HG0 HBK;have hB:=Bx.nil u;have hF:=Fr.nil w;have hG:A4 w u:=hwu ▸ A4.refl u;clear hwu;refine B8N ?_;refine r0T ?_;refine B8v ?_;clear hB hF;go_loopw [8,7] (λs0 s1 wr=>∃(i:Nat) (ps:List Zr),i<=n/\s0 = .int .i64 i/\ps.map (·.2)=(List.range i).map f/\E6 wr ps/\wr.ownsRow w.heap.size 33 3 s1 i (ps.flatMap zrL)/\A4 w wr) (λs0 _ _=>n-(intOf s0).toNat)
 case atStart=>exact⟨0,[],B8k _,rfl,rfl,E6.nil _,B9x _ _ _ _,hG⟩
 case round =>
  clear hG;obtain⟨i,ps,hi,rfl,hps,hA,ho,hG⟩:=hrel;obtain⟨u,rfl⟩:=exQ wr;have hB:=Bx.nil u;have hF:=Fr.nil w;have Ho:=B8S ho;have Hps:=B8S hps;clear ho hps;rcases B73 i n with hlt|hge
  ·have hdec:decide ((i:Int)<(n:Int))=true:=by simp;omega
   have hin:(i:Int)<(n:Int):=by omega
   have hsu:=A3G f i;obtain⟨bb,ob,bc,oc,p,r,X,Y,rfl,rfl,hrd,hml,hsb,e⟩:=Hat.out i hlt;rw[<-e]at hsu;obtain⟨E,hE⟩:∃q,q=C3 k Y:=⟨_,rfl⟩
   rw[<-hE]at hsu;simp only[<-hE]at hml hsb;obtain⟨Q,hQ⟩:∃q,q=G0 X E:=⟨_,rfl⟩
   rw[<-hQ]at hsu;simp only[<-hQ]at hsb;have Hsu:=B8S hsu;have Hrd:=B8S hrd;have Hml:=B8S hml;have Hsb:=B8S hsb;clear hsu hrd hml hsb hQ hE e;refine B8N ?_;refine r0T ?_;refine B8V (rfl) ?_;refine B8U ?_;refine A6 ?_;refine B8N ?_;refine B8v ?_;refine A1Z (w:=w) H4 12 [0] [(0,0),(0,1),(0,2),(0,3),(0,4),(0,5),(0,6),(0,7),(0,8),(0,9),(1,10),(1,11)] (by kernel_rfl) (by kernel_rfl) (by simp only[List.drop_succ_cons,List.drop_zero];exact rfl) (λ_=>True) noG hB hG trivial ?_;intro K L hN hL;simp only[H6,List.getElem?_toArray,List.getElem?_cons_zero,List.getElem?_cons_succ]
   repeat first|refine gya ?_|refine gyr ?_|refine gna ?_|refine gyb (by(rintro v ⟨hgu,hB,hG,-⟩ N hN;have r:=hB.r;simp only[BxR]at r;obtain⟨⟨q1,q2,q3⟩,r1,r2,r3⟩:=Hrd.out v (HG0.out.trans hG);obtain⟨k1,k2,k3⟩:=HBK.out v hG;go_simp;exact hN)) ?_
   refine grd (F7 E) (λ(x25:Ax×Ax)=>?_) (C:=by(rintro v ⟨hgu,hB,hG,-⟩;exact Hml.out _ (HG0.out.trans hG)));refine grd (F7 Q) (λ(x26:Ax×Ax)=>?_) (C:=by(rintro v ⟨⟨hgu,hB,hG,-⟩,hx25⟩;obtain⟨hx25a,hx25b⟩:Rn v x25.1 _/\Rn v x25.2 _:=hx25;exact Hsb.out _ x25 (HG0.out.trans hG) (A4G hx25a hx25b)));refine H8 ?_;rintro v ⟨⟨⟨hgu,hB1,hG1,-⟩,hx25⟩,hx26⟩;replace hA:=hA.grow hgu;obtain⟨hx25a,hx25b⟩:Rn v x25.1 _/\Rn v x25.2 _:=hx25;obtain⟨hx26a,hx26b⟩:Rn v x26.1 _/\Rn v x26.2 _:=hx26;have ROWn:=B8S (C5 Ho.out hgu);clear Ho;have Ho:=ROWn;clear ROWn;clear hB hG;have hB:=hB1;have hG:=hG1;clear hB1 hG1;refine hL _ _ ?_;clear hL L hgu;obtain⟨u,rfl⟩:=exQ v;refine L6 X4 w.heap.size _ _ _ _ (zL x26 Q) rfl rfl (A0m x26.1 x26.2 Q u) rfl (λ_=>rfl) (λ_=>rfl) (λ_ _=>rfl) Ho.out (by omega) (by omega) hG.sz λp v' w' g1 g2 g3=>?_;have hBn:=Bx.nil w';have hGn:=K3 Ho.out hG g2;replace hA:=hA.own Ho.out (by decide) g2;replace hx25a:=hx25a.own Ho.out (by decide) g2;replace hx25b:=hx25b.own Ho.out (by decide) g2;replace hx26a:=hx26a.own Ho.out (by decide) g2;replace hx26b:=hx26b.own Ho.out (by decide) g2;clear Ho hB hG;have Ho:=B8S g1;have hB:=hBn;have hG:=hGn;clear g1 g2 g3 hBn hGn;obtain⟨u,rfl⟩:=exQ w';simp only[Act.put,List.setIfInBounds_toArray,List.set_cons_succ,List.set_cons_zero];refine NoK.norm (hN _ _ ?_);clear hN K;refine C8 ?_;refine A6 ?_;refine r0E ?_;refine A6 ?_;go_roundw
   case rel=>exact⟨i+1,ps++[(x26,Q)],by omega,by go_num,by rw[List.map_append,Hps.out,Hsu.out];rfl,hA.snoc hx26a hx26b,by have:=Ho.out;rw[B97];simpa [zrL]using this,hG⟩
   case measure=>simp[intOf];omega
  ·obtain rfl:n=i:=by omega
   have hdec:decide ((n:Int)<(n:Int))=false:=by simp
   obtain⟨A',cc,rfl,hcc1,hcc2,hL,hkl⟩:=A1N Ho.out hA;rw[Hps.out]at hL;have HL:=B8S hL;clear hL hkl Ho Hps hA;refine B8N ?_;refine r0T ?_;refine B8T (rfl) ?_;refine B8x ?_;refine B7 ?_;refine B7 ?_;refine D0 ?_;refine A6 ?_;refine r0T ?_;refine rt Tryz.results74 ?_;exact⟨(A',cc),rfl,HL.out,HG0.out.trans hG⟩
theorem B23(A B:Option Addr)(l m:List Rat)(n c d:Nat)(k:Rat)(pk:Az)(hn:l.length=n)(hn2:m.length=n)(hm:n<=1048576)(s:Nat)(hs:∀i,i<n->qs (gq l i)<=s)(hs2:∀i,i<n->qs (gq m i)<=s)(hB:2*s+qs k+1<=BIG)(w:World)(h:Lz w A l)(h2:Lz w B m)(hk:Rz w pk k) :
  Calls Tryz.prog 74 #[.slice A n c,.slice B n d,rqV pk.1 pk.2 k] w (E9 (λx:Ax=>.slice x.1 n x.2) (λx W=>Lz W x.1 (A1b l m k n)) w) :=
 (A9Y A B l m n c d k pk hn hn2 hm s hs hs2 hB w h h2 hk).mono λe w' ⟨x,g1,g2,g3⟩=>⟨x,g1,g2.lz,g3⟩
theorem B0p(n:Nat)(hn:n<=30)(w:World):Calls Tryz.prog 71 #[.int .i64 (n:Nat)] w λe w'=>e = .returned (.int .i64 ((3^n:Nat):Int))/\A4 w w':=by
 go_enter Tryz.func71,Tryz.ntmps71;refine en0 ?_;intro u hG hB hF;refine r0T ?_;refine B8N ?_;refine r0T ?_;refine B8v ?_;clear hB hF;go_loopw [4,3] (λs0 s1 wr=>∃(i:Nat),i<=n/\s0 = .int .i64 i/\s1 = .int .i64 ((3^i:Nat):Int)/\A4 w wr) (λs0 _ _=>n-(intOf s0).toNat)
 case atStart=>exact⟨0,B8k _,rfl,rfl,hG⟩
 case round =>
  clear hG;obtain⟨i,hi,rfl,rfl,hG⟩:=hrel;obtain⟨u,rfl⟩:=exQ wr;have hB:=Bx.nil u;have hF:=Fr.nil w;obtain⟨P,hP⟩:∃P:Nat,P=3^i:=⟨_,rfl⟩
  rw[<-hP];rcases B73 i n with hlt|hge
  ·have hdec:decide ((i:Int)<(n:Int))=true:=by simp;omega
   have hPb:P<=3^30:=by rw[hP];exact B8Z (by omega) (by omega)
   have hP1:=B8S (show 3*P=3^(i+1)by rw[Nat.pow_succ,hP];omega);have fm:IntKind.i64.wrap (3*(P:Int))=((3*P:Nat):Int):=by rw[B8j _ (by omega)];omega
   clear hP hPb;obtain⟨P3,hP3⟩:∃q:Nat,q=3*P:=⟨_,rfl⟩
   rw[<-hP3]at fm hP1;clear hP3;refine B8N ?_;refine r0T ?_;refine B8V (rfl) ?_;refine B8U ?_;refine A6 ?_;refine B8N ?_;refine B8v ?_;refine r0E ?_;refine C8 ?_;refine A6 ?_;refine r0E ?_;refine A6 ?_;go_roundw
   case rel=>exact⟨i+1,by omega,by go_num,by rw[hP1.out],hG⟩
   case measure=>simp[intOf];omega
  ·obtain rfl:n=i:=by omega
   have hdec:decide ((n:Int)<(n:Int))=false:=by simp
   have HP:=B8S hP;clear hP;refine B8N ?_;refine r0T ?_;refine B8T (rfl) ?_;refine B8x ?_;refine B7 ?_;refine B7 ?_;refine D0 ?_;refine A6 ?_;refine r0T ?_;refine rt Tryz.results71 ?_;exact⟨by first|rw[HP.out]|rfl,hG⟩
theorem B3U(l:List Int)(x:Int):O9 (l++[x])=O9 l++[.int .i64 x]:=by unfold O9;simp
theorem B2W(c n:Nat)(hn:n<=30)(hc:c<=1000000000)(w:World):Calls Tryz.prog 73 #[.int .i64 (c:Nat),.int .i64 (n:Nat)] w (E9 (λx:Ax=>.slice x.1 n x.2) (λx W=>Li W x.1 (F6 n c)) w):=by
 go_enter Tryz.func73,Tryz.ntmps73;refine en0 ?_;intro u hG hB hF;refine r0T ?_;refine B8N ?_;refine r0T ?_;refine B8v ?_;clear hB hF;go_loopw [6,5,0] (λs0 s1 s2 wr=>∃(i:Nat),i<=n/\s0 = .int .i64 i/\wr.ownsRow w.heap.size 3 1 s1 i (O9 ((List.range i).map (sgI c)))/\s2 = .int .i64 ((c/3^i:Nat):Int)/\A4 w wr) (λs0 _ _ _=>n-(intOf s0).toNat)
 case atStart=>exact⟨0,B8k _,rfl,B9x _ _ _ _,by rw[Nat.pow_zero,Nat.div_one],hG⟩
 case round =>
  clear hG;obtain⟨i,hi,rfl,ho,rfl,hG⟩:=hrel;obtain⟨u,rfl⟩:=exQ wr;have hB:=Bx.nil u;have hF:=Fr.nil w;have Ho:=B8S ho;clear ho;rcases B73 i n with hlt|hge
  ·have hdec:decide ((i:Int)<(n:Int))=true:=by simp;omega
   obtain⟨D,hD⟩:∃D,D=c/3^i:=⟨_,rfl⟩
   have hDn:=B8S (show c/3^(i+1)=D/3 by rw[hD,Nat.pow_succ,B8W]);have hDb:D<=1000000000:=by rw[hD];exact B8K (B8P _ _) hc
   obtain⟨S,hS⟩:∃S:Int,S=sgI c i:=⟨_,rfl⟩
   have hS2:S=((D%3:Nat):Int)-1:=by rw[hS,hD];rfl
   have hsu:=B8S (show(List.range (i+1)).map (sgI c)=(List.range i).map (sgI c)++[S]by rw[B9J,List.map_append,hS];rfl);rw[<-hD];obtain⟨R3,hR3⟩:∃R3:Nat,R3=D%3:=⟨_,rfl⟩
   obtain⟨E,hE⟩:∃E:Nat,E=D/3:=⟨_,rfl⟩
   rw[<-hR3]at hS2;rw[<-hE]at hDn;have ft:(D:Int).tmod 3=(R3:Int):=by rw[hR3,B8R (by omega)];omega
   have ftb:(D:Int)%3=(R3:Int):=by omega
   have fd:(D:Int).tdiv 3=(E:Int):=by rw[hE,B8Q (by omega)];omega
   have fdb:(D:Int)/3=(E:Int):=by omega
   have hR2:R3<=2:=by omega
   have fw:IntKind.i64.wrap ((R3:Int)-1)=S:=by rw[B8j _ (by omega)];exact hS2.symm
   have fr:IntKind.i64.wrap (R3:Int)=(R3:Int):=B8j _ (by omega);have fe:IntKind.i64.wrap (E:Int)=(E:Int):=B8j _ (by omega);clear hD hS hS2 hR3 hE;refine B8N ?_;refine r0T ?_;refine B8V (rfl) ?_;refine B8U ?_;refine A6 ?_;refine B8N ?_;refine B8v ?_;refine B8N ?_;refine M4 (w:=w) A8 4 [0,0,0,0] (by kernel_rfl) (by simp only[List.drop_succ_cons,List.drop_zero];exact rfl) (λ_=>True) noG hB hG trivial ?_;intro K L hN hL;simp only[List.zip_cons_cons,List.zip_nil_left];refine gs ?_;refine H8 ?_;rintro v ⟨hgu,hB1,hG1,-⟩;have ROWn:=B8S (C5 Ho.out hgu);clear Ho;have Ho:=ROWn;clear ROWn;clear hB hG;have hB:=hB1;have hG:=hG1;clear hB1 hG1;refine hL _ _ ?_;clear hL L hgu;obtain⟨u,rfl⟩:=exQ v;refine L6 A3r w.heap.size _ _ _ _ [.int .i64 S] rfl rfl (A2w S u) rfl (λ_=>rfl) (λ_=>rfl) (λ_ _=>rfl) Ho.out (by omega) (by omega) hG.sz λp v' w' g1 g2 g3=>?_;have hBn:=Bx.nil w';have hGn:=K3 Ho.out hG g2;clear Ho hB hG;have Ho:=B8S g1;have hB:=hBn;have hG:=hGn;clear g1 g2 g3 hBn hGn;obtain⟨u,rfl⟩:=exQ w';simp only[Act.put,List.setIfInBounds_toArray,List.set_cons_succ,List.set_cons_zero];refine NoK.norm (hN _ _ ?_);clear hN K;refine A6 ?_;refine r0E ?_;refine C8 ?_;refine A6 ?_;refine r0E ?_;refine A6 ?_;go_roundw
   case rel=>exact⟨i+1,by omega,by go_num,by rw[hsu.out,B3U];exact Ho.out,by rw[hDn.out],hG⟩
   case measure=>simp[intOf];omega
  ·obtain rfl:n=i:=by omega
   have hdec:decide ((n:Int)<(n:Int))=false:=by simp
   obtain⟨A',cc,rfl,-,hL⟩:=A1M Ho.out (by simp);have HL:=B8S hL;clear hL Ho;refine B8N ?_;refine r0T ?_;refine B8T (rfl) ?_;refine B8x ?_;refine B7 ?_;refine B7 ?_;refine D0 ?_;refine A6 ?_;refine r0T ?_;refine rt Tryz.results73 ?_;exact⟨(A',cc),rfl,HL.out,hG⟩
end Go.Proofs.YtgpglgbcobeogaaGreatDoor
