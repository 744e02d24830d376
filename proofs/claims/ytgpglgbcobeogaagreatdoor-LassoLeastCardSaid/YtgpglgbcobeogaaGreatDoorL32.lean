import Derived.Test.YtgpglgbcobeogaaGreatDoorL31
set_option linter.unusedSimpArgs false
set_option linter.unusedVariables false
set_option maxHeartbeats 16000000
set_option maxRecDepth 100000
namespace Go.Proofs.YtgpglgbcobeogaaGreatDoor
open Go Go.RowKit
theorem A0o{u w':World}{B B0:Nat}{e e0:TypeId}{size size0 n n0:Nat}{v v0:Value}{xs xs0:List Value}(h0:u.ownsRow B0 e0 size0 v0 n0 xs0)(h:u.ownsRow B e size v n xs)(ht:e≠e0)(hg:u.grownBy w' v.ownBlock):w'.ownsRow B0 e0 size0 v0 n0 xs0:=by
 refine h0.kept hg ?_
 cases hb:v0.ownBlock with
 | none=>exact .inl rfl
 | some g=>exact .inr λe1=>O0 h h0 ht g e1.symm hb
theorem A8T{u:World}{b i j:Nat}{v x y:Value}(h1:u.cell? ⟨b,i,none⟩=some x)(h2:u.cell? ⟨b,j,none⟩=some y):∃z,(World.setCell u ⟨b,i,none⟩ v).cell? ⟨b,j,none⟩=some z:=by
 by_cases e:j=i
 ·subst e;exact⟨v,World.cell?_setCell_same' _ _ _ (by rw[h1];rfl)⟩
 ·refine⟨y,?_⟩;rw[<-h2];simp[go_sem,e]
theorem L8{u:World}{B b:Nat}{e t:TypeId}{size n:Nat}{v:Value}{xs:List Value}{cs:Array Value}(h:u.ownsRow B e size v n xs)(hb:Blk u b t cs)(ht:e≠t):v.ownBlock≠some b:=λe1=>by
 obtain⟨_,h1|⟨g,cap,cur,rfl,hb2,hh,-⟩⟩:=h
 ·rw[h1.1]at e1;cases e1
 ·have e2:g=b:=B78 e1;subst e2;unfold Blk at hb;rw[hb]at hh;injection hh with hh;injection hh with _ h3 _;exact ht h3.symm
theorem A3X{u:World}{B b:Nat}{e:TypeId}{size n:Nat}{v:Value}{xs:List Value}(h:u.ownsRow B e size v n xs)(hb:u.heap.size<=b):v.ownBlock≠some b:=λe1=>by have:=(h.lt b e1).2;omega
theorem MatW.mono{B B' n L b0 c0:Nat}{g cp:Nat->Nat}{M:Mx}{W:World}(h:MatW B n L b0 c0 g cp M W)(hb:B'<=B):MatW B' n L b0 c0 g cp M W:=⟨h.hd.mono hb,λi hi=>(h.row i hi).mono hb,h.inj⟩
theorem MatW.own{B0 n L b0 c0:Nat}{g cp:Nat->Nat}{M:Mx}{u w':World}{B:Nat}{e:TypeId}{size m:Nat}{v:Value}{xs:List Value}{o:Obj}(hl:MatW B0 n L b0 c0 g cp M u)(h:u.ownsRow B e size v m xs)(ht:e≠35/\e≠48)(hg:(u.alloc o).grownBy w' v.ownBlock):MatW B0 n L b0 c0 g cp M w':=by
 refine(hl.grow (A4.alloc u o)).kept hg (λe1=>O0 h hl.hd ht.1 b0 e1.symm rfl) (λi hi e1=>O0 h (hl.row i hi) ht.2 (g i) e1.symm rfl)
theorem A6q(d:Option Tmp)(ty:TypeId)(pos:String)(af:Array Edge)(gd:Option (Nat×Bool)):S3 Tryz.prog ⟨d,.alloc 216,ty,pos,af,gd⟩ = .cells #[.slice none 0 0,.slice none 0 0] 216:=by kernel_rfl
theorem X0:∀t∈[44,46,48,216],R0 Tryz.prog t:=by
 intro t ht;simp only[List.mem_cons,List.not_mem_nil,or_false]at ht;rcases ht with rfl|rfl|rfl|rfl
 ·exact λ_ _ _ _ _ _=>by rw[M7];kernel_rfl
 ·exact λ_ _ _ _ _ _=>by rw[A25];kernel_rfl
 ·exact λ_ _ _ _ _ _=>by rw[Q3];kernel_rfl
 ·exact λ_ _ _ _ _ _=>by rw[A6q];kernel_rfl
def I2(l:List Nat):List Int:=l.map λx:Nat=>(x:Int)
theorem A1J(l:List Nat):(I2 l).length=l.length:=by unfold I2;simp
theorem A22(l:List Nat)(c:Nat):O9 (I2 (l++[c]))=O9 (I2 l)++[.int .i64 (c:Nat)]:=by unfold I2 O9;simp
theorem B1O{M:Mx}{t:Nat}{k:Rat}:I8 M t k 0=M:=by
 funext i j;unfold I8;rw[if_neg (by omega)]
theorem B4k{M:Mx}{t i j m:Nat}{k:Rat}(h:m<=j):I8 M t k m i j=M i j:=by
 unfold I8;rw[if_neg (by omega)]
theorem B2G{M:Mx}{t j:Nat}{k:Rat}:Z6 (I8 M t k j) t j (C3 (M t j) k)=I8 M t k (j+1):=by
 funext i' j';unfold Z6 I8;by_cases e1:i'=t
 ·subst e1;by_cases e2:j'=j
  ·subst e2;simp
  ·rw[if_neg (λe=>e2 e.2)];by_cases e3:j'<j
   ·rw[if_pos ⟨rfl,e3⟩,if_pos ⟨rfl,by omega⟩]
   ·rw[if_neg (by omega),if_neg (by omega)]
 ·rw[if_neg (λe=>e1 e.1),if_neg (λe=>e1 e.1),if_neg (λe=>e1 e.1)]
theorem B0G{M:Mx}{t c L i:Nat}(h:i≠t):H9 M t c L (i+1)=I4 (H9 M t c L i) i t (H9 M t c L i i c) L:=by
 show(if i=t then _ else _)=_;rw[if_neg h]
theorem A8k{n L c:Nat}{M:Mx}{le:List Nat}(h:¬K8 M n le.length c<n):L0 n L (M,le) c=(M,le):=if_neg h
theorem A8B{n L c:Nat}{M:Mx}{le:List Nat}(h:K8 M n le.length c<n):L0 n L (M,le) c=(H9 (I8 (J5 M le.length (K8 M n le.length c)) le.length (Q9 (B9 1) (J5 M le.length (K8 M n le.length c) le.length c)) L) le.length c L n,le++[c]):=if_pos h
theorem A8Y(A:Option Addr)(rs:List Rq)(n Lw c:Nat)(hn:rs.length=n)(hn1:1<=n)(hn2:n<=300)(hL1:1<=Lw)(hL2:Lw<=20)(hrl:∀r∈rs,r.2.2.length=Lw)(s:Nat)(hs1:1<=s)(hs:∀i,i<n->∀j,j<Lw->qs (gq (B6 (rs.map (·.2.2)) i) j)<=s)(hBz:30*(s*10^Lw)<=BIG)(w:World)(h:Lrq w A rs)(HT:Tab w) :
  Calls Tryz.prog 159 #[.slice A n c] w (E9 (λx:(Nat×(Nat->Nat)×(Nat->Nat))×Ax=>.tuple #[.agg #[.slice (some ⟨x.1.1,0,none⟩) (C0 n Lw (D7 (rs.map (·.2.2)),[]) Lw).2.length (C0 n Lw (D7 (rs.map (·.2.2)),[]) Lw).2.length,.slice x.2.1 (C0 n Lw (D7 (rs.map (·.2.2)),[]) Lw).2.length x.2.2],.int .i64 0]) (λx W=>MatW w.heap.size n Lw x.1.1 n x.1.2.1 x.1.2.2 (C0 n Lw (D7 (rs.map (·.2.2)),[]) Lw).1 W/\W.ownsRow w.heap.size 3 1 (.slice x.2.1 (C0 n Lw (D7 (rs.map (·.2.2)),[]) Lw).2.length x.2.2) (C0 n Lw (D7 (rs.map (·.2.2)),[]) Lw).2.length (O9 (I2 (C0 n Lw (D7 (rs.map (·.2.2)),[]) Lw).2))) w):=by
 have hBm:=I6;have hri:=λW (hg:A4 w W)=>A8g A rs n Lw c hn hn1 hn2 hL1 hrl W (h.grow hg);have hcp:=λW (hg:A4 w W)=>B1o A rs n Lw c hn hn2 hL1 (by omega) hrl W (h.grow hg);obtain⟨bb,ob,P0,eA,hP0⟩:=X8 hn hrl h (i:=0) (by omega);have hr0:=λW hg=>(hP0 W hg).1;simp only[Nat.add_zero]at hr0;obtain⟨M0,hM0⟩:∃M,M=D7 (rs.map (·.2.2)):=⟨_,rfl⟩
 have hz0:szM M0 n Lw s:=by rw[hM0];exact hs
 rw[<-hM0];simp only[<-hM0]at hcp;have hgz:∀k,k<=Lw->szM (C0 n Lw (M0,[]) k).1 n Lw (s*10^Lw):=λk hk=>(A4J (s:=(M0,[])) hz0 hs1 k hk).mono (B9L _ (B8Z (by omega) hk));have hgl:∀k,k<=Lw->(C0 n Lw (M0,[]) k).2.length<=n/\∀x∈(C0 n Lw (M0,[]) k).2,x<Lw:=λk hk=>A5z (s:=(M0,[])) (B8k _) (λx hx=>(by cases hx)) k hk;obtain⟨Z,hZ⟩:∃Z,Z=s*10^Lw:=⟨_,rfl⟩
 rw[<-hZ]at hBz hgz;have hZ1:1<=Z:=by rw[hZ];exact B8n hs1 (B9t (by omega))
 have hni:(0:Int)<(n:Int):=by omega
 have hnp:0<n:=by omega
 have fn:decide ((0:Int)<(n:Int))=true:=by simp;omega
 have fnn:decide (0<n)=true:=by simp;omega
 have Hri:=B8S hri;have Hcp:=B8S hcp;have Hr0:=B8S hr0;have Hgz:=B8S hgz;have Hgl:=B8S hgl;subst eA;clear hri hcp hP0 hr0 hM0 hz0 hgz hgl hZ hs hs1 h hrl hn;go_enter Tryz.func159,Tryz.ntmps159;refine en1 ?_;intro u hG b2 hB hF;refine B8N ?_;refine B8N (rsE X0 [0,1,0] hB hG λL hL=>?_);refine gs ?_;refine gmd (C:=λv ⟨hgu,hB,hG,_⟩=>Hri.out _ hG) ?_;refine gs ?_;refine geT hL ?_;clear hB hG hL L;rintro u ⟨-,hB,hG,-⟩;refine B8T (rfl) ?_;refine B8U ?_;refine A6 ?_;refine B8N ?_;obtain⟨B3,hB3⟩:∃b,b=u.heap.size:=⟨_,rfl⟩
 have h2B:b2<B3:=hB3 ▸ hB.head.lt;have h2w:=hF.1 b2 (by simp);have hwB:w.heap.size<=B3:=hB3 ▸ hG.sz;refine rsE X0 [0,1,0] hB hG λL hL=>?_;refine gs ?_;refine gxd (X:=(Nat×(Nat->Nat)×(Nat->Nat))) (λx:Nat×(Nat->Nat)×(Nat->Nat)=>.slice (some ⟨x.1,0,none⟩) n n) (λx W=>MatW B3 n Lw x.1 n x.2.1 x.2.2 M0 W) (λx u u' hg h=>MatW.grow h hg) (λx19=>?_) (C:=by(rintro v ⟨hgu,hB,hG,-⟩;exact(Hcp.out _ hG).mono λe w' ⟨x,g1,g2,g3⟩=>⟨x,g1,g2.mono (hB3 ▸ hgu.size),g3⟩));refine gs ?_;refine geT hL ?_;clear hB hG hL L;rintro u ⟨⟨hgu,hB,hG,-⟩,hx19⟩;obtain⟨b0,g,cp⟩:=x19;have Hm:=B8S (show MatW B3 n Lw b0 n g cp M0 u from hx19);clear hx19 hB3 Hcp;clear hgu;refine r0T ?_;refine B8N ?_;refine B8N ?_
 (first|have q0:=Hr0.out u hG|skip)
 refine r0N ?_;refine B8v ?_;clear hF;go_loopw [24,5] (λs0 s1 wr=>∃(k:Nat) (g cp:Nat->Nat) (ld:Ax) (r:Nat),k<=Lw/\s0 = .int .i64 k/\s1 = .slice ld.1 r ld.2/\r=(C0 n Lw (M0,[]) k).2.length/\MatW B3 n Lw b0 n g cp (C0 n Lw (M0,[]) k).1 wr/\wr.ownsRow w.heap.size 3 1 (.slice ld.1 r ld.2) r (O9 (I2 (C0 n Lw (M0,[]) k).2))/\Bx wr [(b2,216,#[.slice none 0 0,.slice none 0 0])]/\A4 w wr) (λs0 _ _=>Lw-(intOf s0).toNat)
 case atStart=>exact⟨0,g,cp,(none,0),0,B8k _,rfl,rfl,rfl,Hm.out,B9x _ _ _ _,hB,hG⟩
 case round =>
  clear hB hG Hm;obtain⟨k,g,cp,ld,r,hk,rfl,rfl,hr,hm,ho,hB,hG⟩:=hrel;obtain⟨u,rfl⟩:=exQ wr
  have hF:Fr w [b2]:=⟨λb hb=>by
   have e:b=b2:=by simpa using hb
   rw[e]
   exact h2w,by simp⟩
  obtain⟨hgl1,hgl2⟩:=Hgl.out k hk;have hgz:=Hgz.out k hk;have hstep:C0 n Lw (M0,[]) (k+1)=L0 n Lw (C0 n Lw (M0,[]) k) k:=rfl;obtain⟨⟨M,le⟩,hG0⟩:∃G,G=C0 n Lw (M0,[]) k:=⟨_,rfl⟩
  rw[<-hG0]at hgl1 hgl2 hgz hm ho hstep hr;simp only at hgl1 hgl2 hgz hm ho hr;have HG0:=B8S hG0;have Hr:=B8S hr;clear hG0;rw[<-hr]at hgl1;have Ho:=B8S ho;have Hm:=B8S hm;clear ho hm;rcases B73 k Lw with hlt|hge
  ·have hdec:decide ((k:Int)<(Lw:Int))=true:=by simp;omega
   have hkL:(k:Int)<(Lw:Int):=by omega
   obtain⟨P,hP⟩:∃P,P=K8 M n r k:=⟨_,rfl⟩
   have hpv:=λW (hmw:MatW B3 n Lw b0 n g cp M W)=>B02 hn2 r k hgl1 hlt (by omega) (λi hi=>B8K (hgz i hi k hlt) (by omega)) W hmw;rw[<-hP]at hpv;by_cases hp:P<n
   ·simp only[if_pos hp]at hpv;obtain⟨hpr,hpz⟩:=(A0s M n r k).1 (hP ▸ hp);rw[<-hP]at hpr hpz;have hrn:r<n:=by omega
    have fP:decide ((P:Int)<0)=false:=by simp
    have hrni:(r:Int)<(n:Int):=by omega
    have hpni:(P:Int)<(n:Int):=by omega
    have hnext:L0 n Lw (M,le) k=(H9 (I8 (J5 M r P) r (Q9 (B9 1) (J5 M r P r k)) Lw) r k Lw n,le++[k]):=by
     have h1:=A8B (n:=n) (L:=Lw) (c:=k) (M:=M) (le:=le) (by rw[<-hr,<-hP];exact hp);rw[<-hr,<-hP]at h1;exact h1
    rw[hnext]at hstep;have hz1:szM (J5 M r P) n Lw Z:=A5P hgz hrn hp;have Hstep:=B8S hstep;have Hpv:=B8S hpv;have Hz1:=B8S hz1;clear hpv hgz hnext hstep hz1 hpr hpz hP hgl2 hr;refine r0T ?_;refine B8N ?_;refine B8V (rfl) ?_;refine B8U ?_;refine A6 ?_;refine B8N ?_;refine B8v ?_;refine r0T ?_;refine r0T ?_;refine B8N (rsE X0 [0,0,0,1,0] hB hG λL hL=>?_);refine gs ?_;refine gmd (C:=λv ⟨hgu,hB,hG,_⟩=>Hpv.out _ (Hm.out.grow hgu)) ?_;refine gs ?_;refine geT hL ?_;clear hB hG hL L;rintro u ⟨hgu,hB,hG,-⟩;have Hm2:=B8S (Hm.out.grow hgu);have Ho2:=B8S (C5 Ho.out hgu);clear Hm Ho;have Hm:=Hm2;have Ho:=Ho2;clear Hm2 Ho2;clear hgu;refine B8N ?_;refine r0T ?_;refine B8T (rfl) ?_;refine B8U ?_;refine A6 ?_;refine B8N (rdC X0 [2,3] [(0,0),(0,1),(0,2),(0,3),(0,4),(0,5),(0,6),(0,7),(0,8),(0,9),(0,10),(0,11),(0,12)] hB hG λK L hN hL=>?_)
    repeat first|refine gya ?_|refine gyr ?_|refine gna ?_|refine gyb (by(rintro v ⟨hgu,hB,hG,-⟩ N hN;have r:=hB.r;simp only[BxR]at r;have q0:=(Hm.out.grow hgu).read hrn;obtain⟨y1,y2,y3,y4,y5⟩:=(Hm.out.grow hgu).cq hrn hlt;(try have q1:=(Hm.out.grow hgu).read hp);go_simp;exact hN)) ?_
    refine geC hL ?_;clear hB hG hL L;rintro u ⟨hgu,hB,hG,-⟩;have Hm2:=B8S (Hm.out.grow hgu);have Ho2:=B8S (C5 Ho.out hgu);clear Hm Ho;have Hm:=Hm2;have Ho:=Ho2;clear Hm2 Ho2;have q0:=Hm.out.read hrn;have q1:=Hm.out.read hp;have hfz:=Hm.out.hd.frozenAt;have hx1:∃x,(World.setCell u ⟨b0,r,none⟩ (.slice (some ⟨g P,0,none⟩) Lw (cp P))).cell? ⟨b0,P,none⟩=some x:=A8T q0 q1;obtain⟨xx,hx1⟩:=hx1;clear hgu;refine gtT ?_;clear hN K;clear q0 q1 hfz hx1;generalize hu0:World.setCell (World.setCell u _ _) _ _=u0;have hS:=Hm.out.swap hrn hp rfl (show C7 (C7 u b0 r [T4 g cp Lw P]) b0 P [T4 g cp Lw r]=u0 from hu0)
    have hG2:A4 w u0:=hG.grown hS.2 (λk hk=>by
     have e:=B78 hk;have:=Hm.out.b0lt
     omega)
    have hB2:=hB.grown_ hS.2 (λe he hxe=>by
     have e1:e=_:=List.mem_singleton.1 he;subst e1;have e2:=B78 hxe;have:=Hm.out.b0lt;simp only at e2
     omega)
    have Ho2:=B8S (A0o Ho.out Hm.out.hd (by decide) hS.2);obtain⟨M1,hM1⟩:∃x,x=J5 M r P:=⟨_,rfl⟩
    obtain⟨g1,hg1⟩:∃x,x=sw g r P:=⟨_,rfl⟩
    obtain⟨cp1,hcp1⟩:∃x,x=sw cp r P:=⟨_,rfl⟩
    have hS1:=hS.1;rw[<-hM1,<-hg1,<-hcp1]at hS1;have hstep:=Hstep.out;have hz1:=Hz1.out;rw[<-hM1]at hstep hz1;have Hm2:=B8S hS1;clear hB hG Hm Ho hS hS1 hu0 hM1 hg1 hcp1 Hstep Hz1 Hpv hp fP hpni;have hG:=hG2;have hB:=hB2;have Hm:=Hm2;have Ho:=Ho2;have Hstep:=B8S hstep;have Hz1:=B8S hz1;have zd:=A6n (B9 1) (M1 r k);have z1:=hz1 r hrn k hlt;have zo:qs (B9 1)<=1:=by decide
    have hdv:=λW hT=>B3v (B9 1) (M1 r k) W (by omega) hT;obtain⟨kk,hkk⟩:∃x,x=Q9 (B9 1) (M1 r k):=⟨_,rfl⟩
    simp only[<-hkk]at hdv;have zk:qs kk<=Z+1:=by rw[hkk];unfold Q9;omega
    have hstep2:=Hstep.out;rw[<-hkk]at hstep2;have Hdv:=B8S hdv;have Hstep2:=B8S hstep2;clear hG2 hB2 Hm2 Ho2 hstep hz1 zd zo z1 hdv hkk hstep2 Hstep;obtain⟨u,rfl⟩:=exQ u0;refine B8N (rdC X0 [11] [(0,1),(0,2),(0,3),(0,4),(0,5),(0,6),(0,7),(1,0),(1,8),(0,9),(0,10),(0,11),(2,12)] hB hG λK L hN hL=>?_)
    repeat first|refine gya ?_|refine gyr ?_|refine gna ?_|refine gyb (by(rintro v ⟨hgu,hB,hG,-⟩ N hN;have r:=hB.r;simp only[BxR]at r;have q0:=(Hm.out.grow hgu).read hrn;obtain⟨y1,y2,y3,y4,y5⟩:=(Hm.out.grow hgu).cq hrn hlt;(try have q1:=(Hm.out.grow hgu).read hp);go_simp;exact hN)) ?_
    refine gmw (C:=λv=>A0w 1 (by omega) (by omega) _) ?_;refine gmd (C:=λv ⟨hgu,hB,hG,_⟩=>Hdv.out _ (HT.grow hG)) ?_;refine gs ?_;refine gaa (Q3 _ _ _ _ _) λb9 hb9 hn9=>?_;replace hF:=hF.n1 [] hB hG hb9 hn9;refine geC hL ?_;clear hB hG hL L;rintro u ⟨⟨hgu,hB,hG,-⟩,h9⟩;replace hB:=hB.cons' h9;clear h9;obtain⟨hfr1,hfr2⟩:=Hm.out.fresh hb9;have h9o:=A3X Ho.out hb9;have Hm2:=B8S (Hm.out.grow hgu);have Ho2:=B8S (C5 Ho.out hgu);clear Hm Ho;have Hm:=Hm2;have Ho:=Ho2;clear Hm2 Ho2;clear hb9 hn9;clear hgu;refine gtT ?_;clear hN K;refine sv hB hF hG 0 0 [_,_,_,_,_] ?_;intro u hu hBG;have Hm2:=B8S (Hm.out.over ⟨hfr1,hfr2⟩ hu);have Ho2:=B8S (P5 Ho.out h9o hu);clear hB hG Hm Ho hu h9o;have Hm:=Hm2;have Ho:=Ho2;clear Hm2 Ho2;obtain⟨hB,hG⟩:=hBG;have h9g:∀i,i<n->b9≠g1 i:=hfr2;have h9w:=hF.1 b9 (by simp);have h29:b2≠b9:=λe=>by
     have:=hF.2;simp[e]at this
    clear hfr1 hfr2;refine B8N ?_;refine B8N ?_
    (first|(have q0:=Hm.out.read hrn)|skip)
    refine r0N ?_;refine B8v ?_;clear hF;go_loopw [66] (λs0 wr=>∃j:Nat,j<=Lw/\s0 = .int .i64 j/\MatW B3 n Lw b0 n g1 cp1 (I8 M1 r kk j) wr/\wr.ownsRow w.heap.size 3 1 (.slice ld.1 r ld.2) r (O9 (I2 le))/\Bx wr [(b9,48,A0E kk),(b2,216,#[.slice none 0 0,.slice none 0 0])]/\A4 w wr) (λs0 _=>Lw-(intOf s0).toNat)
    case atStart=>exact⟨0,B8k _,rfl,by rw[B1O];exact Hm.out,Ho.out,hB,hG⟩
    case round =>
     clear hB hG Hm Ho;obtain⟨j,hj,rfl,hm,ho,hB,hG⟩:=hrel;obtain⟨u,rfl⟩:=exQ wr
     have hF:Fr w [b9,b2]:=⟨λb hb=>by
      simp only[List.mem_cons,List.not_mem_nil,or_false]at hb;rcases hb with rfl|rfl
      ·exact h9w
      ·exact h2w,by simp;exact λe=>h29 e.symm⟩
     have Ho:=B8S ho;clear ho;rcases B73 j Lw with hltj|hgej
     ·have hdec2:decide ((j:Int)<(Lw:Int))=true:=by simp;omega
      have hjn:(j:Int)<(Lw:Int):=by omega
      obtain⟨M',hM'⟩:∃M',M'=I8 M1 r kk j:=⟨_,rfl⟩
      have et:M' r j=M1 r j:=by rw[hM'];exact B4k (K2 _)
      rw[<-hM']at hm;have hrt:=λW (hg:A4 u W)=>(hm.grow hg).cq hrn hltj;rw[et]at hrt;have hst:=B2G (M:=M1) (t:=r) (j:=j) (k:=kk);rw[<-hM']at hst;have z1:=Hz1.out r hrn j hltj;obtain⟨X,hX⟩:∃X,X=M1 r j:=⟨_,rfl⟩
      rw[<-hX]at hst z1;simp only[<-hX]at hrt;have hml:=λW hT=>A1d X kk W (by omega) hT;obtain⟨E,hE⟩:∃D',D'=C3 X kk:=⟨_,rfl⟩
      rw[<-hE]at hst;simp only[<-hE]at hml;have Hrt:=B8S hrt;have Hst:=B8S hst;have Hml:=B8S hml;have Hm:=B8S hm;clear hrt hst hml hm hX hE et hM' z1;refine r0T ?_;refine B8N ?_;refine B8V (rfl) ?_;refine B8U ?_;refine A6 ?_;refine B8N ?_;refine B8v ?_;refine B8N (rsC X0 [0,0,0,2,0] hB hG λK L hN hL=>?_)
      repeat first|refine gya ?_|refine gyr ?_|refine gna ?_|refine gyb (by(rintro v ⟨hgu,hB,hG,-⟩ N hN;have r:=hB.r;simp only[BxR]at r;have q0:=(Hm.out.grow hgu).read hrn;(first|obtain⟨y1,y2,y3,y4,y5⟩:=Hrt.out v hgu|skip);go_simp;exact hN)) ?_
      refine gaa (Q3 _ _ _ _ _) λb12 hb12 hn12=>?_;refine gs ?_;replace hF:=hF.n1 [] hB hG hb12 hn12;refine geC hL ?_;clear hB hG hL L;rintro u ⟨⟨hgu,hB,hG,-⟩,h12⟩;replace hB:=hB.cons' h12;clear h12;clear Hrt;obtain⟨hfr1,hfr2⟩:=Hm.out.fresh hb12;have h12o:=A3X Ho.out hb12;have Hm2:=B8S (Hm.out.grow hgu);have Ho2:=B8S (C5 Ho.out hgu);clear Hm Ho;have Hm:=Hm2;have Ho:=Ho2;clear Hm2 Ho2;clear hb12 hn12;clear hgu;refine gtT ?_;clear hN K;refine sv hB hF hG 0 0 [_,_,_,_,_] ?_;intro u hu hBG;have Hm2:=B8S (Hm.out.over ⟨hfr1,hfr2⟩ hu);have Ho2:=B8S (P5 Ho.out h12o hu);clear hB hG Hm Ho hu h12o;have Hm:=Hm2;have Ho:=Ho2;clear Hm2 Ho2;obtain⟨hB,hG⟩:=hBG;refine rdC X0 [] [(0,0),(0,1),(0,2),(0,3),(0,4),(0,5),(0,6),(1,7),(0,8)] hB hG λK L hN hL=>?_
      repeat first|refine gya ?_|refine gyr ?_|refine gna ?_|refine gyb (by(rintro v ⟨hgu,hB,hG,-⟩ N hN;have r:=hB.r;simp only[BxR]at r;have q0:=(Hm.out.grow hgu).read hrn;(first|obtain⟨y1,y2,y3,y4,y5⟩:=Hrt.out v hgu|skip);go_simp;exact hN)) ?_
      refine gmd (C:=λv ⟨hgu,hB,hG,_⟩=>Hml.out _ (HT.grow hG)) ?_;refine gs ?_;refine geC hL ?_;clear hB hG hL L;rintro u ⟨hgu,hB,hG,-⟩;have Hm2:=B8S (Hm.out.grow hgu);have Ho2:=B8S (C5 Ho.out hgu);clear Hm Ho;have Hm:=Hm2;have Ho:=Ho2;clear Hm2 Ho2;obtain⟨o0,o1,o2,o3,o4⟩:=Hm.out.cq hrn hltj;have hfz:=(Hm.out.row r hrn).frozenAt;clear hgu;refine gt ?_;clear hN K;clear o0 o1 o2 o3 o4 hfz;generalize hu0:World.setCell (World.setCell (World.setCell (World.setCell (World.setCell u _ _) _ _) _ _) _ _) _ _=u0;have hu1:C7 u (g1 r) (j*5) (qL E)=u0:=hu0;have hP:=Hm.out.put hrn hltj E rfl hu1;rw[Hst.out]at hP
      have hG2:A4 w u0:=hG.grown hP.2 (λk hk=>by
       have e:=B78 hk;have:=(Hm.out.glt hrn).1
       omega)
      have hB2:=hB.tail.grown_ hP.2 (λe he hxe=>by
       have e2:=B78 hxe;have e3:=(Hm.out.glt hrn).1;simp only[List.mem_cons,List.not_mem_nil,or_false]at he;rcases he with rfl|rfl
       ·exact h9g r hrn e2
       ·simp only at e2
        omega)
      have Ho2:=B8S (A0o Ho.out (Hm.out.row r hrn) (by decide) hP.2);have Hm2:=B8S hP.1;clear hG hB Hm Ho hP hu1 hu0;have hG:=hG2;have hB:=hB2;have Hm:=Hm2;have Ho:=Ho2;clear hG2 hB2 Hm2 Ho2;obtain⟨u,rfl⟩:=exQ u0;refine C8 ?_;refine A6 ?_;refine r0E ?_;refine A6 ?_;go_roundw
      case rel=>exact⟨j+1,by omega,by go_num,Hm.out,Ho.out,hB,hG⟩
      case measure=>simp[intOf];omega
     ·obtain rfl:Lw=j:=by omega
      have hdec2:decide ((Lw:Int)<(Lw:Int))=false:=by simp
      have hz2:szM (I8 M1 r kk Lw) n Lw (2*Z+1):=(A6w Hz1.out zk).mono (by omega);obtain⟨M2,hM2⟩:∃x,x=I8 M1 r kk Lw:=⟨_,rfl⟩
      have hstep:=Hstep2.out;rw[<-hM2]at hm hz2 hstep;have Hm:=B8S hm;have Hz2:=B8S hz2;have Hstep:=B8S hstep;clear hm hz2 hM2 hstep Hstep2 Hz1 zk;refine r0T ?_;refine B8N ?_;refine B8T (rfl) ?_;refine B8x ?_;refine B7 ?_;refine B7 ?_;refine D0 ?_;refine A6 ?_;refine B8N ?_;refine r0T ?_;refine B8v ?_;clear hF;go_loopw [83] (λs0 wr=>∃i:Nat,i<=n/\s0 = .int .i64 i/\MatW B3 n Lw b0 n g1 cp1 (H9 M2 r k Lw i) wr/\wr.ownsRow w.heap.size 3 1 (.slice ld.1 r ld.2) r (O9 (I2 le))/\Bx wr [(b9,48,A0E kk),(b2,216,#[.slice none 0 0,.slice none 0 0])]/\A4 w wr) (λs0 _=>n-(intOf s0).toNat)
      case atStart=>exact⟨0,B8k _,rfl,Hm.out,Ho.out,hB,hG⟩
      case round =>
       clear hB hG Hm Ho;obtain⟨i,hi,rfl,hm,ho,hB,hG⟩:=hrel;obtain⟨u,rfl⟩:=exQ wr
       have hF:Fr w [b9,b2]:=⟨λb hb=>by
        simp only[List.mem_cons,List.not_mem_nil,or_false]at hb;rcases hb with rfl|rfl
        ·exact h9w
        ·exact h2w,by simp;exact λe=>h29 e.symm⟩
       have Ho:=B8S ho;clear ho;rcases B73 i n with hlti|hgei
       ·have hdec3:decide ((i:Int)<(n:Int))=true:=by simp;omega
        have hin:(i:Int)<(n:Int):=by omega
        by_cases hir:i=r
        ·have fir:((i:Int) != (r:Int))=false:=by simp[hir]
         have Hm:=B8S (show MatW B3 n Lw b0 n g1 cp1 (H9 M2 r k Lw (i+1)) u by rw[show H9 M2 r k Lw (i+1)=H9 M2 r k Lw i from if_pos hir];exact hm);clear hm hir;refine r0T ?_;refine B8N ?_;refine B8V (rfl) ?_;refine B8U ?_;refine A6 ?_;refine B8N ?_;refine B8v ?_;refine r0T ?_;refine r0T ?_;refine B8T (rfl) ?_;refine B8U ?_;refine C8 ?_;refine A6 ?_;refine r0E ?_;refine A6 ?_;go_roundw
         case rel=>exact⟨i+1,by omega,by go_num,Hm.out,Ho.out,hB,hG⟩
         case measure=>simp[intOf];omega
        ·have fir:((i:Int) != (r:Int))=true:=by simp;omega
         have ei:H9 M2 r k Lw i i=M2 i:=A3n i i (K2 _);have er:H9 M2 r k Lw i r=M2 r:=A1x i;have hnx:=B0G (M:=M2) (c:=k) (L:=Lw) hir;obtain⟨M',hM'⟩:∃M',M'=H9 M2 r k Lw i:=⟨_,rfl⟩
         rw[<-hM']at hm ei er hnx;have hz2:=Hz2.out;have hrd:=λW (hgw:A4 w W) (hmw:MatW B3 n Lw b0 n g1 cp1 M' W)=>B3B (by omega) i r hlti hrn (λe=>hir e.symm) (M' i k) (2*Z+1) (by rw[ei];exact hz2 i hlti k hlt) (λj hj=>by rw[ei];exact hz2 i hlti j hj) (λj hj=>by rw[er];exact hz2 r hrn j hj) (by omega) w W hgw hwB hmw HT;have Hnx:=B8S hnx;have Hrd:=B8S hrd;have Hm:=B8S hm;clear hnx hrd hm hM' ei er hz2 hir;refine r0T ?_;refine B8N ?_;refine B8V (rfl) ?_;refine B8U ?_;refine A6 ?_;refine B8N ?_;refine B8v ?_;refine r0T ?_;refine r0T ?_;refine B8V (rfl) ?_;refine A1Z (w:=w) X0 15 [] [(0,0),(0,1),(0,2),(0,3),(0,4),(0,5),(0,6),(0,7),(0,8),(0,9),(0,10),(0,11),(0,12),(0,13),(0,14)] (by kernel_rfl) (by kernel_rfl) (by simp only[List.drop_succ_cons,List.drop_zero];exact rfl) (λ_=>True) noG hB hG trivial ?_;intro K L hN hL;simp only[H6,List.getElem?_toArray,List.getElem?_cons_zero,List.getElem?_cons_succ]
         repeat first|refine gya ?_|refine gyr ?_|refine gna ?_|refine gyb (by(rintro v ⟨hgu,hB,hG,-⟩ N hN;have r:=hB.r;simp only[BxR]at r;have q0:=(Hm.out.grow hgu).read hrn;have q1:=(Hm.out.grow hgu).read hlti;obtain⟨y1,y2,y3,y4,y5⟩:=(Hm.out.grow hgu).cq hlti hlt;go_simp;exact hN)) ?_
         refine H8 ?_;rintro v ⟨hgu,hB1,hG1,-⟩;have Hm2:=B8S (Hm.out.grow hgu);have Ho2:=B8S (C5 Ho.out hgu);clear Hm Ho;have Hm:=Hm2;have Ho:=Ho2;clear Hm2 Ho2;clear hB hG;have hB:=hB1;have hG:=hG1;clear hB1 hG1;refine hL _ _ ?_;clear hL L hgu;obtain⟨u,rfl⟩:=exQ v;go_wp2_with (go_at_call 195;refine(Hrd.out u hG Hm.out).mono ?_;rintro e w5 ⟨rfl,p0,p1⟩);refine NoK.norm (hN _ _ ?_);clear hN K
         have hG2:A4 w w5:=hG.grown p1 (λk hk=>by
          have e:=B78 hk;have:=(Hm.out.glt hlti).1
          omega)
         have hB2:=hB.grown_ p1 (λe he hxe=>by
          have e2:=B78 hxe;have e3:=(Hm.out.glt hlti).1;simp only[List.mem_cons,List.not_mem_nil,or_false]at he;rcases he with rfl|rfl
          ·exact h9g i hlti e2
          ·simp only at e2
           omega)
         have Ho2:=B8S (A0o Ho.out (Hm.out.row i hlti) (by decide) p1);have Hm2:=B8S (show MatW B3 n Lw b0 n g1 cp1 (H9 M2 r k Lw (i+1)) w5 by rw[Hnx.out];exact p0);clear hG hB Hm Ho p0 p1 Hnx Hrd;have hG:=hG2;have hB:=hB2;have Hm:=Hm2;have Ho:=Ho2;clear hG2 hB2 Hm2 Ho2;obtain⟨u,rfl⟩:=exQ w5;refine C8 ?_;refine A6 ?_;refine r0E ?_;refine A6 ?_;go_roundw
         case rel=>exact⟨i+1,by omega,by go_num,Hm.out,Ho.out,hB,hG⟩
         case measure=>simp[intOf];omega
       ·obtain rfl:n=i:=by omega
        have hdec3:decide ((n:Int)<(n:Int))=false:=by simp
        have Hm:=B8S hm;clear hm;refine r0T ?_;refine B8N ?_;refine B8T (rfl) ?_;refine B8x ?_;refine B7 ?_;refine B7 ?_;refine D0 ?_;refine A6 ?_;refine M4 (w:=w) X0 2 [0,0] (by kernel_rfl) (by simp only[List.drop_succ_cons,List.drop_zero];exact rfl) (λ_=>True) noG hB hG trivial ?_;intro K L hN hL;simp only[List.zip_cons_cons,List.zip_nil_left];refine gs ?_;refine H8 ?_;rintro v ⟨hgu,hB1,hG1,-⟩;have ROWn:=B8S (C5 Ho.out hgu);clear Ho;have Ho:=ROWn;clear ROWn;have Hm2:=B8S (Hm.out.grow hgu);clear Hm;have Hm:=Hm2;clear Hm2;clear hB hG;have hB:=hB1;have hG:=hG1;clear hB1 hG1;refine hL _ _ ?_;clear hL L hgu;obtain⟨u,rfl⟩:=exQ v;refine L6 A3r w.heap.size _ _ _ _ [.int .i64 (k:Nat)] rfl rfl (A2w (k:Nat) u) rfl (λ_=>rfl) (λ_=>rfl) (λ_ _=>rfl) Ho.out (by omega) (by omega) hG.sz λp v' w' g1 g2 g3=>?_;have hBn:=A9z Ho.out hB (by simp) g2;have Hm2:=B8S (Hm.out.own Ho.out (by decide) g2);clear Hm;have hGn:=K3 Ho.out hG g2;clear Ho hB hG;have Ho:=B8S g1;have hB:=hBn;have hG:=hGn;clear g1 g2 g3 hBn hGn;obtain⟨u,rfl⟩:=exQ w';simp only[Act.put,List.setIfInBounds_toArray,List.set_cons_succ,List.set_cons_zero];refine NoK.norm (hN _ _ ?_);clear hN K;have Hm:=Hm2;clear Hm2;obtain⟨A5,c5,rfl,-,-⟩:=A1M (n:=r+1) (l:=I2 (le++[k])) (by have:=Ho.out;rw[A22];exact this) (by rw[A1J,List.length_append,<-Hr.out];rfl);refine C8 ?_;refine A6 ?_;refine r0E ?_;refine A6 ?_;go_roundw
        case rel=>exact⟨k+1,g1,cp1,(A5,c5),r+1,by omega,by go_num,rfl,by rw[Hstep.out,List.length_append,<-Hr.out];rfl,by rw[Hstep.out];exact Hm.out,by rw[Hstep.out,A22];exact Ho.out,hB.tail,hG⟩
        case measure=>simp[intOf];omega
   ·simp only[if_neg hp]at hpv;rw[A8k (by rw[<-hr,<-hP];exact hp)]at hstep;have Hstep:=B8S hstep;have Hpv:=B8S hpv;clear hpv hgz hP hgl2 hstep hr;refine r0T ?_;refine B8N ?_;refine B8V (rfl) ?_;refine B8U ?_;refine A6 ?_;refine B8N ?_;refine B8v ?_;refine r0T ?_;refine r0T ?_;refine B8N (rsE X0 [0,0,0,1,0] hB hG λL hL=>?_);refine gs ?_;refine gmd (C:=λv ⟨hgu,hB,hG,_⟩=>Hpv.out _ (Hm.out.grow hgu)) ?_;refine gs ?_;refine geT hL ?_;clear hB hG hL L;rintro u ⟨hgu,hB,hG,-⟩;have Hm2:=B8S (Hm.out.grow hgu);have Ho2:=B8S (C5 Ho.out hgu);clear Hm Ho;have Hm:=Hm2;have Ho:=Ho2;clear Hm2 Ho2;clear hgu;refine B8N ?_;refine r0T ?_;refine B8V (rfl) ?_;refine B8x ?_;refine B7 ?_;refine D0 ?_;refine A6 ?_;refine r0E ?_;refine A6 ?_;go_roundw
    case rel=>exact⟨k+1,g,cp,ld,r,by omega,by go_num,rfl,by rw[Hstep.out];exact Hr.out,by rw[Hstep.out];exact Hm.out,by rw[Hstep.out];exact Ho.out,hB,hG⟩
    case measure=>simp[intOf];omega
  ·obtain rfl:Lw=k:=by omega
   have hdec:decide ((Lw:Int)<(Lw:Int))=false:=by simp
   clear hgz hgl2 hstep hr;refine r0T ?_;refine B8N ?_;refine B8T (rfl) ?_;refine B8x ?_;refine B7 ?_;refine B7 ?_;refine D0 ?_;refine A6 ?_;refine B8N ?_
   (first|have q0:=Hr0.out u hG|skip)
   refine r0N ?_;refine sv hB hF hG 0 0 [_,_] ?_;intro u hu hBG;have hne2:=L8 Ho.out hB.head (by decide);have Hm2:=B8S (Hm.out.over ⟨by have:=Hm.out.b0lt;omega,λi hi=>by have:=Hm.out.glt hi;omega⟩ hu);have ho2:=P5 Ho.out hne2 hu;have HLd:=B8S ho2;clear hB hG Hm Ho hu hne2 ho2;have Hm:=Hm2;clear Hm2;obtain⟨hB,hG⟩:=hBG;refine rt Tryz.results159 ?_;exact⟨((b0,g,cp),ld),by rw[Hr.out,<-HG0.out],⟨by rw[<-HG0.out];exact Hm.out.mono hwB,by rw[<-HG0.out];have h:=HLd.out;rw[Hr.out]at h;exact h⟩,hG⟩
end Go.Proofs.YtgpglgbcobeogaaGreatDoor
