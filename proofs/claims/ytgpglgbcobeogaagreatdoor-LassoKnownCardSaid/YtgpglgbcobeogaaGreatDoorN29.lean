import Derived.Test.YtgpglgbcobeogaaGreatDoorN28
set_option linter.unusedSimpArgs false
set_option linter.unusedVariables false
set_option maxHeartbeats 16000000
set_option maxRecDepth 100000
namespace Go.Proofs.YtgpglgbcobeogaaGreatDoor
open Go Go.RowKit
theorem A2B{u w':World}{B B0:Nat}{e e0:TypeId}{size size0 n n0:Nat}{v v0:Value}{xs xs0:List Value}(h0:u.ownsRow B0 e0 size0 v0 n0 xs0)(h:u.ownsRow B e size v n xs)(ht:e≠e0)(hg:u.grownBy w' v.ownBlock):w'.ownsRow B0 e0 size0 v0 n0 xs0:=by
 refine h0.kept hg ?_
 cases hb:v0.ownBlock with
 | none=>exact .inl rfl
 | some g=>exact .inr λe1=>N7 h h0 ht g e1.symm hb
theorem B2J{u:World}{b i j:Nat}{v x y:Value}(h1:u.cell? ⟨b,i,none⟩=some x)(h2:u.cell? ⟨b,j,none⟩=some y):∃z,(World.setCell u ⟨b,i,none⟩ v).cell? ⟨b,j,none⟩=some z:=by
 by_cases e:j=i
 ·subst e;exact⟨v,World.cell?_setCell_same' _ _ _ (by rw[h1];rfl)⟩
 ·refine⟨y,?_⟩;rw[<-h2];simp[go_sem,e]
theorem E8{u:World}{B b:Nat}{e t:TypeId}{size n:Nat}{v:Value}{xs:List Value}{cs:Array Value}(h:u.ownsRow B e size v n xs)(hb:Blk u b t cs)(ht:e≠t):v.ownBlock≠some b:=λe1=>by
 obtain⟨_,h1|⟨g,cap,cur,rfl,hb2,hh,-⟩⟩:=h
 ·rw[h1.1]at e1;cases e1
 ·have e2:g=b:=B8y e1;subst e2;unfold Blk at hb;rw[hb]at hh;injection hh with hh;injection hh with _ h3 _;exact ht h3.symm
theorem A04{u:World}{B b:Nat}{e:TypeId}{size n:Nat}{v:Value}{xs:List Value}(h:u.ownsRow B e size v n xs)(hb:u.heap.size<=b):v.ownBlock≠some b:=λe1=>by have:=(h.lt b e1).2;omega
theorem MatW.mono{B B' n L b0 c0:Nat}{g cp:Nat->Nat}{M:Mx}{W:World}(h:MatW B n L b0 c0 g cp M W)(hb:B'<=B):MatW B' n L b0 c0 g cp M W:=⟨h.hd.mono hb,λi hi=>(h.row i hi).mono hb,h.inj⟩
theorem MatW.own{B0 n L b0 c0:Nat}{g cp:Nat->Nat}{M:Mx}{u w':World}{B:Nat}{e:TypeId}{size m:Nat}{v:Value}{xs:List Value}{o:Obj}(hl:MatW B0 n L b0 c0 g cp M u)(h:u.ownsRow B e size v m xs)(ht:e≠35/\e≠48)(hg:(u.alloc o).grownBy w' v.ownBlock):MatW B0 n L b0 c0 g cp M w':=by
 refine(hl.grow (A4.alloc u o)).kept hg (λe1=>N7 h hl.hd ht.1 b0 e1.symm rfl) (λi hi e1=>N7 h (hl.row i hi) ht.2 (g i) e1.symm rfl)
theorem A5q(d:Option Tmp)(ty:TypeId)(pos:String)(af:Array Edge)(gd:Option (Nat×Bool)):N5 Tryz.prog ⟨d,.alloc 216,ty,pos,af,gd⟩ = .cells #[.slice none 0 0,.slice none 0 0] 216:=by kernel_rfl
theorem X4:∀t∈[44,46,48,216],N8 Tryz.prog t:=by
 intro t ht;simp only[List.mem_cons,List.not_mem_nil,or_false]at ht;rcases ht with rfl|rfl|rfl|rfl
 ·exact λ_ _ _ _ _ _=>by rw[L8];kernel_rfl
 ·exact λ_ _ _ _ _ _=>by rw[A2m];kernel_rfl
 ·exact λ_ _ _ _ _ _=>by rw[G6];kernel_rfl
 ·exact λ_ _ _ _ _ _=>by rw[A5q];kernel_rfl
def M9(l:List Nat):List Int:=l.map λx:Nat=>(x:Int)
theorem A3e(l:List Nat):(M9 l).length=l.length:=by unfold M9;simp
theorem A5G(l:List Nat)(c:Nat):A0M (M9 (l++[c]))=A0M (M9 l)++[.int .i64 (c:Nat)]:=by unfold M9 A0M;simp
theorem B6G{M:Mx}{t:Nat}{k:Rat}:N3 M t k 0=M:=by
 funext i j;unfold N3;rw[if_neg (by omega)]
theorem B2n{M:Mx}{t i j m:Nat}{k:Rat}(h:m<=j):N3 M t k m i j=M i j:=by
 unfold N3;rw[if_neg (by omega)]
theorem B6Y{M:Mx}{t j:Nat}{k:Rat}:A0A (N3 M t k j) t j (D5 (M t j) k)=N3 M t k (j+1):=by
 funext i' j';unfold A0A N3;by_cases e1:i'=t
 ·subst e1;by_cases e2:j'=j
  ·subst e2;simp
  ·rw[if_neg (λe=>e2 e.2)];by_cases e3:j'<j
   ·rw[if_pos ⟨rfl,e3⟩,if_pos ⟨rfl,by omega⟩]
   ·rw[if_neg (by omega),if_neg (by omega)]
 ·rw[if_neg (λe=>e1 e.1),if_neg (λe=>e1 e.1),if_neg (λe=>e1 e.1)]
theorem B8j{M:Mx}{t c L i:Nat}(h:i≠t):K5 M t c L (i+1)=J4 (K5 M t c L i) i t (K5 M t c L i i c) L:=by
 show(if i=t then _ else _)=_;rw[if_neg h]
theorem B62{n L c:Nat}{M:Mx}{le:List Nat}(h:¬M3 M n le.length c<n):O0 n L (M,le) c=(M,le):=if_neg h
theorem B6v{n L c:Nat}{M:Mx}{le:List Nat}(h:M3 M n le.length c<n):O0 n L (M,le) c=(K5 (N3 (M7 M le.length (M3 M n le.length c)) le.length (H9 (B4 1) (M7 M le.length (M3 M n le.length c) le.length c)) L) le.length c L n,le++[c]):=if_pos h
theorem A8K(A:Option Addr)(rs:List Rq)(n Lw c:Nat)(hn:rs.length=n)(hn1:1<=n)(hn2:n<=300)(hL1:1<=Lw)(hL2:Lw<=20)(hrl:∀r∈rs,r.2.2.length=Lw)(s:Nat)(hs1:1<=s)(hs:∀i,i<n->∀j,j<Lw->qs (gq (B7 (rs.map (·.2.2)) i) j)<=s)(hBz:30*(s*10^Lw)<=BIG)(w:World)(h:Lrq w A rs)(HT:Tab w) :
  Calls Tryz.prog 159 #[.slice A n c] w (G9 (λx:(Nat×(Nat->Nat)×(Nat->Nat))×Ax=>.tuple #[.agg #[.slice (some ⟨x.1.1,0,none⟩) (C9 n Lw (F6 (rs.map (·.2.2)),[]) Lw).2.length (C9 n Lw (F6 (rs.map (·.2.2)),[]) Lw).2.length,.slice x.2.1 (C9 n Lw (F6 (rs.map (·.2.2)),[]) Lw).2.length x.2.2],.int .i64 0]) (λx W=>MatW w.heap.size n Lw x.1.1 n x.1.2.1 x.1.2.2 (C9 n Lw (F6 (rs.map (·.2.2)),[]) Lw).1 W/\W.ownsRow w.heap.size 3 1 (.slice x.2.1 (C9 n Lw (F6 (rs.map (·.2.2)),[]) Lw).2.length x.2.2) (C9 n Lw (F6 (rs.map (·.2.2)),[]) Lw).2.length (A0M (M9 (C9 n Lw (F6 (rs.map (·.2.2)),[]) Lw).2))) w):=by
 have hBm:=J7;have hri:=λW (hg:A4 w W)=>A7d A rs n Lw c hn hn1 hn2 hL1 hrl W (h.grow hg);have hcp:=λW (hg:A4 w W)=>B28 A rs n Lw c hn hn2 hL1 (by omega) hrl W (h.grow hg);obtain⟨bb,ob,P0,eA,hP0⟩:=U9 hn hrl h (i:=0) (by omega);have hr0:=λW hg=>(hP0 W hg).1;simp only[Nat.add_zero]at hr0;obtain⟨M0,hM0⟩:∃M,M=F6 (rs.map (·.2.2)):=⟨_,rfl⟩
 have hz0:szM M0 n Lw s:=by rw[hM0];exact hs
 rw[<-hM0];simp only[<-hM0]at hcp;have hgz:∀k,k<=Lw->szM (C9 n Lw (M0,[]) k).1 n Lw (s*10^Lw):=λk hk=>(A5J (s:=(M0,[])) hz0 hs1 k hk).mono (C0B _ (B9P (by omega) hk));have hgl:∀k,k<=Lw->(C9 n Lw (M0,[]) k).2.length<=n/\∀x∈(C9 n Lw (M0,[]) k).2,x<Lw:=λk hk=>A8F (s:=(M0,[])) (B9a _) (λx hx=>(by cases hx)) k hk;obtain⟨Z,hZ⟩:∃Z,Z=s*10^Lw:=⟨_,rfl⟩
 rw[<-hZ]at hBz hgz;have hZ1:1<=Z:=by rw[hZ];exact B9d hs1 (C0j (by omega))
 have hni:(0:Int)<(n:Int):=by omega
 have hnp:0<n:=by omega
 have fn:decide ((0:Int)<(n:Int))=true:=by simp;omega
 have fnn:decide (0<n)=true:=by simp;omega
 have Hri:=B9I hri;have Hcp:=B9I hcp;have Hr0:=B9I hr0;have Hgz:=B9I hgz;have Hgl:=B9I hgl;subst eA;clear hri hcp hP0 hr0 hM0 hz0 hgz hgl hZ hs hs1 h hrl hn;go_enter Tryz.func159,Tryz.ntmps159;refine en1 ?_;intro u hG b2 hB hF;refine B9D ?_;refine B9D (rsE X4 [0,1,0] hB hG λL hL=>?_);refine gs ?_;refine gmd (C:=λv ⟨hgu,hB,hG,_⟩=>Hri.out _ hG) ?_;refine gs ?_;refine geT hL ?_;clear hB hG hL L;rintro u ⟨-,hB,hG,-⟩;refine B9J (rfl) ?_;refine B9K ?_;refine A6 ?_;refine B9D ?_;obtain⟨B3,hB3⟩:∃b,b=u.heap.size:=⟨_,rfl⟩
 have h2B:b2<B3:=hB3 ▸ hB.head.lt;have h2w:=hF.1 b2 (by simp);have hwB:w.heap.size<=B3:=hB3 ▸ hG.sz;refine rsE X4 [0,1,0] hB hG λL hL=>?_;refine gs ?_;refine gxd (X:=(Nat×(Nat->Nat)×(Nat->Nat))) (λx:Nat×(Nat->Nat)×(Nat->Nat)=>.slice (some ⟨x.1,0,none⟩) n n) (λx W=>MatW B3 n Lw x.1 n x.2.1 x.2.2 M0 W) (λx u u' hg h=>MatW.grow h hg) (λx19=>?_) (C:=by(rintro v ⟨hgu,hB,hG,-⟩;exact(Hcp.out _ hG).mono λe w' ⟨x,g1,g2,g3⟩=>⟨x,g1,g2.mono (hB3 ▸ hgu.size),g3⟩));refine gs ?_;refine geT hL ?_;clear hB hG hL L;rintro u ⟨⟨hgu,hB,hG,-⟩,hx19⟩;obtain⟨b0,g,cp⟩:=x19;have Hm:=B9I (show MatW B3 n Lw b0 n g cp M0 u from hx19);clear hx19 hB3 Hcp;clear hgu;refine r0T ?_;refine B9D ?_;refine B9D ?_
 (first|have q0:=Hr0.out u hG|skip)
 refine r0N ?_;refine B9l ?_;clear hF;go_loopw [24,5] (λs0 s1 wr=>∃(k:Nat) (g cp:Nat->Nat) (ld:Ax) (r:Nat),k<=Lw/\s0 = .int .i64 k/\s1 = .slice ld.1 r ld.2/\r=(C9 n Lw (M0,[]) k).2.length/\MatW B3 n Lw b0 n g cp (C9 n Lw (M0,[]) k).1 wr/\wr.ownsRow w.heap.size 3 1 (.slice ld.1 r ld.2) r (A0M (M9 (C9 n Lw (M0,[]) k).2))/\Bx wr [(b2,216,#[.slice none 0 0,.slice none 0 0])]/\A4 w wr) (λs0 _ _=>Lw-(intOf s0).toNat)
 case atStart=>exact⟨0,g,cp,(none,0),0,B9a _,rfl,rfl,rfl,Hm.out,C0n _ _ _ _,hB,hG⟩
 case round =>
  clear hB hG Hm;obtain⟨k,g,cp,ld,r,hk,rfl,rfl,hr,hm,ho,hB,hG⟩:=hrel;obtain⟨u,rfl⟩:=exQ wr
  have hF:Fr w [b2]:=⟨λb hb=>by
   have e:b=b2:=by simpa using hb
   rw[e]
   exact h2w,by simp⟩
  obtain⟨hgl1,hgl2⟩:=Hgl.out k hk;have hgz:=Hgz.out k hk;have hstep:C9 n Lw (M0,[]) (k+1)=O0 n Lw (C9 n Lw (M0,[]) k) k:=rfl;obtain⟨⟨M,le⟩,hG0⟩:∃G,G=C9 n Lw (M0,[]) k:=⟨_,rfl⟩
  rw[<-hG0]at hgl1 hgl2 hgz hm ho hstep hr;simp only at hgl1 hgl2 hgz hm ho hr;have HG0:=B9I hG0;have Hr:=B9I hr;clear hG0;rw[<-hr]at hgl1;have Ho:=B9I ho;have Hm:=B9I hm;clear ho hm;rcases B8t k Lw with hlt|hge
  ·have hdec:decide ((k:Int)<(Lw:Int))=true:=by simp;omega
   have hkL:(k:Int)<(Lw:Int):=by omega
   obtain⟨P,hP⟩:∃P,P=M3 M n r k:=⟨_,rfl⟩
   have hpv:=λW (hmw:MatW B3 n Lw b0 n g cp M W)=>B7Q hn2 r k hgl1 hlt (by omega) (λi hi=>B9A (hgz i hi k hlt) (by omega)) W hmw;rw[<-hP]at hpv;by_cases hp:P<n
   ·simp only[if_pos hp]at hpv;obtain⟨hpr,hpz⟩:=(A1e M n r k).1 (hP ▸ hp);rw[<-hP]at hpr hpz;have hrn:r<n:=by omega
    have fP:decide ((P:Int)<0)=false:=by simp
    have hrni:(r:Int)<(n:Int):=by omega
    have hpni:(P:Int)<(n:Int):=by omega
    have hnext:O0 n Lw (M,le) k=(K5 (N3 (M7 M r P) r (H9 (B4 1) (M7 M r P r k)) Lw) r k Lw n,le++[k]):=by
     have h1:=B6v (n:=n) (L:=Lw) (c:=k) (M:=M) (le:=le) (by rw[<-hr,<-hP];exact hp);rw[<-hr,<-hP]at h1;exact h1
    rw[hnext]at hstep;have hz1:szM (M7 M r P) n Lw Z:=A9l hgz hrn hp;have Hstep:=B9I hstep;have Hpv:=B9I hpv;have Hz1:=B9I hz1;clear hpv hgz hnext hstep hz1 hpr hpz hP hgl2 hr;refine r0T ?_;refine B9D ?_;refine B9L (rfl) ?_;refine B9K ?_;refine A6 ?_;refine B9D ?_;refine B9l ?_;refine r0T ?_;refine r0T ?_;refine B9D (rsE X4 [0,0,0,1,0] hB hG λL hL=>?_);refine gs ?_;refine gmd (C:=λv ⟨hgu,hB,hG,_⟩=>Hpv.out _ (Hm.out.grow hgu)) ?_;refine gs ?_;refine geT hL ?_;clear hB hG hL L;rintro u ⟨hgu,hB,hG,-⟩;have Hm2:=B9I (Hm.out.grow hgu);have Ho2:=B9I (C0 Ho.out hgu);clear Hm Ho;have Hm:=Hm2;have Ho:=Ho2;clear Hm2 Ho2;clear hgu;refine B9D ?_;refine r0T ?_;refine B9J (rfl) ?_;refine B9K ?_;refine A6 ?_;refine B9D (rdC X4 [2,3] [(0,0),(0,1),(0,2),(0,3),(0,4),(0,5),(0,6),(0,7),(0,8),(0,9),(0,10),(0,11),(0,12)] hB hG λK L hN hL=>?_)
    repeat first|refine gya ?_|refine gyr ?_|refine gna ?_|refine gyb (by(rintro v ⟨hgu,hB,hG,-⟩ N hN;have r:=hB.r;simp only[BxR]at r;have q0:=(Hm.out.grow hgu).read hrn;obtain⟨y1,y2,y3,y4,y5⟩:=(Hm.out.grow hgu).cq hrn hlt;(try have q1:=(Hm.out.grow hgu).read hp);go_simp;exact hN)) ?_
    refine geC hL ?_;clear hB hG hL L;rintro u ⟨hgu,hB,hG,-⟩;have Hm2:=B9I (Hm.out.grow hgu);have Ho2:=B9I (C0 Ho.out hgu);clear Hm Ho;have Hm:=Hm2;have Ho:=Ho2;clear Hm2 Ho2;have q0:=Hm.out.read hrn;have q1:=Hm.out.read hp;have hfz:=Hm.out.hd.frozenAt;have hx1:∃x,(World.setCell u ⟨b0,r,none⟩ (.slice (some ⟨g P,0,none⟩) Lw (cp P))).cell? ⟨b0,P,none⟩=some x:=B2J q0 q1;obtain⟨xx,hx1⟩:=hx1;clear hgu;refine gtT ?_;clear hN K;clear q0 q1 hfz hx1;generalize hu0:World.setCell (World.setCell u _ _) _ _=u0;have hS:=Hm.out.swap hrn hp rfl (show C2 (C2 u b0 r [R6 g cp Lw P]) b0 P [R6 g cp Lw r]=u0 from hu0)
    have hG2:A4 w u0:=hG.grown hS.2 (λk hk=>by
     have e:=B8y hk;have:=Hm.out.b0lt
     omega)
    have hB2:=hB.grown_ hS.2 (λe he hxe=>by
     have e1:e=_:=List.mem_singleton.1 he;subst e1;have e2:=B8y hxe;have:=Hm.out.b0lt;simp only at e2
     omega)
    have Ho2:=B9I (A2B Ho.out Hm.out.hd (by decide) hS.2);obtain⟨M1,hM1⟩:∃x,x=M7 M r P:=⟨_,rfl⟩
    obtain⟨g1,hg1⟩:∃x,x=sw g r P:=⟨_,rfl⟩
    obtain⟨cp1,hcp1⟩:∃x,x=sw cp r P:=⟨_,rfl⟩
    have hS1:=hS.1;rw[<-hM1,<-hg1,<-hcp1]at hS1;have hstep:=Hstep.out;have hz1:=Hz1.out;rw[<-hM1]at hstep hz1;have Hm2:=B9I hS1;clear hB hG Hm Ho hS hS1 hu0 hM1 hg1 hcp1 Hstep Hz1 Hpv hp fP hpni;have hG:=hG2;have hB:=hB2;have Hm:=Hm2;have Ho:=Ho2;have Hstep:=B9I hstep;have Hz1:=B9I hz1;have zd:=A2D (B4 1) (M1 r k);have z1:=hz1 r hrn k hlt;have zo:qs (B4 1)<=1:=by decide
    have hdv:=λW hT=>A4s (B4 1) (M1 r k) W (by omega) hT;obtain⟨kk,hkk⟩:∃x,x=H9 (B4 1) (M1 r k):=⟨_,rfl⟩
    simp only[<-hkk]at hdv;have zk:qs kk<=Z+1:=by rw[hkk];unfold H9;omega
    have hstep2:=Hstep.out;rw[<-hkk]at hstep2;have Hdv:=B9I hdv;have Hstep2:=B9I hstep2;clear hG2 hB2 Hm2 Ho2 hstep hz1 zd zo z1 hdv hkk hstep2 Hstep;obtain⟨u,rfl⟩:=exQ u0;refine B9D (rdC X4 [11] [(0,1),(0,2),(0,3),(0,4),(0,5),(0,6),(0,7),(1,0),(1,8),(0,9),(0,10),(0,11),(2,12)] hB hG λK L hN hL=>?_)
    repeat first|refine gya ?_|refine gyr ?_|refine gna ?_|refine gyb (by(rintro v ⟨hgu,hB,hG,-⟩ N hN;have r:=hB.r;simp only[BxR]at r;have q0:=(Hm.out.grow hgu).read hrn;obtain⟨y1,y2,y3,y4,y5⟩:=(Hm.out.grow hgu).cq hrn hlt;(try have q1:=(Hm.out.grow hgu).read hp);go_simp;exact hN)) ?_
    refine gmw (C:=λv=>I5 1 (by omega) (by omega) _) ?_;refine gmd (C:=λv ⟨hgu,hB,hG,_⟩=>Hdv.out _ (HT.grow hG)) ?_;refine gs ?_;refine gaa (G6 _ _ _ _ _) λb9 hb9 hn9=>?_;replace hF:=hF.n1 [] hB hG hb9 hn9;refine geC hL ?_;clear hB hG hL L;rintro u ⟨⟨hgu,hB,hG,-⟩,h9⟩;replace hB:=hB.cons' h9;clear h9;obtain⟨hfr1,hfr2⟩:=Hm.out.fresh hb9;have h9o:=A04 Ho.out hb9;have Hm2:=B9I (Hm.out.grow hgu);have Ho2:=B9I (C0 Ho.out hgu);clear Hm Ho;have Hm:=Hm2;have Ho:=Ho2;clear Hm2 Ho2;clear hb9 hn9;clear hgu;refine gtT ?_;clear hN K;refine sv hB hF hG 0 0 [_,_,_,_,_] ?_;intro u hu hBG;have Hm2:=B9I (Hm.out.over ⟨hfr1,hfr2⟩ hu);have Ho2:=B9I (H5 Ho.out h9o hu);clear hB hG Hm Ho hu h9o;have Hm:=Hm2;have Ho:=Ho2;clear Hm2 Ho2;obtain⟨hB,hG⟩:=hBG;have h9g:∀i,i<n->b9≠g1 i:=hfr2;have h9w:=hF.1 b9 (by simp);have h29:b2≠b9:=λe=>by
     have:=hF.2;simp[e]at this
    clear hfr1 hfr2;refine B9D ?_;refine B9D ?_
    (first|(have q0:=Hm.out.read hrn)|skip)
    refine r0N ?_;refine B9l ?_;clear hF;go_loopw [66] (λs0 wr=>∃j:Nat,j<=Lw/\s0 = .int .i64 j/\MatW B3 n Lw b0 n g1 cp1 (N3 M1 r kk j) wr/\wr.ownsRow w.heap.size 3 1 (.slice ld.1 r ld.2) r (A0M (M9 le))/\Bx wr [(b9,48,L9 kk),(b2,216,#[.slice none 0 0,.slice none 0 0])]/\A4 w wr) (λs0 _=>Lw-(intOf s0).toNat)
    case atStart=>exact⟨0,B9a _,rfl,by rw[B6G];exact Hm.out,Ho.out,hB,hG⟩
    case round =>
     clear hB hG Hm Ho;obtain⟨j,hj,rfl,hm,ho,hB,hG⟩:=hrel;obtain⟨u,rfl⟩:=exQ wr
     have hF:Fr w [b9,b2]:=⟨λb hb=>by
      simp only[List.mem_cons,List.not_mem_nil,or_false]at hb;rcases hb with rfl|rfl
      ·exact h9w
      ·exact h2w,by simp;exact λe=>h29 e.symm⟩
     have Ho:=B9I ho;clear ho;rcases B8t j Lw with hltj|hgej
     ·have hdec2:decide ((j:Int)<(Lw:Int))=true:=by simp;omega
      have hjn:(j:Int)<(Lw:Int):=by omega
      obtain⟨M',hM'⟩:∃M',M'=N3 M1 r kk j:=⟨_,rfl⟩
      have et:M' r j=M1 r j:=by rw[hM'];exact B2n (B8s _)
      rw[<-hM']at hm;have hrt:=λW (hg:A4 u W)=>(hm.grow hg).cq hrn hltj;rw[et]at hrt;have hst:=B6Y (M:=M1) (t:=r) (j:=j) (k:=kk);rw[<-hM']at hst;have z1:=Hz1.out r hrn j hltj;obtain⟨X,hX⟩:∃X,X=M1 r j:=⟨_,rfl⟩
      rw[<-hX]at hst z1;simp only[<-hX]at hrt;have hml:=λW hT=>A0q X kk W (by omega) hT;obtain⟨E,hE⟩:∃D',D'=D5 X kk:=⟨_,rfl⟩
      rw[<-hE]at hst;simp only[<-hE]at hml;have Hrt:=B9I hrt;have Hst:=B9I hst;have Hml:=B9I hml;have Hm:=B9I hm;clear hrt hst hml hm hX hE et hM' z1;refine r0T ?_;refine B9D ?_;refine B9L (rfl) ?_;refine B9K ?_;refine A6 ?_;refine B9D ?_;refine B9l ?_;refine B9D (rsC X4 [0,0,0,2,0] hB hG λK L hN hL=>?_)
      repeat first|refine gya ?_|refine gyr ?_|refine gna ?_|refine gyb (by(rintro v ⟨hgu,hB,hG,-⟩ N hN;have r:=hB.r;simp only[BxR]at r;have q0:=(Hm.out.grow hgu).read hrn;(first|obtain⟨y1,y2,y3,y4,y5⟩:=Hrt.out v hgu|skip);go_simp;exact hN)) ?_
      refine gaa (G6 _ _ _ _ _) λb12 hb12 hn12=>?_;refine gs ?_;replace hF:=hF.n1 [] hB hG hb12 hn12;refine geC hL ?_;clear hB hG hL L;rintro u ⟨⟨hgu,hB,hG,-⟩,h12⟩;replace hB:=hB.cons' h12;clear h12;clear Hrt;obtain⟨hfr1,hfr2⟩:=Hm.out.fresh hb12;have h12o:=A04 Ho.out hb12;have Hm2:=B9I (Hm.out.grow hgu);have Ho2:=B9I (C0 Ho.out hgu);clear Hm Ho;have Hm:=Hm2;have Ho:=Ho2;clear Hm2 Ho2;clear hb12 hn12;clear hgu;refine gtT ?_;clear hN K;refine sv hB hF hG 0 0 [_,_,_,_,_] ?_;intro u hu hBG;have Hm2:=B9I (Hm.out.over ⟨hfr1,hfr2⟩ hu);have Ho2:=B9I (H5 Ho.out h12o hu);clear hB hG Hm Ho hu h12o;have Hm:=Hm2;have Ho:=Ho2;clear Hm2 Ho2;obtain⟨hB,hG⟩:=hBG;refine rdC X4 [] [(0,0),(0,1),(0,2),(0,3),(0,4),(0,5),(0,6),(1,7),(0,8)] hB hG λK L hN hL=>?_
      repeat first|refine gya ?_|refine gyr ?_|refine gna ?_|refine gyb (by(rintro v ⟨hgu,hB,hG,-⟩ N hN;have r:=hB.r;simp only[BxR]at r;have q0:=(Hm.out.grow hgu).read hrn;(first|obtain⟨y1,y2,y3,y4,y5⟩:=Hrt.out v hgu|skip);go_simp;exact hN)) ?_
      refine gmd (C:=λv ⟨hgu,hB,hG,_⟩=>Hml.out _ (HT.grow hG)) ?_;refine gs ?_;refine geC hL ?_;clear hB hG hL L;rintro u ⟨hgu,hB,hG,-⟩;have Hm2:=B9I (Hm.out.grow hgu);have Ho2:=B9I (C0 Ho.out hgu);clear Hm Ho;have Hm:=Hm2;have Ho:=Ho2;clear Hm2 Ho2;obtain⟨o0,o1,o2,o3,o4⟩:=Hm.out.cq hrn hltj;have hfz:=(Hm.out.row r hrn).frozenAt;clear hgu;refine gt ?_;clear hN K;clear o0 o1 o2 o3 o4 hfz;generalize hu0:World.setCell (World.setCell (World.setCell (World.setCell (World.setCell u _ _) _ _) _ _) _ _) _ _=u0;have hu1:C2 u (g1 r) (j*5) (qL E)=u0:=hu0;have hP:=Hm.out.put hrn hltj E rfl hu1;rw[Hst.out]at hP
      have hG2:A4 w u0:=hG.grown hP.2 (λk hk=>by
       have e:=B8y hk;have:=(Hm.out.glt hrn).1
       omega)
      have hB2:=hB.tail.grown_ hP.2 (λe he hxe=>by
       have e2:=B8y hxe;have e3:=(Hm.out.glt hrn).1;simp only[List.mem_cons,List.not_mem_nil,or_false]at he;rcases he with rfl|rfl
       ·exact h9g r hrn e2
       ·simp only at e2
        omega)
      have Ho2:=B9I (A2B Ho.out (Hm.out.row r hrn) (by decide) hP.2);have Hm2:=B9I hP.1;clear hG hB Hm Ho hP hu1 hu0;have hG:=hG2;have hB:=hB2;have Hm:=Hm2;have Ho:=Ho2;clear hG2 hB2 Hm2 Ho2;obtain⟨u,rfl⟩:=exQ u0;refine C5 ?_;refine A6 ?_;refine r0E ?_;refine A6 ?_;go_roundw
      case rel=>exact⟨j+1,by omega,by go_num,Hm.out,Ho.out,hB,hG⟩
      case measure=>simp[intOf];omega
     ·obtain rfl:Lw=j:=by omega
      have hdec2:decide ((Lw:Int)<(Lw:Int))=false:=by simp
      have hz2:szM (N3 M1 r kk Lw) n Lw (2*Z+1):=(A81 Hz1.out zk).mono (by omega);obtain⟨M2,hM2⟩:∃x,x=N3 M1 r kk Lw:=⟨_,rfl⟩
      have hstep:=Hstep2.out;rw[<-hM2]at hm hz2 hstep;have Hm:=B9I hm;have Hz2:=B9I hz2;have Hstep:=B9I hstep;clear hm hz2 hM2 hstep Hstep2 Hz1 zk;refine r0T ?_;refine B9D ?_;refine B9J (rfl) ?_;refine B9n ?_;refine B9 ?_;refine B9 ?_;refine E4 ?_;refine A6 ?_;refine B9D ?_;refine r0T ?_;refine B9l ?_;clear hF;go_loopw [83] (λs0 wr=>∃i:Nat,i<=n/\s0 = .int .i64 i/\MatW B3 n Lw b0 n g1 cp1 (K5 M2 r k Lw i) wr/\wr.ownsRow w.heap.size 3 1 (.slice ld.1 r ld.2) r (A0M (M9 le))/\Bx wr [(b9,48,L9 kk),(b2,216,#[.slice none 0 0,.slice none 0 0])]/\A4 w wr) (λs0 _=>n-(intOf s0).toNat)
      case atStart=>exact⟨0,B9a _,rfl,Hm.out,Ho.out,hB,hG⟩
      case round =>
       clear hB hG Hm Ho;obtain⟨i,hi,rfl,hm,ho,hB,hG⟩:=hrel;obtain⟨u,rfl⟩:=exQ wr
       have hF:Fr w [b9,b2]:=⟨λb hb=>by
        simp only[List.mem_cons,List.not_mem_nil,or_false]at hb;rcases hb with rfl|rfl
        ·exact h9w
        ·exact h2w,by simp;exact λe=>h29 e.symm⟩
       have Ho:=B9I ho;clear ho;rcases B8t i n with hlti|hgei
       ·have hdec3:decide ((i:Int)<(n:Int))=true:=by simp;omega
        have hin:(i:Int)<(n:Int):=by omega
        by_cases hir:i=r
        ·have fir:((i:Int) != (r:Int))=false:=by simp[hir]
         have Hm:=B9I (show MatW B3 n Lw b0 n g1 cp1 (K5 M2 r k Lw (i+1)) u by rw[show K5 M2 r k Lw (i+1)=K5 M2 r k Lw i from if_pos hir];exact hm);clear hm hir;refine r0T ?_;refine B9D ?_;refine B9L (rfl) ?_;refine B9K ?_;refine A6 ?_;refine B9D ?_;refine B9l ?_;refine r0T ?_;refine r0T ?_;refine B9J (rfl) ?_;refine B9K ?_;refine C5 ?_;refine A6 ?_;refine r0E ?_;refine A6 ?_;go_roundw
         case rel=>exact⟨i+1,by omega,by go_num,Hm.out,Ho.out,hB,hG⟩
         case measure=>simp[intOf];omega
        ·have fir:((i:Int) != (r:Int))=true:=by simp;omega
         have ei:K5 M2 r k Lw i i=M2 i:=A4w i i (B8s _);have er:K5 M2 r k Lw i r=M2 r:=A2W i;have hnx:=B8j (M:=M2) (c:=k) (L:=Lw) hir;obtain⟨M',hM'⟩:∃M',M'=K5 M2 r k Lw i:=⟨_,rfl⟩
         rw[<-hM']at hm ei er hnx;have hz2:=Hz2.out;have hrd:=λW (hgw:A4 w W) (hmw:MatW B3 n Lw b0 n g1 cp1 M' W)=>B37 (by omega) i r hlti hrn (λe=>hir e.symm) (M' i k) (2*Z+1) (by rw[ei];exact hz2 i hlti k hlt) (λj hj=>by rw[ei];exact hz2 i hlti j hj) (λj hj=>by rw[er];exact hz2 r hrn j hj) (by omega) w W hgw hwB hmw HT;have Hnx:=B9I hnx;have Hrd:=B9I hrd;have Hm:=B9I hm;clear hnx hrd hm hM' ei er hz2 hir;refine r0T ?_;refine B9D ?_;refine B9L (rfl) ?_;refine B9K ?_;refine A6 ?_;refine B9D ?_;refine B9l ?_;refine r0T ?_;refine r0T ?_;refine B9L (rfl) ?_;refine A2I (w:=w) X4 15 [] [(0,0),(0,1),(0,2),(0,3),(0,4),(0,5),(0,6),(0,7),(0,8),(0,9),(0,10),(0,11),(0,12),(0,13),(0,14)] (by kernel_rfl) (by kernel_rfl) (by simp only[List.drop_succ_cons,List.drop_zero];exact rfl) (λ_=>True) noG hB hG trivial ?_;intro K L hN hL;simp only[H3,List.getElem?_toArray,List.getElem?_cons_zero,List.getElem?_cons_succ]
         repeat first|refine gya ?_|refine gyr ?_|refine gna ?_|refine gyb (by(rintro v ⟨hgu,hB,hG,-⟩ N hN;have r:=hB.r;simp only[BxR]at r;have q0:=(Hm.out.grow hgu).read hrn;have q1:=(Hm.out.grow hgu).read hlti;obtain⟨y1,y2,y3,y4,y5⟩:=(Hm.out.grow hgu).cq hlti hlt;go_simp;exact hN)) ?_
         refine I8 ?_;rintro v ⟨hgu,hB1,hG1,-⟩;have Hm2:=B9I (Hm.out.grow hgu);have Ho2:=B9I (C0 Ho.out hgu);clear Hm Ho;have Hm:=Hm2;have Ho:=Ho2;clear Hm2 Ho2;clear hB hG;have hB:=hB1;have hG:=hG1;clear hB1 hG1;refine hL _ _ ?_;clear hL L hgu;obtain⟨u,rfl⟩:=exQ v;go_wp2_with (go_at_call 195;refine(Hrd.out u hG Hm.out).mono ?_;rintro e w5 ⟨rfl,p0,p1⟩);refine NoK.norm (hN _ _ ?_);clear hN K
         have hG2:A4 w w5:=hG.grown p1 (λk hk=>by
          have e:=B8y hk;have:=(Hm.out.glt hlti).1
          omega)
         have hB2:=hB.grown_ p1 (λe he hxe=>by
          have e2:=B8y hxe;have e3:=(Hm.out.glt hlti).1;simp only[List.mem_cons,List.not_mem_nil,or_false]at he;rcases he with rfl|rfl
          ·exact h9g i hlti e2
          ·simp only at e2
           omega)
         have Ho2:=B9I (A2B Ho.out (Hm.out.row i hlti) (by decide) p1);have Hm2:=B9I (show MatW B3 n Lw b0 n g1 cp1 (K5 M2 r k Lw (i+1)) w5 by rw[Hnx.out];exact p0);clear hG hB Hm Ho p0 p1 Hnx Hrd;have hG:=hG2;have hB:=hB2;have Hm:=Hm2;have Ho:=Ho2;clear hG2 hB2 Hm2 Ho2;obtain⟨u,rfl⟩:=exQ w5;refine C5 ?_;refine A6 ?_;refine r0E ?_;refine A6 ?_;go_roundw
         case rel=>exact⟨i+1,by omega,by go_num,Hm.out,Ho.out,hB,hG⟩
         case measure=>simp[intOf];omega
       ·obtain rfl:n=i:=by omega
        have hdec3:decide ((n:Int)<(n:Int))=false:=by simp
        have Hm:=B9I hm;clear hm;refine r0T ?_;refine B9D ?_;refine B9J (rfl) ?_;refine B9n ?_;refine B9 ?_;refine B9 ?_;refine E4 ?_;refine A6 ?_;refine Z4 (w:=w) X4 2 [0,0] (by kernel_rfl) (by simp only[List.drop_succ_cons,List.drop_zero];exact rfl) (λ_=>True) noG hB hG trivial ?_;intro K L hN hL;simp only[List.zip_cons_cons,List.zip_nil_left];refine gs ?_;refine I8 ?_;rintro v ⟨hgu,hB1,hG1,-⟩;have ROWn:=B9I (C0 Ho.out hgu);clear Ho;have Ho:=ROWn;clear ROWn;have Hm2:=B9I (Hm.out.grow hgu);clear Hm;have Hm:=Hm2;clear Hm2;clear hB hG;have hB:=hB1;have hG:=hG1;clear hB1 hG1;refine hL _ _ ?_;clear hL L hgu;obtain⟨u,rfl⟩:=exQ v;refine A0E A7r w.heap.size _ _ _ _ [.int .i64 (k:Nat)] rfl rfl (B0I (k:Nat) u) rfl (λ_=>rfl) (λ_=>rfl) (λ_ _=>rfl) Ho.out (by omega) (by omega) hG.sz λp v' w' g1 g2 g3=>?_;have hBn:=A6n Ho.out hB (by simp) g2;have Hm2:=B9I (Hm.out.own Ho.out (by decide) g2);clear Hm;have hGn:=A0N Ho.out hG g2;clear Ho hB hG;have Ho:=B9I g1;have hB:=hBn;have hG:=hGn;clear g1 g2 g3 hBn hGn;obtain⟨u,rfl⟩:=exQ w';simp only[Act.put,List.setIfInBounds_toArray,List.set_cons_succ,List.set_cons_zero];refine NoK.norm (hN _ _ ?_);clear hN K;have Hm:=Hm2;clear Hm2;obtain⟨A5,c5,rfl,-,-⟩:=A5A (n:=r+1) (l:=M9 (le++[k])) (by have:=Ho.out;rw[A5G];exact this) (by rw[A3e,List.length_append,<-Hr.out];rfl);refine C5 ?_;refine A6 ?_;refine r0E ?_;refine A6 ?_;go_roundw
        case rel=>exact⟨k+1,g1,cp1,(A5,c5),r+1,by omega,by go_num,rfl,by rw[Hstep.out,List.length_append,<-Hr.out];rfl,by rw[Hstep.out];exact Hm.out,by rw[Hstep.out,A5G];exact Ho.out,hB.tail,hG⟩
        case measure=>simp[intOf];omega
   ·simp only[if_neg hp]at hpv;rw[B62 (by rw[<-hr,<-hP];exact hp)]at hstep;have Hstep:=B9I hstep;have Hpv:=B9I hpv;clear hpv hgz hP hgl2 hstep hr;refine r0T ?_;refine B9D ?_;refine B9L (rfl) ?_;refine B9K ?_;refine A6 ?_;refine B9D ?_;refine B9l ?_;refine r0T ?_;refine r0T ?_;refine B9D (rsE X4 [0,0,0,1,0] hB hG λL hL=>?_);refine gs ?_;refine gmd (C:=λv ⟨hgu,hB,hG,_⟩=>Hpv.out _ (Hm.out.grow hgu)) ?_;refine gs ?_;refine geT hL ?_;clear hB hG hL L;rintro u ⟨hgu,hB,hG,-⟩;have Hm2:=B9I (Hm.out.grow hgu);have Ho2:=B9I (C0 Ho.out hgu);clear Hm Ho;have Hm:=Hm2;have Ho:=Ho2;clear Hm2 Ho2;clear hgu;refine B9D ?_;refine r0T ?_;refine B9L (rfl) ?_;refine B9n ?_;refine B9 ?_;refine E4 ?_;refine A6 ?_;refine r0E ?_;refine A6 ?_;go_roundw
    case rel=>exact⟨k+1,g,cp,ld,r,by omega,by go_num,rfl,by rw[Hstep.out];exact Hr.out,by rw[Hstep.out];exact Hm.out,by rw[Hstep.out];exact Ho.out,hB,hG⟩
    case measure=>simp[intOf];omega
  ·obtain rfl:Lw=k:=by omega
   have hdec:decide ((Lw:Int)<(Lw:Int))=false:=by simp
   clear hgz hgl2 hstep hr;refine r0T ?_;refine B9D ?_;refine B9J (rfl) ?_;refine B9n ?_;refine B9 ?_;refine B9 ?_;refine E4 ?_;refine A6 ?_;refine B9D ?_
   (first|have q0:=Hr0.out u hG|skip)
   refine r0N ?_;refine sv hB hF hG 0 0 [_,_] ?_;intro u hu hBG;have hne2:=E8 Ho.out hB.head (by decide);have Hm2:=B9I (Hm.out.over ⟨by have:=Hm.out.b0lt;omega,λi hi=>by have:=Hm.out.glt hi;omega⟩ hu);have ho2:=H5 Ho.out hne2 hu;have HLd:=B9I ho2;clear hB hG Hm Ho hu hne2 ho2;have Hm:=Hm2;clear Hm2;obtain⟨hB,hG⟩:=hBG;refine rt Tryz.results159 ?_;exact⟨((b0,g,cp),ld),by rw[Hr.out,<-HG0.out],⟨by rw[<-HG0.out];exact Hm.out.mono hwB,by rw[<-HG0.out];have h:=HLd.out;rw[Hr.out]at h;exact h⟩,hG⟩
end Go.Proofs.YtgpglgbcobeogaaGreatDoor
