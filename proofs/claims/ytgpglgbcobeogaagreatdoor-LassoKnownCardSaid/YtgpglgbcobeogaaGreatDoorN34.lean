import Derived.Test.YtgpglgbcobeogaaGreatDoorN32
set_option linter.unusedSimpArgs false
set_option linter.unusedVariables false
set_option maxHeartbeats 8000000
set_option maxRecDepth 100000
namespace Go.Proofs.YtgpglgbcobeogaaGreatDoor
open Go Go.RowKit
abbrev Kn:=Rat×List Rat
def knQ(l:List Kn)(i:Nat):Rat:=((l[i]?).getD (0,[])).1
def knW(l:List Kn)(i:Nat):List Rat:=((l[i]?).getD (0,[])).2
structure ShapeK(l:List Kn):Prop where
 one:1<=l.length
 most:l.length<=1000
 some:1<=(knW l 0).length
 cols:(knW l 0).length<=20
 all:∀i,i<l.length->(knW l i).length=(knW l 0).length
structure OrderK(l:List Kn):Prop where
 zero:∀j,j<(knW l 0).length->gq (knW l 0) j=0
 falls:∀i,1<=i->i<l.length->knQ l i<knQ l (i-1)
 last:knQ l (l.length-1)=0
def A06(l:List Kn)(e:Int):Prop:=(¬ShapeK l/\e=5)\/(ShapeK l/\¬OrderK l/\e=1)\/(ShapeK l/\OrderK l/\e=0)
theorem A06.five{l:List Kn}{e:Int}(h:A06 l e)(h1:¬ShapeK l):e=5:=by
 rcases h with⟨-,h⟩|⟨h2,-⟩|⟨h2,-⟩
 ·exact h
 ·exact absurd h2 h1
 ·exact absurd h2 h1
theorem A06.one{l:List Kn}{e:Int}(h:A06 l e)(h0:ShapeK l)(h1:¬OrderK l):e=1:=by
 rcases h with⟨h2,-⟩|⟨-,-,h⟩|⟨-,h2,-⟩
 ·exact absurd h0 h2
 ·exact h
 ·exact absurd h2 h1
theorem A06.fine{l:List Kn}{e:Int}(h:A06 l e)(h0:ShapeK l)(h1:OrderK l):e=0:=by
 rcases h with⟨h2,-⟩|⟨-,h2,-⟩|⟨-,-,h⟩
 ·exact absurd h0 h2
 ·exact absurd h1 h2
 ·exact h
theorem A06.zero{l:List Kn}{e:Int}(h:A06 l e)(he:e=0):ShapeK l/\OrderK l:=by
 rcases h with⟨-,h⟩|⟨-,-,h⟩|⟨h1,h2,-⟩
 ·omega
 ·omega
 ·exact⟨h1,h2⟩
abbrev Kq:=Rat×Ax×List Rat
def kqL(x:Kq):List Value:=qL x.1++[.slice x.2.1.1 x.2.2.length x.2.1.2]
theorem A6D(x:Kq):(kqL x).length=6:=rfl
abbrev C3(x:Kq):Kn:=(x.1,x.2.2)
def Lk(u:World)(A:Option Addr)(l:List Kq):Prop:=Le kqL 6 u A l/\∀x∈l,Lq u x.2.1.1 x.2.2
theorem Lk.grow{u u':World}{A:Option Addr}{l:List Kq}(h:Lk u A l)(hg:A4 u u'):Lk u' A l:=⟨h.1.grow hg,λx hx=>(h.2 x hx).grow hg⟩
theorem Lk.at{u:World}{A:Option Addr}{l:List Kq}(h:Lk u A l){i:Nat}(hi:i<l.length):∃(b o:Nat) (P:Ax),A=some ⟨b,o,none⟩/\∀W,A4 u W->(Cq W b (o+i*6) (knQ (l.map C3) i)/\W.cell? ⟨b,o+i*6+5,none⟩=some (.slice P.1 (knW (l.map C3) i).length P.2))/\Lq W P.1 (knW (l.map C3) i):=by
 obtain⟨b,o,e,hc⟩:=h.1.at hi;have e1:knQ (l.map C3) i=l[i].1:=by unfold knQ;rw[List.getElem?_map,B9Y hi];rfl
 have e2:knW (l.map C3) i=l[i].2.2:=by unfold knW;rw[List.getElem?_map,B9Y hi];rfl
 rw[e1,e2];exact⟨b,o,l[i].2.1,e,λW hg=>⟨⟨⟨hc W hg 0 _ rfl,hc W hg 1 _ rfl,hc W hg 2 _ rfl,hc W hg 3 _ rfl,hc W hg 4 _ rfl⟩,hc W hg 5 _ rfl⟩,(h.2 _ (B86 hi)).grow hg⟩⟩
theorem A18(d:Option Tmp)(ty:TypeId)(pos:String)(af:Array Edge)(gd:Option (Nat×Bool)):N5 Tryz.prog ⟨d,.alloc 84,ty,pos,af,gd⟩ = .cells #[.bool false,.int .u64 0,.string ⟨#[]⟩,.int .u64 0,.string ⟨#[]⟩,.slice none 0 0] 84:=by kernel_rfl
theorem I1:∀t∈[44,46,48,84],N8 Tryz.prog t:=by
 intro t ht;simp only[List.mem_cons,List.not_mem_nil,or_false]at ht;rcases ht with rfl|rfl|rfl|rfl
 ·exact λ_ _ _ _ _ _=>by rw[L8];kernel_rfl
 ·exact λ_ _ _ _ _ _=>by rw[A2m];kernel_rfl
 ·exact λ_ _ _ _ _ _=>by rw[G6];kernel_rfl
 ·exact λ_ _ _ _ _ _=>by rw[A18];kernel_rfl
theorem B3s(A:Option Addr)(ks:List Kq)(n c:Nat)(e:Int)(hn:ks.length=n)(hn1:1<=n)(hn2:n<=1000)(hw20:(knW (ks.map C3) 0).length<=20)(he:A06 (ks.map C3) e)(s:Nat)(hs:∀i,i<n->qs (knQ (ks.map C3) i)<=s)(hsw:∀j,qs (gq (knW (ks.map C3) 0) j)<=s)(hB:2*s+1<=BIG)(w:World)(h:Lk w A ks) :
  Calls Tryz.prog 45 #[.slice A n c] w λe' w'=>e' = .returned (.int .i64 e)/\A4 w w':=by
 have hBm:=J7;have hkl:(ks.map C3).length=n:=by rw[List.length_map];exact hn
 have hat:∀i,i<n->∃(b o:Nat) (P:Ax),A=some ⟨b,o,none⟩/\∀W,A4 w W->(Cq W b (o+i*6) (knQ (ks.map C3) i)/\W.cell? ⟨b,o+i*6+5,none⟩=some (.slice P.1 (knW (ks.map C3) i).length P.2))/\Lq W P.1 (knW (ks.map C3) i):=λi hi=>h.at (by omega);generalize ks.map C3=l at *;obtain⟨bb,ob,P0,hA,h0⟩:=hat 0 (by omega);subst hA;have hat2:∀i,i<n->∃P:Ax,∀W,A4 w W->(Cq W bb (ob+i*6) (knQ l i)/\W.cell? ⟨bb,ob+i*6+5,none⟩=some (.slice P.1 (knW l i).length P.2))/\Lq W P.1 (knW l i):=λi hi=>by
  obtain⟨b',o',P,e',h'⟩:=hat i hi;cases e';exact⟨P,h'⟩
 obtain⟨m,hm⟩:∃m,m=(knW l 0).length:=⟨_,rfl⟩
 have f1:decide ((n:Int)<1)=false:=by simp;omega
 have f1n:decide (n=0)=false:=by simp;omega
 have f2:decide ((1000:Int)<(n:Int))=false:=by simp;omega
 have f2n:decide (1000<n)=false:=by simp;omega
 have hni:(0:Int)<(n:Int):=by omega
 have hnp:0<n:=by omega
 have hr0:∀W,A4 w W->W.cell? ⟨bb,ob+5,none⟩=some (.slice P0.1 m P0.2):=λW hg=>by
  have h1:=(h0 W hg).1.2;rw[B9i,Nat.add_zero,<-hm]at h1;exact h1
 have hw0:∀W,A4 w W->Lq W P0.1 (knW l 0):=λW hg=>(h0 W hg).2;have Hat:=B9I hat2;have Hr0:=B9I hr0;have Hw0:=B9I hw0;have Hm:=B9I hm;have Hkl:=B9I hkl;have He:=B9I he;have Hs:=B9I hs;have Hsw:=B9I hsw;rw[<-hm]at hw20;clear hat hat2 h0 hr0 hw0 hm hkl he hs hsw h hn;go_enter Tryz.func45,Tryz.ntmps45;refine en0 ?_;intro u hG hB hF;refine B9D ?_;refine r0T ?_;refine B9J (rfl) ?_;refine B9K ?_;refine A6 ?_;refine B9D ?_
 (first|have q0:=Hr0.out u hG|skip)
 refine r0N ?_;refine B9D ?_;rcases B9C m with hm0|hm1
 ·have f5:decide ((m:Int)<1)=true:=by simp;omega
  have f5n:decide (m=0)=true:=by simp;omega
  have hE:e=5:=He.out.five λhS=>by have:=hS.some;have:=Hm.out;omega
  clear hm0;refine r0T ?_;refine B9L (rfl) ?_;refine r0T ?_;refine rt C09 ?_;exact⟨by rw[hE],hG⟩
 ·have f5:decide ((m:Int)<1)=false:=by simp;omega
  have f5n:decide (m=0)=false:=by simp;omega
  have f6:decide ((20:Int)<(m:Int))=false:=by simp;omega
  have f6n:decide (20<m)=false:=by simp;omega
  refine r0T ?_;refine B9J (rfl) ?_;refine B9K ?_;refine A6 ?_;refine B9D ?_;refine r0T ?_;refine B9l ?_;go_loopw [30] (λs0 wr=>∃(i:Nat),i<=n/\s0 = .int .i64 i/\(∀j,j<i->(knW l j).length=m)/\A4 w wr) (λs0 _=>n-(intOf s0).toNat)
  case atStart=>exact⟨0,B9a _,rfl,λj hj=>absurd hj (C03 _),hG⟩
  case round =>
   clear hB hG;obtain⟨i,hi,rfl,hall,hG⟩:=hrel;obtain⟨u,rfl⟩:=exQ wr;have hB:=Bx.nil u;have Hall:=B9I hall;clear hall;rcases B8t i n with hlt|hge
   ·have hdec:decide ((i:Int)<(n:Int))=true:=by simp;omega
    have hin:(i:Int)<(n:Int):=by omega
    obtain⟨P,hrd⟩:=Hat.out i hlt;obtain⟨X,hX⟩:∃X,X=knQ l i:=⟨_,rfl⟩
    obtain⟨m2,hm2⟩:∃m2,m2=(knW l i).length:=⟨_,rfl⟩
    have hrd2:∀W,A4 w W->Cq W bb (ob+i*6) X/\W.cell? ⟨bb,ob+i*6+5,none⟩=some (.slice P.1 m2 P.2):=λW hg=>by rw[hX,hm2];exact(hrd W hg).1
    have Hrd:=B9I hrd2;have Hm2:=B9I hm2;clear hrd hrd2 hX hm2;by_cases hmm:m2=m
    ·have f7:((m2:Int) != (m:Int))=false:=by simp;omega
     have hnx:=B9I (show ∀j,j<i+1->(knW l j).length=m from λj hj=>by
      by_cases e1:j=i
      ·rw[e1,<-Hm2.out];exact hmm
      ·exact Hall.out j (by omega))
     clear hmm;refine r0T ?_;refine B9D ?_;refine B9L (rfl) ?_;refine B9K ?_;refine A6 ?_;refine B9D ?_;refine B9l ?_;refine B9D (rsC I1 [0,0,2] hB hG λK L hN hL=>?_)
     repeat first|refine gya ?_|refine gyr ?_|refine gna ?_|refine gyb (by(rintro v ⟨hgu,hB,hG,-⟩ N hN;have r:=hB.r;simp only[BxR]at r;obtain⟨⟨y1,y2,y3,y4,y5⟩,y6⟩:=Hrd.out v hG;go_simp;exact hN)) ?_
     refine gaa (A18 _ _ _ _ _) λb5 hb5 hn5=>?_;replace hF:=hF.n1 [] hB hG hb5 hn5;refine geC hL ?_;clear hB hG hL L;rintro u ⟨⟨-,hB,hG,-⟩,h5⟩;replace hB:=hB.cons' h5;clear h5;clear hb5 hn5;refine gtT ?_;clear hN K;refine st hB hF hG 0 0 [_,_,_,_,_,_] ?_;clear hB hG;intro u hB hG;refine B9D ?_
     (first|obtain⟨⟨y1,y2,y3,y4,y5⟩,y6⟩:=Hrd.out u hG|skip)
     refine r0N ?_;refine B9J (rfl) ?_;refine B9K ?_;refine C5 ?_;refine A6 ?_;refine r0E ?_;refine A6 ?_;go_roundw
     case rel=>exact⟨i+1,by omega,by go_num,hnx.out,hG⟩
     case measure=>simp[intOf];omega
    ·have f7:((m2:Int) != (m:Int))=true:=by simp;omega
     have hE:e=5:=He.out.five λhS=>hmm (by rw[Hm2.out,Hm.out];exact hS.all i (by rw[Hkl.out];exact hlt));clear hmm;refine r0T ?_;refine B9D ?_;refine B9L (rfl) ?_;refine B9K ?_;refine A6 ?_;refine B9D ?_;refine B9l ?_;refine B9D (rsC I1 [0,0,2] hB hG λK L hN hL=>?_)
     repeat first|refine gya ?_|refine gyr ?_|refine gna ?_|refine gyb (by(rintro v ⟨hgu,hB,hG,-⟩ N hN;have r:=hB.r;simp only[BxR]at r;obtain⟨⟨y1,y2,y3,y4,y5⟩,y6⟩:=Hrd.out v hG;go_simp;exact hN)) ?_
     refine gaa (A18 _ _ _ _ _) λb5 hb5 hn5=>?_;replace hF:=hF.n1 [] hB hG hb5 hn5;refine geC hL ?_;clear hB hG hL L;rintro u ⟨⟨-,hB,hG,-⟩,h5⟩;replace hB:=hB.cons' h5;clear h5;clear hb5 hn5;refine gtT ?_;clear hN K;refine st hB hF hG 0 0 [_,_,_,_,_,_] ?_;clear hB hG;intro u hB hG;refine B9D ?_
     (first|obtain⟨⟨y1,y2,y3,y4,y5⟩,y6⟩:=Hrd.out u hG|skip)
     refine r0N ?_;refine B9L (rfl) ?_;refine r0T ?_;refine rt C09 ?_;exact⟨by rw[hE],hG⟩
   ·obtain rfl:n=i:=by omega
    have hdec:decide ((n:Int)<(n:Int))=false:=by simp
    have hsh:=B9I (show ShapeK l from⟨by rw[Hkl.out];exact hn1,by rw[Hkl.out];exact hn2,by rw[<-Hm.out];exact hm1,by rw[<-Hm.out];exact hw20,λi hi=>by rw[<-Hm.out];exact Hall.out i (by rw[<-Hkl.out];exact hi)⟩);clear Hall;refine r0T ?_;refine B9D ?_;refine B9J (rfl) ?_;refine B9n ?_;refine B9 ?_;refine B9 ?_;refine E4 ?_;refine A6 ?_;refine B9D ?_;refine B9D ?_
    (first|have q0:=Hr0.out u hG|skip)
    refine r0N ?_;refine B9l ?_;go_loopw [45] (λs0 wr=>∃(i:Nat),i<=m/\s0 = .int .i64 i/\(∀j,j<i->gq (knW l 0) j=0)/\A4 w wr) (λs0 _=>m-(intOf s0).toNat)
    case atStart=>exact⟨0,B9a _,rfl,λj hj=>absurd hj (C03 _),hG⟩
    case round =>
     clear hB hG;obtain⟨i,hi,rfl,hall,hG⟩:=hrel;obtain⟨u,rfl⟩:=exQ wr;have hB:=Bx.nil u;have Hall:=B9I hall;clear hall;rcases B8t i m with hlt|hge
     ·have hdec:decide ((i:Int)<(m:Int))=true:=by simp;omega
      have hin:(i:Int)<(m:Int):=by omega
      obtain⟨bq,oq,hPq⟩:∃b o,P0.1=some ⟨b,o,none⟩:=(Hw0.out w (A4.refl w)).addr (by rw[<-Hm.out];omega);obtain⟨X,hX⟩:∃X,X=gq (knW l 0) i:=⟨_,rfl⟩
      have hrd:∀W,A4 w W->Cq W bq (oq+i*5) X:=λW hg=>by
       have h1:=Hw0.out W hg;rw[hPq]at h1;rw[hX];exact h1.read (by rw[<-Hm.out];exact hlt)
      have hz:=Hsw.out i;rw[<-hX]at hz;have hsg:=λW=>M8 X (by have:=G3 X;omega) W;have hz0:X.num.sign=0↔X=0:=by rw[C0y,Rat.num_eq_zero]
      obtain⟨S,hS⟩:∃S,S=X.num.sign:=⟨_,rfl⟩
      rw[<-hS]at hz0;simp only[<-hS]at hsg;have Hrd:=B9I hrd;have Hsg:=B9I hsg;obtain⟨P01,P02⟩:=P0;simp only at hPq;subst hPq;have HX:=B9I hX;clear hrd hsg hS hX hz;by_cases hX0:X=0
      ·have f7:(S != 0)=false:=by rw[hz0.2 hX0];rfl
       have f7d:decide (S=0)=true:=by rw[hz0.2 hX0];rfl
       have hnx:=B9I (show ∀j,j<i+1->gq (knW l 0) j=0 from λj hj=>by
        by_cases e1:j=i
        ·rw[e1,<-HX.out];exact hX0
        ·exact Hall.out j (by omega))
       clear hX0 hz0;refine r0T ?_;refine B9D ?_;refine B9L (rfl) ?_;refine B9K ?_;refine A6 ?_;refine B9D ?_;refine B9l ?_;refine B9D (rsC I1 [0,0,2] hB hG λK L hN hL=>?_)
       repeat first|refine gya ?_|refine gyr ?_|refine gna ?_|refine gyb (by(rintro v ⟨hgu,hB,hG,-⟩ N hN;have r:=hB.r;simp only[BxR]at r;obtain⟨y1,y2,y3,y4,y5⟩:=Hrd.out v hG;go_simp;exact hN)) ?_
       refine gaa (G6 _ _ _ _ _) λb7 hb7 hn7=>?_;replace hF:=hF.n1 [] hB hG hb7 hn7;refine geC hL ?_;clear hB hG hL L;rintro u ⟨⟨-,hB,hG,-⟩,h7⟩;replace hB:=hB.cons' h7;clear h7;clear hb7 hn7;refine gtT ?_;clear hN K;refine st hB hF hG 0 0 [_,_,_,_,_] ?_;clear hB hG;intro u hB hG;refine B9D (rsE I1 [0,1,0] hB hG λL hL=>?_)
       repeat first|refine gya ?_|refine gyr ?_|refine gna ?_|refine gyb (by(rintro v ⟨hgu,hB,hG,-⟩ N hN;have r:=hB.r;simp only[BxR]at r;obtain⟨y1,y2,y3,y4,y5⟩:=Hrd.out v hG;go_simp;exact hN)) ?_
       refine gmw (C:=λv=>Hsg.out _) ?_;refine gs ?_;refine geT hL ?_;clear hB hG hL L;rintro u ⟨-,hB,hG,-⟩;refine B9J (rfl) ?_;refine B9K ?_;refine C5 ?_;refine A6 ?_;refine r0E ?_;refine A6 ?_;go_roundw
       case rel=>exact⟨i+1,by omega,by go_num,hnx.out,hG⟩
       case measure=>simp[intOf];omega
      ·have hS0:S≠0:=λe1=>hX0 (hz0.1 e1);have f7:(S != 0)=true:=by simp[hS0]
       have f7d:decide (S=0)=false:=by simp[hS0]
       have hE:e=1:=He.out.one hsh.out λhO=>hX0 (by rw[HX.out];exact hO.zero i (by rw[<-Hm.out];exact hlt));clear hX0 hz0 hS0;refine r0T ?_;refine B9D ?_;refine B9L (rfl) ?_;refine B9K ?_;refine A6 ?_;refine B9D ?_;refine B9l ?_;refine B9D (rsC I1 [0,0,2] hB hG λK L hN hL=>?_)
       repeat first|refine gya ?_|refine gyr ?_|refine gna ?_|refine gyb (by(rintro v ⟨hgu,hB,hG,-⟩ N hN;have r:=hB.r;simp only[BxR]at r;obtain⟨y1,y2,y3,y4,y5⟩:=Hrd.out v hG;go_simp;exact hN)) ?_
       refine gaa (G6 _ _ _ _ _) λb7 hb7 hn7=>?_;replace hF:=hF.n1 [] hB hG hb7 hn7;refine geC hL ?_;clear hB hG hL L;rintro u ⟨⟨-,hB,hG,-⟩,h7⟩;replace hB:=hB.cons' h7;clear h7;clear hb7 hn7;refine gtT ?_;clear hN K;refine st hB hF hG 0 0 [_,_,_,_,_] ?_;clear hB hG;intro u hB hG;refine B9D (rsE I1 [0,1,0] hB hG λL hL=>?_)
       repeat first|refine gya ?_|refine gyr ?_|refine gna ?_|refine gyb (by(rintro v ⟨hgu,hB,hG,-⟩ N hN;have r:=hB.r;simp only[BxR]at r;obtain⟨y1,y2,y3,y4,y5⟩:=Hrd.out v hG;go_simp;exact hN)) ?_
       refine gmw (C:=λv=>Hsg.out _) ?_;refine gs ?_;refine geT hL ?_;clear hB hG hL L;rintro u ⟨-,hB,hG,-⟩;refine B9L (rfl) ?_;refine r0T ?_;refine rt C09 ?_;exact⟨by rw[hE],hG⟩
     ·obtain rfl:m=i:=by omega
      have hdec:decide ((m:Int)<(m:Int))=false:=by simp
      refine r0T ?_;refine B9D ?_;refine B9J (rfl) ?_;refine B9n ?_;refine B9 ?_;refine B9 ?_;refine E4 ?_;refine A6 ?_;refine B9D ?_;refine r0T ?_;refine B9l ?_;have Hzr:=B9I (show ∀j,j<m->gq (knW l 0) j=0 from Hall.out);clear Hall;go_loopw [8] (λs0 wr=>∃(i:Nat),i+1<=n/\s0 = .int .i64 ((i+1:Nat):Int)/\(∀j,1<=j->j<i+1->knQ l j<knQ l (j-1))/\A4 w wr) (λs0 _=>n-(intOf s0).toNat)
      case atStart=>exact⟨0,by omega,rfl,λj h1 h2=>by omega,hG⟩
      case round =>
       clear hB hG;obtain⟨i,hi,rfl,hall,hG⟩:=hrel;obtain⟨u,rfl⟩:=exQ wr;have hB:=Bx.nil u;have Hall:=B9I hall;clear hall;obtain⟨i1,hi1⟩:∃k,k=i+1:=⟨_,rfl⟩
       rw[<-hi1]at hi⊢;rcases B8t i1 n with hlt|hge
       ·have hdec:decide ((i1:Int)<(n:Int))=true:=by simp;omega
        have hin:(i1:Int)<(n:Int):=by omega
        have hin0:(i:Int)<(n:Int):=by omega
        have fw:IntKind.i64.wrap ((i1:Int)-1)=(i:Int):=by rw[B9Z _ (by omega)];omega
        obtain⟨P,hrd⟩:=Hat.out i1 hlt;obtain⟨P',hrd'⟩:=Hat.out i (by omega);obtain⟨X,hX⟩:∃X,X=knQ l i1:=⟨_,rfl⟩
        obtain⟨Y,hY⟩:∃X,X=knQ l i:=⟨_,rfl⟩
        have hrd2:∀W,A4 w W->Cq W bb (ob+i1*6) X/\Cq W bb (ob+i*6) Y:=λW hg=>by rw[hX,hY];exact⟨(hrd W hg).1.1,(hrd' W hg).1.1⟩
        have z1:=Hs.out i1 hlt;have z2:=Hs.out i (by omega);rw[<-hX]at z1;rw[<-hY]at z2;have hcm:=λW=>W8 X Y W (by omega);have hc0:0<=E9 X Y↔¬X<Y:=by
         unfold E9;by_cases h1:X<Y
         ·rw[if_pos h1];simp[h1]
         ·rw[if_neg h1];split<;>simp[h1]
        obtain⟨S,hS⟩:∃S,S=E9 X Y:=⟨_,rfl⟩
        rw[<-hS]at hc0;simp only[<-hS]at hcm;have Hrd:=B9I hrd2;have Hcm:=B9I hcm;have HX:=B9I (And.intro hX hY);have Hi1:=B9I hi1;clear hrd hrd' hrd2 hcm hS hX hY z1 z2 hi1;by_cases hXY:X<Y
        ·have hS0:¬0<=S:=λe1=>hc0.1 e1 hXY;have f7:decide (0<=S)=false:=by simp;omega
         have hnx:=B9I (show ∀j,1<=j->j<i1+1->knQ l j<knQ l (j-1)from λj h1 h2=>by
          by_cases e1:j=i1
          ·have h3:=HX.out;have h4:=Hi1.out;rw[e1,show i1-1=i by omega,<-h3.1,<-h3.2];exact hXY
          ·exact Hall.out j h1 (by have:=Hi1.out;omega))
         clear hXY hc0 hS0;refine B9D ?_;refine r0T ?_;refine B9L (rfl) ?_;refine B9K ?_;refine A6 ?_;refine B9D ?_;refine B9l ?_;refine B9D (rdC I1 [] [(0,0),(0,1),(0,2),(0,3),(0,4),(0,5),(0,6),(0,7),(0,8),(0,9),(0,10),(1,11)] hB hG λK L hN hL=>?_)
         repeat first|refine gya ?_|refine gyr ?_|refine gna ?_|refine gyb (by(rintro v ⟨hgu,hB,hG,-⟩ N hN;have r:=hB.r;simp only[BxR]at r;obtain⟨⟨y1,y2,y3,y4,y5⟩,x1,x2,x3,x4,x5⟩:=Hrd.out v hG;go_simp;exact hN)) ?_
         refine gmw (C:=λv=>Hcm.out _) ?_;refine geC hL ?_;clear hB hG hL L;rintro u ⟨-,hB,hG,-⟩;refine gtT ?_;clear hN K;refine B9J (rfl) ?_;refine B9K ?_;refine C5 ?_;refine A6 ?_;refine r0E ?_;refine A6 ?_;go_roundw
         case rel=>exact⟨i1,by omega,by go_num,hnx.out,hG⟩
         case measure=>simp[intOf];omega
        ·have f7:decide (0<=S)=true:=by simp;exact hc0.2 hXY
         have hE:e=1:=He.out.one hsh.out λhO=>hXY (by
          have h3:=HX.out;have h4:=Hi1.out;have h5:=hO.falls i1 (by omega) (by rw[Hkl.out];exact hlt);rw[show i1-1=i by omega]at h5;rw[h3.1,h3.2]
          exact h5)
         clear hXY hc0;refine B9D ?_;refine r0T ?_;refine B9L (rfl) ?_;refine B9K ?_;refine A6 ?_;refine B9D ?_;refine B9l ?_;refine B9D (rdC I1 [] [(0,0),(0,1),(0,2),(0,3),(0,4),(0,5),(0,6),(0,7),(0,8),(0,9),(0,10),(1,11)] hB hG λK L hN hL=>?_)
         repeat first|refine gya ?_|refine gyr ?_|refine gna ?_|refine gyb (by(rintro v ⟨hgu,hB,hG,-⟩ N hN;have r:=hB.r;simp only[BxR]at r;obtain⟨⟨y1,y2,y3,y4,y5⟩,x1,x2,x3,x4,x5⟩:=Hrd.out v hG;go_simp;exact hN)) ?_
         refine gmw (C:=λv=>Hcm.out _) ?_;refine geC hL ?_;clear hB hG hL L;rintro u ⟨-,hB,hG,-⟩;refine gtT ?_;clear hN K;refine B9L (rfl) ?_;refine r0T ?_;refine rt C09 ?_;exact⟨by rw[hE],hG⟩
       ·obtain rfl:n=i1:=by omega
        have hdec:decide ((n:Int)<(n:Int))=false:=by simp
        have hin0:(i:Int)<(n:Int):=by omega
        have fw:IntKind.i64.wrap ((n:Int)-1)=(i:Int):=by rw[B9Z _ (by omega)];omega
        obtain⟨P,hrd⟩:=Hat.out i (by omega);obtain⟨X,hX⟩:∃X,X=knQ l i:=⟨_,rfl⟩
        have hrd2:∀W,A4 w W->Cq W bb (ob+i*6) X:=λW hg=>by rw[hX];exact(hrd W hg).1.1
        have z1:=Hs.out i (by omega);rw[<-hX]at z1;have hsg:=λW=>M8 X (by have:=G3 X;omega) W;have hz0:X.num.sign=0↔X=0:=by rw[C0y,Rat.num_eq_zero]
        obtain⟨S,hS⟩:∃S,S=X.num.sign:=⟨_,rfl⟩
        rw[<-hS]at hz0;simp only[<-hS]at hsg;have hn1e:(l.length-1)=i:=by rw[Hkl.out];omega
        have Hrd:=B9I hrd2;have Hsg:=B9I hsg;have hOr:X=0->OrderK l:=λh0=>⟨λj hj=>Hzr.out j (by rw[Hm.out];exact hj),λj h1 h2=>Hall.out j h1 (by rw[Hkl.out]at h2;omega),by rw[hn1e,<-hX];exact h0⟩
        have hNo:X≠0->¬OrderK l:=λh0 hO=>h0 (by have:=hO.last;rw[hn1e,<-hX]at this;exact this);clear hrd hrd2 hsg hS hX z1 Hall hn1e hi1;by_cases hX0:X=0
        ·have f7:(S != 0)=false:=by rw[hz0.2 hX0];rfl
         have f7d:decide (S=0)=true:=by rw[hz0.2 hX0];rfl
         have hE:e=0:=He.out.fine hsh.out (hOr hX0);clear hX0 hz0 hOr hNo;refine B9D ?_;refine r0T ?_;refine B9J (rfl) ?_;refine B9n ?_;refine B9 ?_;refine B9 ?_;refine E4 ?_;refine A6 ?_;refine B9D ?_;refine B9D (rsE I1 [0,0,0,0,0,0,0,1,0] hB hG λL hL=>?_)
         repeat first|refine gya ?_|refine gyr ?_|refine gna ?_|refine gyb (by(rintro v ⟨hgu,hB,hG,-⟩ N hN;have r:=hB.r;simp only[BxR]at r;obtain⟨y1,y2,y3,y4,y5⟩:=Hrd.out v hG;go_simp;exact hN)) ?_
         refine gmw (C:=λv=>Hsg.out _) ?_;refine gs ?_;refine geT hL ?_;clear hB hG hL L;rintro u ⟨-,hB,hG,-⟩;refine B9J (rfl) ?_;refine B9K ?_;refine A6 ?_;refine r0T ?_;refine rt C09 ?_;exact⟨by rw[hE],hG⟩
        ·have hS0:S≠0:=λe1=>hX0 (hz0.1 e1);have f7:(S != 0)=true:=by simp[hS0]
         have f7d:decide (S=0)=false:=by simp[hS0]
         have hE:e=1:=He.out.one hsh.out (hNo hX0);clear hX0 hz0 hS0 hOr hNo;refine B9D ?_;refine r0T ?_;refine B9J (rfl) ?_;refine B9n ?_;refine B9 ?_;refine B9 ?_;refine E4 ?_;refine A6 ?_;refine B9D ?_;refine B9D (rsE I1 [0,0,0,0,0,0,0,1,0] hB hG λL hL=>?_)
         repeat first|refine gya ?_|refine gyr ?_|refine gna ?_|refine gyb (by(rintro v ⟨hgu,hB,hG,-⟩ N hN;have r:=hB.r;simp only[BxR]at r;obtain⟨y1,y2,y3,y4,y5⟩:=Hrd.out v hG;go_simp;exact hN)) ?_
         refine gmw (C:=λv=>Hsg.out _) ?_;refine gs ?_;refine geT hL ?_;clear hB hG hL L;rintro u ⟨-,hB,hG,-⟩;refine B9L (rfl) ?_;refine r0T ?_;refine rt C09 ?_;exact⟨by rw[hE],hG⟩
end Go.Proofs.YtgpglgbcobeogaaGreatDoor
