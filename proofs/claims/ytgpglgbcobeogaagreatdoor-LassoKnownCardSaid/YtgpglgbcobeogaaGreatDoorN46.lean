import Derived.Test.YtgpglgbcobeogaaGreatDoorN43
set_option linter.unusedSimpArgs false
set_option linter.unusedVariables false
set_option maxHeartbeats 8000000
set_option maxRecDepth 100000
namespace Go.Proofs.YtgpglgbcobeogaaGreatDoor
open Go Go.RowKit
theorem B4e{a b:Rat}:E9 a b=0↔a=b:=by
 unfold E9;by_cases h1:a<b
 ·rw[if_pos h1];exact⟨λh=>absurd h (by omega),λh=>by rw[h]at h1;exact absurd h1 Rat.lt_irrefl⟩
 ·rw[if_neg h1];by_cases h2:b<a
  ·rw[if_pos h2];exact⟨λh=>absurd h (by omega),λh=>by rw[h]at h2;exact absurd h2 Rat.lt_irrefl⟩
  ·rw[if_neg h2];exact⟨λ_=>by grind,λ_=>rfl⟩
theorem B4H{l l':List Rat}{L:Nat}(h1:l.length=L)(h2:l'.length=L)(h:∀j,j<L->gq l j=gq l' j):l=l':=by
 apply B88 (by omega);intro i hi hi';have:=h i (by omega);unfold gq at this;rw[B9Y hi,B9Y hi']at this;exact this
theorem B2f(A B:Option Addr)(l l':List Rat)(L c d:Nat)(hl:l.length=L)(hl':l'.length=L)(hL:L<=1000)(s:Nat)(hs:∀x∈l,qs x<=s)(hs':∀x∈l',qs x<=s)(hBz:2*s+1<=BIG)(w:World)(h:Lq w A l)(h':Lq w B l') :
  Calls Tryz.prog 125 #[.slice A L c,.slice B L d,.func (.func 30) #[] #[]] w (G9 (λz:Int=>.int .i64 z) (λz _=>z=0↔l=l') w):=by
 have hat:∀i,i<L->∃ba oa bb ob,A=some ⟨ba,oa,none⟩/\B=some ⟨bb,ob,none⟩/\(∀W,A4 w W->Cq W ba (oa+i*5) (gq l i)/\Cq W bb (ob+i*5) (gq l' i))/\∀W,Calls Tryz.prog 30 #[qV (gq l i),qV (gq l' i)] W λe w'=>e = .returned (.int .i64 (E9 (gq l i) (gq l' i)))/\A4 W w':=λi hi=>by
  obtain⟨ba,oa,e1⟩:=h.addr (by omega);obtain⟨bb,ob,e2⟩:=h'.addr (by omega);subst e1 e2;refine⟨ba,oa,bb,ob,rfl,rfl,λW hg=>⟨(h.grow hg).read (by omega),(h'.grow hg).read (by omega)⟩,λW=>W8 _ _ W ?_⟩;have h1:=hs _ (A7e (l:=l) (i:=i) (by omega));have h2:=hs' _ (A7e (l:=l') (i:=i) (by omega));omega
 have hall:=λh=>B4H hl hl' h;have hne:∀i,gq l i≠gq l' i->l≠l':=λi h e=>h (by rw[e]);have Hat:=B9I hat;have Hall:=B9I hall;have Hne:=B9I hne;clear hat hall hne h h' hs hs' hl hl' hBz;go_enter Tryz.func125,Tryz.ntmps125;refine en0 ?_;intro u hG hB hF;refine B9D ?_;refine r0T ?_;refine B9l ?_;clear hB hF;go_loopw [13] (λs0 wr=>∃i:Nat,i<=L/\s0 = .int .i64 i/\(∀j,j<i->gq l j=gq l' j)/\A4 w wr) (λs0 _=>L-(intOf s0).toNat)
 case atStart=>exact⟨0,B9a _,rfl,λj hj=>absurd hj (C03 _),hG⟩
 case round =>
  clear hG;obtain⟨i,hi,rfl,heq,hG⟩:=hrel;obtain⟨u,rfl⟩:=exQ wr;have hB:=Bx.nil u;have hF:=Fr.nil w;have Heq:=B9I heq;clear heq;rcases B8t i L with hlt|hge
  ·have hdec:decide ((i:Int)<(L:Int))=true:=by simp;omega
   have hiL:(i:Int)<(L:Int):=by omega
   have hge:decide ((L:Int)<=(i:Int))=false:=by simp;omega
   have hgen:decide (L<=i)=false:=by simp;omega
   obtain⟨ba,oa,bb,ob,rfl,rfl,hrd,hcm⟩:=Hat.out i hlt;have hz:=@B4e (gq l i) (gq l' i);obtain⟨x,hx⟩:∃x,x=gq l i:=⟨_,rfl⟩
   obtain⟨y,hy⟩:∃y,y=gq l' i:=⟨_,rfl⟩
   rw[<-hx,<-hy]at hz;simp only[<-hx,<-hy]at hrd hcm;obtain⟨P,hP⟩:∃P,P=E9 x y:=⟨_,rfl⟩
   rw[<-hP]at hz;simp only[<-hP]at hcm;have Hrd:=B9I hrd;have Hcm:=B9I hcm;have Hxy:=B9I (And.intro hx hy);clear hrd hcm hP hx hy;by_cases hP0:P=0
   ·have fP:(P != 0)=false:=by simp[hP0]
    have Hz:=B9I (hz.1 hP0);clear hP0 hz;refine r0T ?_;refine B9D ?_;refine B9L (rfl) ?_;refine B9K ?_;refine A6 ?_;refine B9D ?_;refine B9l ?_;refine B9D (rsC A8 [0,0,0,2,0] hB hG λK L hN hL=>?_)
    repeat first|refine gya ?_|refine gyr ?_|refine gna ?_|refine gyb (by(rintro v ⟨hgu,hB,hG,-⟩ N hN;have r:=hB.r;simp only[BxR]at r;obtain⟨⟨c1,c2,c3,c4,c5⟩,d1,d2,d3,d4,d5⟩:=Hrd.out v hG;go_simp;exact hN)) ?_
    refine gaa (G6 _ _ _ _ _) λb8 hb8 hn8=>?_;refine gs ?_;replace hF:=hF.n1 [] hB hG hb8 hn8;refine geC hL ?_;clear hB hG hL L;rintro u ⟨⟨-,hB,hG,-⟩,h8⟩;replace hB:=hB.cons' h8;clear h8;clear hb8 hn8;refine gtT ?_;clear hN K;refine st hB hF hG 0 0 [_,_,_,_,_] ?_;clear hB hG;intro u hB hG;refine B9D ?_;refine r0T ?_;refine B9J (rfl) ?_;refine B9K ?_;refine A6 ?_;refine B9D (rsC A8 [0,0,0,0,2] hB hG λK L hN hL=>?_)
    repeat first|refine gya ?_|refine gyr ?_|refine gna ?_|refine gyb (by(rintro v ⟨hgu,hB,hG,-⟩ N hN;have r:=hB.r;simp only[BxR]at r;obtain⟨⟨c1,c2,c3,c4,c5⟩,d1,d2,d3,d4,d5⟩:=Hrd.out v hG;go_simp;exact hN)) ?_
    refine gaa (G6 _ _ _ _ _) λb9 hb9 hn9=>?_;replace hF:=hF.n1 [] hB hG hb9 hn9;refine geC hL ?_;clear hB hG hL L;rintro u ⟨⟨-,hB,hG,-⟩,h9⟩;replace hB:=hB.cons' h9;clear h9;clear hb9 hn9;refine gtT ?_;clear hN K;refine st hB hF hG 0 0 [_,_,_,_,_] ?_;clear hB hG;intro u hB hG;refine B9D (rsE A8 [0,0,0,1,0] hB hG λL hL=>?_)
    repeat first|refine gya ?_|refine gyr ?_|refine gna ?_|refine gyb (by(rintro v ⟨hgu,hB,hG,-⟩ N hN;have r:=hB.r;simp only[BxR]at r;obtain⟨⟨c1,c2,c3,c4,c5⟩,d1,d2,d3,d4,d5⟩:=Hrd.out v hG;go_simp;exact hN)) ?_
    refine gmw (C:=λv=>Hcm.out _) ?_;refine gs ?_;refine geT hL ?_;clear hB hG hL L;rintro u ⟨-,hB,hG,-⟩;refine r0T ?_;refine B9J (rfl) ?_;refine B9K ?_;refine C5 ?_;refine A6 ?_;refine r0E ?_;refine A6 ?_;go_roundw
    case rel=>exact⟨i+1,by omega,by go_num,λj hj=>by
     rcases B8t j i with h|h
     ·exact Heq.out j h
     ·obtain rfl:j=i:=by omega
      rw[<-Hxy.out.1,<-Hxy.out.2]
      exact Hz.out,hG⟩
    case measure=>simp[intOf];omega
   ·have fP:(P != 0)=true:=by simp[hP0]
    have Hz:=B9I (show P≠0/\x≠y from⟨hP0,λe=>hP0 (hz.2 e)⟩);clear hP0 hz;refine r0T ?_;refine B9D ?_;refine B9L (rfl) ?_;refine B9K ?_;refine A6 ?_;refine B9D ?_;refine B9l ?_;refine B9D (rsC A8 [0,0,0,2,0] hB hG λK L hN hL=>?_)
    repeat first|refine gya ?_|refine gyr ?_|refine gna ?_|refine gyb (by(rintro v ⟨hgu,hB,hG,-⟩ N hN;have r:=hB.r;simp only[BxR]at r;obtain⟨⟨c1,c2,c3,c4,c5⟩,d1,d2,d3,d4,d5⟩:=Hrd.out v hG;go_simp;exact hN)) ?_
    refine gaa (G6 _ _ _ _ _) λb8 hb8 hn8=>?_;refine gs ?_;replace hF:=hF.n1 [] hB hG hb8 hn8;refine geC hL ?_;clear hB hG hL L;rintro u ⟨⟨-,hB,hG,-⟩,h8⟩;replace hB:=hB.cons' h8;clear h8;clear hb8 hn8;refine gtT ?_;clear hN K;refine st hB hF hG 0 0 [_,_,_,_,_] ?_;clear hB hG;intro u hB hG;refine B9D ?_;refine r0T ?_;refine B9J (rfl) ?_;refine B9K ?_;refine A6 ?_;refine B9D (rsC A8 [0,0,0,0,2] hB hG λK L hN hL=>?_)
    repeat first|refine gya ?_|refine gyr ?_|refine gna ?_|refine gyb (by(rintro v ⟨hgu,hB,hG,-⟩ N hN;have r:=hB.r;simp only[BxR]at r;obtain⟨⟨c1,c2,c3,c4,c5⟩,d1,d2,d3,d4,d5⟩:=Hrd.out v hG;go_simp;exact hN)) ?_
    refine gaa (G6 _ _ _ _ _) λb9 hb9 hn9=>?_;replace hF:=hF.n1 [] hB hG hb9 hn9;refine geC hL ?_;clear hB hG hL L;rintro u ⟨⟨-,hB,hG,-⟩,h9⟩;replace hB:=hB.cons' h9;clear h9;clear hb9 hn9;refine gtT ?_;clear hN K;refine st hB hF hG 0 0 [_,_,_,_,_] ?_;clear hB hG;intro u hB hG;refine B9D (rsE A8 [0,0,0,1,0] hB hG λL hL=>?_)
    repeat first|refine gya ?_|refine gyr ?_|refine gna ?_|refine gyb (by(rintro v ⟨hgu,hB,hG,-⟩ N hN;have r:=hB.r;simp only[BxR]at r;obtain⟨⟨c1,c2,c3,c4,c5⟩,d1,d2,d3,d4,d5⟩:=Hrd.out v hG;go_simp;exact hN)) ?_
    refine gmw (C:=λv=>Hcm.out _) ?_;refine gs ?_;refine geT hL ?_;clear hB hG hL L;rintro u ⟨-,hB,hG,-⟩;refine r0T ?_;refine B9L (rfl) ?_;refine r0T ?_;refine rt Tryz.results125 ?_;exact⟨P,rfl,⟨λe=>absurd e Hz.out.1,λe=>absurd e (Hne.out i (by rw[<-Hxy.out.1,<-Hxy.out.2];exact Hz.out.2))⟩,hG⟩
  ·obtain rfl:L=i:=by omega
   have hdec:decide ((L:Int)<(L:Int))=false:=by simp
   refine r0T ?_;refine B9D ?_;refine B9J (rfl) ?_;refine B9n ?_;refine B9 ?_;refine B9 ?_;refine E4 ?_;refine A6 ?_;refine B9D ?_;refine r0T ?_;refine B9J (rfl) ?_;refine B9K ?_;refine A6 ?_;refine r0T ?_;refine rt Tryz.results125 ?_;exact⟨0,rfl,⟨λ_=>Hall.out Heq.out,λ_=>rfl⟩,hG⟩
theorem B2x(A B:Option Addr)(l l':List Rat)(L c d:Nat)(hl:l.length=L)(hl':l'.length=L)(hL:L<=1000)(s:Nat)(hs:∀x∈l,qs x<=s)(hs':∀x∈l',qs x<=s)(hBz:2*s+1<=BIG)(w:World)(h:Lq w A l)(h':Lq w B l') :
  Calls Tryz.prog 55 #[.slice A L c,.slice B L d] w λe w'=>e = .returned (.bool (decide (l=l')))/\A4 w w':=by
 have hc:=λW (hg:A4 w W)=>B2f A B l l' L c d hl hl' hL s hs hs' hBz W (h.grow hg) (h'.grow hg);obtain⟨E,hE⟩:∃E:Prop,E=(l=l'):=⟨_,rfl⟩
 obtain⟨b,hb⟩:∃b,b=decide (l=l'):=⟨_,rfl⟩
 have hz:∀z:Int,(z=0↔l=l')->(z == 0)=b:=λz h=>by
  rw[hb];by_cases h0:z=0
  ·simp[h0,h.1 h0]
  ·have:¬l=l':=λe=>h0 (h.2 e);simp[h0,this]
 rw[<-hb];have Hc:=B9I hc;have Hz:=B9I hz;clear hc hz hb hE h h' hs hs' hl hl' hBz;go_enter Tryz.func55,Tryz.ntmps55;refine en0 ?_;intro u hG hB hF;refine B9D (rsE A8 [0,0,1,0,0] hB hG λL hL=>?_);refine gs ?_;refine gxd (X:=Int) (λz:Int=>.int .i64 z) (λz _=>(z == 0)=b) (λ_ _ _ _ h=>h) (λx7=>?_) (C:=by(rintro v ⟨hgu,hB,hG,-⟩;exact(Hc.out _ hG).mono (λe w' ⟨z,g1,g2,g3⟩=>⟨z,g1,Hz.out z g2,g3⟩)));refine gs ?_;refine geT hL ?_;clear hB hG hL L;rintro u ⟨⟨-,hB,hG,-⟩,hx7⟩;refine rt Tryz.results55 ?_;exact⟨rfl,hG⟩
def ksX(ks:List Kq)(i:Nat):Kq:=ks.getD i (0,(none,0),[])
def Q8(ks:List Kq)(m n:Nat):List Kq:=(A2q (ks.map C3) m n).map (ksX ks)
theorem B5i(ks:List Kq)(m n:Nat):Q8 ks m (n+1)=if A0x (ks.map C3) m n then Q8 ks m n++[ksX ks n]else Q8 ks m n:=by
 unfold Q8 A2q;rw[B99,List.filter_append,List.map_append];by_cases h:A0x (ks.map C3) m n=true
 ·rw[if_pos h];simp[h]
 ·rw[if_neg h];simp[h]
theorem A1y(ks:List Kq){i:Nat}(h:i<ks.length):C3 (ksX ks i)=knX (ks.map C3) i/\ksX ks i∈ks:=by
 unfold ksX knX;rw[C1L,C1L,List.getElem?_map,B9Y h];exact⟨rfl,B86 h⟩
theorem A73(ks:List Kq)(m:Nat){n:Nat}(h:n<=ks.length):(Q8 ks m n).map C3=A4q (ks.map C3) m n/\∀x∈Q8 ks m n,x∈ks:=by
 unfold Q8 A4q;constructor
 ·rw[List.map_map];refine C0u λi hi=>?_;exact(A1y ks (by have:=(A9g.1 hi).1;omega)).1
 ·intro x hx;obtain⟨i,hi,rfl⟩:=List.mem_map.1 hx;exact(A1y ks (by have:=(A9g.1 hi).1;omega)).2
theorem B5R(ks:List Kq)(m n:Nat):(Q8 ks m n).length<=n:=by
 unfold Q8 A2q;rw[List.length_map];have:=C1I (A0x (ks.map C3) m) (List.range n)
 simpa using this
theorem A9s{u:World}{A:Option Addr}{ks:List Kq}(h:Lk u A ks){i:Nat}(hi:i<ks.length):∃(b o:Nat),A=some ⟨b,o,none⟩/\∀W,A4 u W->(Cq W b (o+i*6) (ksX ks i).1/\W.cell? ⟨b,o+i*6+5,none⟩=some (.slice (ksX ks i).2.1.1 (ksX ks i).2.2.length (ksX ks i).2.1.2))/\Lq W (ksX ks i).2.1.1 (ksX ks i).2.2:=by
 obtain⟨b,o,e,hc⟩:=h.1.at hi;have e2:ksX ks i=ks[i]:=by unfold ksX;rw[C1L,B9Y hi];rfl
 rw[e2];exact⟨b,o,e,λW hg=>⟨⟨⟨hc W hg 0 _ rfl,hc W hg 1 _ rfl,hc W hg 2 _ rfl,hc W hg 3 _ rfl,hc W hg 4 _ rfl⟩,hc W hg 5 _ rfl⟩,(h.2 _ (B86 hi)).grow hg⟩⟩
theorem B1p{a b:Kn}{m s:Nat}(hqa:qs a.1<=s)(hqb:qs b.1<=s)(ha:∀i,i<m->qs (gq a.2 i)<=s)(hb:∀i,i<m->qs (gq b.2 i)<=s):∀x∈L0 a b m,qs x<=4*s+2:=λx hx=>by
 obtain⟨i,hi,rfl⟩:=List.mem_map.1 hx;have hi:=List.mem_range.1 hi;have h1:=ha i hi;have h2:=hb i hi;have h3:=A0G (gq b.2 i) (gq a.2 i);have h4:=A0G b.1 a.1;have h5:=A2D (D9 (gq b.2 i) (gq a.2 i)) (D9 b.1 a.1);unfold H9;unfold D9 at *;omega
theorem B8P(a b:Kn)(m:Nat):(L0 a b m).length=m:=by unfold L0;simp
theorem B64 (A : Option Addr) (ks : List Kq) (n c m : Nat) (hn : ks.length = n) (hn1 : 1 ≤ n) (hn2 : n ≤ 2000) (hm : m ≤ 1000) (hW : ∀ i, i < n → (ksX ks i).2.2.length = m) (s : Nat) (hs : ∀ i, i < n → qs (ksX ks i).1 ≤ s ∧ ∀ j, j < m → qs (gq (ksX ks i).2.2 j) ≤ s) (hBz : 10 * s + 10 ≤ BIG) (w : World) (h : Lk w A ks) (HT : Tab w) :
    Calls Tryz.prog 120 #[.slice A n c] w λe w'=>∃v,e = .returned v/\w'.ownsRow w.heap.size 84 6 v (Q8 ks m n).length ((Q8 ks m n).flatMap kqL)/\A4 w w':=by
  have hBm:=J7;obtain⟨bb,ob,hA,-⟩:=A9s h (i:=0) (by omega);subst hA;have hat:∀i,i<n->∀W,A4 w W->(Cq W bb (ob+i*6) (ksX ks i).1/\W.cell? ⟨bb,ob+i*6+5,none⟩=some (.slice (ksX ks i).2.1.1 m (ksX ks i).2.1.2))/\Lq W (ksX ks i).2.1.1 (ksX ks i).2.2:=λi hi W hg=>by
    obtain⟨b',o',e,h2⟩:=A9s h (i:=i) (by omega);cases e;rw[hW i hi]at h2;exact h2 W hg
  have hsl:∀i,i+1<n->∀W,A4 w W->Tab W->Calls Tryz.prog 111 #[knV (ksX ks i).1 (ksX ks i).2.1 m,knV (ksX ks (i+1)).1 (ksX ks (i+1)).2.1 m] W (G9 (λx:Nat=>.slice (some ⟨x,0,none⟩) m m) (λx W'=>Lq W' (some ⟨x,0,none⟩) (L0 (knX (ks.map C3) i) (knX (ks.map C3) (i+1)) m)) W):=λi hi W hg hT=>by
    have h1:=hs i (by omega);have h2:=hs (i+1) (by omega);rw[<-(A1y ks (i:=i) (by omega)).1,<-(A1y ks (i:=i+1) (by omega)).1];refine(B0S (ksX ks i).1 (ksX ks (i+1)).1 (ksX ks i).2.1 (ksX ks (i+1)).2.1 (ksX ks i).2.2 (ksX ks (i+1)).2.2 m (hW i (by omega)) (hW (i+1) (by omega)) hm s h1.1 h2.1 h1.2 h2.2 (by omega) W ((hat i (by omega) W hg).2) ((hat (i+1) (by omega) W hg).2) hT).mono ?_;rintro e w' ⟨x,e1,e2,e3⟩;obtain⟨A',c',e4,-,-,hL,-⟩:=K8 e2;cases e4;exact⟨x,e1,hL,e3⟩
  have hsz:∀i,i+1<n->(L0 (knX (ks.map C3) i) (knX (ks.map C3) (i+1)) m).length=m/\∀x∈L0 (knX (ks.map C3) i) (knX (ks.map C3) (i+1)) m,qs x<=4*s+2:=λi hi=>by
    have h1:=hs i (by omega);have h2:=hs (i+1) (by omega);rw[<-(A1y ks (i:=i) (by omega)).1,<-(A1y ks (i:=i+1) (by omega)).1];exact⟨B8P _ _ _,B1p h1.1 h2.1 h1.2 h2.2⟩
  have hkl:(ks.map C3).length=n:=by rw[List.length_map,hn]
  have hbk:∀i,A0x (ks.map C3) m i=(decide (i=0)||decide (n<=i+1)||decide (L0 (knX (ks.map C3) (i-1)) (knX (ks.map C3) i) m≠L0 (knX (ks.map C3) i) (knX (ks.map C3) (i+1)) m)):=λi=>by unfold A0x;rw[hkl]
  have Hat:=B9I hat;have Hsl:=B9I hsl;have Hsz:=B9I hsz;have Hbk:=B9I hbk;have Hks:=B9I (λi (hi:i<n)=>B5i ks m i);have Hkn:=B9I (λi=>B5R ks m i);have HWl:=B9I hW;clear hat hsl hsz hbk hkl h hs hW hn;go_enter Tryz.func120,Tryz.ntmps120;refine en0 ?_;intro u hG hB hF;refine r0T ?_;refine B9D ?_;refine r0T ?_;refine B9l ?_;clear hB hF;go_loopw [8,3] (λs0 s1 wr=>∃i:Nat,i<=n/\s0 = .int .i64 i/\wr.ownsRow w.heap.size 84 6 s1 (Q8 ks m i).length ((Q8 ks m i).flatMap kqL)/\A4 w wr) (λs0 _ _=>n-(intOf s0).toNat)
  case atStart=>exact⟨0,B9a _,rfl,C0n _ _ _ _,hG⟩
  case round =>
    clear hG;obtain⟨i,hi,rfl,ho,hG⟩:=hrel;obtain⟨u,rfl⟩:=exQ wr;have hB:=Bx.nil u;have hF:=Fr.nil w;have Ho:=B9I ho;clear ho;rcases B8t i n with hlt|hge
    · have hdec:decide ((i:Int)<(n:Int))=true:=by simp;omega
      have hin:(i:Int)<(n:Int):=by omega
      have hbk:=Hbk.out i;have hks:=Hks.out i hlt;obtain⟨k,hk⟩:∃k,k=(Q8 ks m i).length:=⟨_,rfl⟩
      have hkn:k<=2000:=by have:=Hkn.out i;omega
      obtain⟨K,hK⟩:∃K,K=Q8 ks m i:=⟨_,rfl⟩
      rw[<-hk]at Ho;rw[<-hK]at Ho hk hks;have hrd:=λW hg=>(Hat.out i hlt W hg).1;have hwl:=HWl.out i hlt;obtain⟨⟨X,P,Wt⟩,hX⟩:∃x,x=ksX ks i:=⟨_,rfl⟩
      rw[<-hX]at hks hwl;simp only[<-hX]at hrd;simp only at hwl;obtain⟨n1,hn1e⟩:∃x,x=n-1:=⟨_,rfl⟩
      have fn1:IntKind.i64.wrap ((n:Int)-1)=(n1:Int):=by rw[B9Z _ (by omega)];omega
      rcases B9C i with hi0|hi0
      · have f14:decide ((0:Int)<(i:Int))=false:=by simp;omega
        have f14n:decide (0<i)=false:=by simp;omega
        have hb:A0x (ks.map C3) m i=true:=by rw[hbk,hi0];rfl
        rw[hb,if_pos rfl]at hks;have HK:=B9I (And.intro hks hk);have Hrd:=B9I hrd;have Hwl:=B9I hwl;clear hks hrd hwl hb hbk hX hK hk hi0 hn1e;refine r0T ?_;refine B9D ?_;refine B9L (rfl) ?_;refine B9K ?_;refine A6 ?_;refine B9D ?_;refine B9l ?_;refine B9D (rsC I1 [0,0,0,2,0] hB hG λK L hN hL=>?_)
        repeat first|refine gya ?_|refine gyr ?_|refine gna ?_|refine gyb (by(rintro v ⟨hgu,hB,hG,-⟩ N hN;have r:=hB.r;simp only[BxR]at r;obtain⟨⟨y1,y2,y3,y4,y5⟩,y6⟩:=Hrd.out v hG;go_simp;exact hN)) ?_
        refine gaa (A18 _ _ _ _ _) λb5 hb5 hn5=>?_;refine gs ?_;replace hF:=hF.n1 [] hB hG hb5 hn5;refine geC hL ?_;clear hB hG hL L;rintro u ⟨⟨hgu,hB,hG,-⟩,h5⟩;replace hB:=hB.cons' h5;clear h5;have hne5:=A04 Ho.out hb5;have Ho2:=B9I (C0 Ho.out hgu);clear Ho;have Ho:=Ho2;clear Ho2;clear hb5 hn5;clear hgu;refine gtT ?_;clear hN K;refine sv hB hF hG 0 0 [_,_,_,_,_,_] ?_;intro u2 hu hBG;have Ho2:=B9I (H5 (i:=0) (vs:=[_,_,_,_,_,_]) Ho.out hne5 hu);clear hB hG Ho hu;obtain⟨hB,hG⟩:=hBG;have Ho:=Ho2;clear Ho2;obtain⟨u,rfl⟩:=exQ u2;refine B9D ?_;refine B9D (rdC I1 [] [(0,0),(0,1),(0,2),(0,3),(0,4),(0,5),(0,6),(0,7),(0,8),(0,9),(0,10),(0,11),(0,12),(0,13),(0,14),(0,15),(0,17),(0,18),(0,19),(0,20),(0,21),(0,22),(1,16),(1,23),(1,24)] hB hG λK L hN hL=>?_)
        repeat first|refine gya ?_|refine gyr ?_|refine gna ?_|refine gyb (by(rintro v ⟨hgu,hB,hG,-⟩ N hN;have r:=hB.r;simp only[BxR]at r;obtain⟨⟨y1,y2,y3,y4,y5⟩,y6⟩:=Hrd.out v hG;go_simp;exact hN)) ?_
        refine gmn (by exact rfl) ?_;refine okf (by simp only[Act.put,List.setIfInBounds_toArray,List.set_cons_succ,List.set_cons_zero];exact rfl) ?_;refine gmn (by exact rfl) ?_;refine okf (by simp only[Act.put,List.setIfInBounds_toArray,List.set_cons_succ,List.set_cons_zero];exact rfl) ?_;refine gmn (by exact rfl) ?_;refine okf (by simp only[Act.put,List.setIfInBounds_toArray,List.set_cons_succ,List.set_cons_zero];exact rfl) ?_;refine geC hL ?_;clear hB hG hL L;rintro u ⟨hgu,hB,hG,-⟩;have Ho2:=B9I (C0 Ho.out hgu);clear Ho;have Ho:=Ho2;clear Ho2;clear hgu;refine gtT ?_;clear hN K;refine B9J (rfl) ?_;refine B9K ?_;refine A6 ?_;refine Z4 (w:=w) I1 2 [0,0] (by kernel_rfl) (by simp only[List.drop_succ_cons,List.drop_zero];exact rfl) (λ_=>True) noG hB hG trivial ?_;intro K L hN hL;simp only[List.zip_cons_cons,List.zip_nil_left]
        repeat first|refine gya ?_|refine gyr ?_|refine gna ?_|refine gyb (by(rintro v ⟨hgu,hB,hG,-⟩ N hN;have r:=hB.r;simp only[BxR]at r;obtain⟨⟨y1,y2,y3,y4,y5⟩,y6⟩:=Hrd.out v hG;go_simp;exact hN)) ?_
        refine I8 ?_;rintro v ⟨hgu,hB1,hG1,-⟩;have ROWn:=B9I (C0 Ho.out hgu);clear Ho;have Ho:=ROWn;clear ROWn;clear hB hG;have hB:=hB1;have hG:=hG1;clear hB1 hG1;refine hL _ _ ?_;clear hL L hgu;obtain⟨u,rfl⟩:=exQ v;refine A0E A4D w.heap.size _ _ _ _ (kqL (X,P,Wt)) rfl rfl (A4o X P Wt m Hwl.out u) rfl (λ_=>rfl) (λ_=>rfl) (λ_ _=>rfl) Ho.out (by omega) (by omega) hG.sz λp v' w' g1 g2 g3=>?_
        have hBn:=(hB.grow (A4.alloc u _)).grown_ g2 (λx hx hxe=>by
          simp only[List.mem_cons,List.not_mem_nil,or_false]at hx;subst hx
          exact hne5 hxe.symm)
        have hGn:=A0N Ho.out hG g2;clear Ho hB hG;have Ho:=B9I g1;have hB:=hBn;have hG:=hGn;clear g1 g2 g3 hBn hGn;obtain⟨u,rfl⟩:=exQ w';simp only[Act.put,List.setIfInBounds_toArray,List.set_cons_succ,List.set_cons_zero];refine NoK.norm (hN _ _ ?_);clear hN K;refine C5 ?_;refine A6 ?_;refine r0E ?_;refine A6 ?_;go_roundw
        case rel => clear f14 f14n
                    exact⟨i+1,by omega,by go_num,by rw[HK.out.1,C0v,List.length_append,<-HK.out.2];simpa using Ho.out,hG⟩
        case measure=>clear f14 f14n;simp[intOf];omega
      · have f14:decide ((0:Int)<(i:Int))=true:=by simp;omega
        have f14n:decide (0<i)=true:=by simp;omega
        rcases B8t (i+1) n with hlt2|hge2
        · have f20:decide ((i:Int)<(n1:Int))=true:=by simp;omega
          have f20n:decide (i<n1)=true:=by simp;omega
          obtain⟨J,hJ⟩:∃x,x=i-1:=⟨_,rfl⟩
          obtain⟨i2,hi2⟩:∃x,x=i+1:=⟨_,rfl⟩
          have fJ:IntKind.i64.wrap ((i:Int)-1)=(J:Int):=by rw[B9Z _ (by omega)];omega
          have fi2:IntKind.i64.wrap ((i:Int)+1)=(i2:Int):=by rw[B9Z _ (by omega)];omega
          have hJn:(J:Int)<(n:Int):=by omega
          have hi2n:(i2:Int)<(n:Int):=by omega
          have hs1:=Hsl.out J (by omega);have hs2:=Hsl.out i hlt2;have hz1:=Hsz.out J (by omega);have hz2:=Hsz.out i hlt2;rw[show J+1=i by omega]at hs1 hz1;rw[<-hi2]at hs2 hz2;rw[<-hi2,<-hJ]at hbk;have hrdJ:=λW hg=>(Hat.out J (by omega) W hg).1;have hrd2:=λW hg=>(Hat.out i2 (by omega) W hg).1;have hsm:∀(x y:Nat) (W:World),Lq W (some ⟨x,0,none⟩) (L0 (knX (ks.map C3) J) (knX (ks.map C3) i) m)->Lq W (some ⟨y,0,none⟩) (L0 (knX (ks.map C3) i) (knX (ks.map C3) i2) m)->Calls Tryz.prog 55 #[.slice (some ⟨x,0,none⟩) m m,.slice (some ⟨y,0,none⟩) m m] W λe w'=>e = .returned (.bool (decide (L0 (knX (ks.map C3) J) (knX (ks.map C3) i) m=L0 (knX (ks.map C3) i) (knX (ks.map C3) i2) m)))/\A4 W w':=λx y W h1 h2 =>
            B2x _ _ _ _ m m m hz1.1 hz2.1 hm (4*s+2) hz1.2 hz2.2 (by omega) W h1 h2
          obtain⟨⟨XJ,PJ,WJ⟩,hXJ⟩:∃x,x=ksX ks J:=⟨_,rfl⟩
          obtain⟨⟨X2,P2,W2⟩,hX2⟩:∃x,x=ksX ks i2:=⟨_,rfl⟩
          simp only[<-hXJ,<-hX]at hs1;simp only[<-hX2,<-hX]at hs2;simp only[<-hXJ]at hrdJ;simp only[<-hX2]at hrd2;obtain⟨S1,hS1⟩:∃x,x=L0 (knX (ks.map C3) J) (knX (ks.map C3) i) m:=⟨_,rfl⟩
          obtain⟨S2,hS2⟩:∃x,x=L0 (knX (ks.map C3) i) (knX (ks.map C3) i2) m:=⟨_,rfl⟩
          rw[<-hS1,<-hS2]at hbk;simp only[<-hS1]at hs1 hsm;simp only[<-hS2]at hs2 hsm;rw[B92 (by omega:¬i=0),B92 (by omega:¬n<=i2),Bool.false_or,Bool.false_or]at hbk;have Hrd2:=B9I (λW hg=>And.intro (hrd W hg) (And.intro (hrdJ W hg) (hrd2 W hg)));have Hs1:=B9I hs1;have Hs2:=B9I hs2;have Hsm:=B9I hsm;have Hwl:=B9I hwl;have Hi2:=B9I hi2;clear hrd hrdJ hrd2 hs1 hs2 hsm hwl hz1 hz2 hX hXJ hX2 hS1 hS2 hJ hi2 hi0 hn1e hK;obtain⟨b,hb⟩:∃b,b=decide (S1=S2):=⟨_,rfl⟩
          rw[<-hb]at Hsm;have hb2:A0x (ks.map C3) m i = !b:=by rw[hbk,hb];simp
          clear hb hbk;rw[hb2]at hks;clear hb2;rcases C1K b with rfl|rfl
          · rw[if_neg (by simp)]at hks
            have HK:=B9I (And.intro hks hk);clear hks hk;refine r0T ?_;refine B9D ?_;refine B9L (rfl) ?_;refine B9K ?_;refine A6 ?_;refine B9D ?_;refine B9l ?_;refine B9D (rsC I1 [0,0,0,2,0] hB hG λK L hN hL=>?_)
            repeat first|refine gya ?_|refine gyr ?_|refine gna ?_|refine gyb (by(rintro v ⟨hgu,hB,hG,-⟩ N hN;have r:=hB.r;simp only[BxR]at r;obtain⟨⟨⟨y1,y2,y3,y4,y5⟩,y6⟩,⟨⟨z1,z2,z3,z4,z5⟩,z6⟩,⟨x1,x2,x3,x4,x5⟩,x6⟩:=Hrd2.out v hG;go_simp;exact hN)) ?_
            refine gaa (A18 _ _ _ _ _) λb5 hb5 hn5=>?_;refine gs ?_;replace hF:=hF.n1 [] hB hG hb5 hn5;refine geC hL ?_;clear hB hG hL L;rintro u ⟨⟨hgu,hB,hG,-⟩,h5⟩;replace hB:=hB.cons' h5;clear h5;have hne5:=A04 Ho.out hb5;have Ho2:=B9I (C0 Ho.out hgu);clear Ho;have Ho:=Ho2;clear Ho2;clear hb5 hn5;clear hgu;refine gtT ?_;clear hN K;refine sv hB hF hG 0 0 [_,_,_,_,_,_] ?_;intro u2 hu hBG;have Ho2:=B9I (H5 (i:=0) (vs:=[_,_,_,_,_,_]) Ho.out hne5 hu);clear hB hG Ho hu;obtain⟨hB,hG⟩:=hBG;have Ho:=Ho2;clear Ho2;obtain⟨u,rfl⟩:=exQ u2;refine B9D ?_;refine B9D (rdC I1 [] [(0,0),(0,1),(0,2),(0,3),(0,4),(0,5),(0,6),(0,7),(0,8),(0,9),(0,10),(0,11),(0,12),(0,13),(0,14),(0,15),(0,17),(0,18),(0,19),(0,20),(0,21),(0,22),(1,16),(1,23),(1,24)] hB hG λK L hN hL=>?_)
            repeat first|refine gya ?_|refine gyr ?_|refine gna ?_|refine gyb (by(rintro v ⟨hgu,hB,hG,-⟩ N hN;have r:=hB.r;simp only[BxR]at r;obtain⟨⟨⟨y1,y2,y3,y4,y5⟩,y6⟩,⟨⟨z1,z2,z3,z4,z5⟩,z6⟩,⟨x1,x2,x3,x4,x5⟩,x6⟩:=Hrd2.out v hG;go_simp;exact hN)) ?_
            refine gxd (X:=Nat) (λx:Nat=>.slice (some ⟨x,0,none⟩) m m) (λx W=>Lq W (some ⟨x,0,none⟩) S1) (λx u u' hg h=>h.grow hg) (λx29=>?_) (C:=by(rintro v ⟨hgu,hB,hG,-⟩;exact Hs1.out _ hG (HT.grow hG)));refine gxd (X:=Nat) (λx:Nat=>.slice (some ⟨x,0,none⟩) m m) (λx W=>Lq W (some ⟨x,0,none⟩) S2) (λx u u' hg h=>h.grow hg) (λx36=>?_) (C:=by(rintro v ⟨⟨hgu,hB,hG,-⟩,hx29⟩;exact Hs2.out _ hG (HT.grow hG)))
            first|refine gmd (C:=λv ⟨⟨⟨hgu,hB,hG,_⟩,hx29⟩,hx36⟩=>Hsm.out _ _ _ hx29 hx36) ?_|refine I0 ?_
            refine geC hL ?_;clear hB hG hL L;rintro u ⟨⟨⟨hgu,hB,hG,-⟩,hx29⟩,hx36⟩;have Ho2:=B9I (C0 Ho.out hgu);clear Ho;have Ho:=Ho2;clear Ho2;clear hgu;refine gtT ?_;clear hN K;refine B9L (rfl) ?_;refine B9n ?_;refine B9 ?_;refine E4 ?_;refine A6 ?_;refine r0E ?_;refine A6 ?_;go_roundw
            case rel => have e2 := Hi2.out
                        subst e2;exact⟨i+1,by omega,by go_num,by rw[HK.out.1,<-HK.out.2];exact Ho.out,hG⟩
            case measure=>have e2:=Hi2.out;simp[intOf];omega
          · rw[if_pos (by simp)]at hks
            have HK:=B9I (And.intro hks hk);clear hks hk;refine r0T ?_;refine B9D ?_;refine B9L (rfl) ?_;refine B9K ?_;refine A6 ?_;refine B9D ?_;refine B9l ?_;refine B9D (rsC I1 [0,0,0,2,0] hB hG λK L hN hL=>?_)
            repeat first|refine gya ?_|refine gyr ?_|refine gna ?_|refine gyb (by(rintro v ⟨hgu,hB,hG,-⟩ N hN;have r:=hB.r;simp only[BxR]at r;obtain⟨⟨⟨y1,y2,y3,y4,y5⟩,y6⟩,⟨⟨z1,z2,z3,z4,z5⟩,z6⟩,⟨x1,x2,x3,x4,x5⟩,x6⟩:=Hrd2.out v hG;go_simp;exact hN)) ?_
            refine gaa (A18 _ _ _ _ _) λb5 hb5 hn5=>?_;refine gs ?_;replace hF:=hF.n1 [] hB hG hb5 hn5;refine geC hL ?_;clear hB hG hL L;rintro u ⟨⟨hgu,hB,hG,-⟩,h5⟩;replace hB:=hB.cons' h5;clear h5;have hne5:=A04 Ho.out hb5;have Ho2:=B9I (C0 Ho.out hgu);clear Ho;have Ho:=Ho2;clear Ho2;clear hb5 hn5;clear hgu;refine gtT ?_;clear hN K;refine sv hB hF hG 0 0 [_,_,_,_,_,_] ?_;intro u2 hu hBG;have Ho2:=B9I (H5 (i:=0) (vs:=[_,_,_,_,_,_]) Ho.out hne5 hu);clear hB hG Ho hu;obtain⟨hB,hG⟩:=hBG;have Ho:=Ho2;clear Ho2;obtain⟨u,rfl⟩:=exQ u2;refine B9D ?_;refine B9D (rdC I1 [] [(0,0),(0,1),(0,2),(0,3),(0,4),(0,5),(0,6),(0,7),(0,8),(0,9),(0,10),(0,11),(0,12),(0,13),(0,14),(0,15),(0,17),(0,18),(0,19),(0,20),(0,21),(0,22),(1,16),(1,23),(1,24)] hB hG λK L hN hL=>?_)
            repeat first|refine gya ?_|refine gyr ?_|refine gna ?_|refine gyb (by(rintro v ⟨hgu,hB,hG,-⟩ N hN;have r:=hB.r;simp only[BxR]at r;obtain⟨⟨⟨y1,y2,y3,y4,y5⟩,y6⟩,⟨⟨z1,z2,z3,z4,z5⟩,z6⟩,⟨x1,x2,x3,x4,x5⟩,x6⟩:=Hrd2.out v hG;go_simp;exact hN)) ?_
            refine gxd (X:=Nat) (λx:Nat=>.slice (some ⟨x,0,none⟩) m m) (λx W=>Lq W (some ⟨x,0,none⟩) S1) (λx u u' hg h=>h.grow hg) (λx29=>?_) (C:=by(rintro v ⟨hgu,hB,hG,-⟩;exact Hs1.out _ hG (HT.grow hG)));refine gxd (X:=Nat) (λx:Nat=>.slice (some ⟨x,0,none⟩) m m) (λx W=>Lq W (some ⟨x,0,none⟩) S2) (λx u u' hg h=>h.grow hg) (λx36=>?_) (C:=by(rintro v ⟨⟨hgu,hB,hG,-⟩,hx29⟩;exact Hs2.out _ hG (HT.grow hG)))
            first|refine gmd (C:=λv ⟨⟨⟨hgu,hB,hG,_⟩,hx29⟩,hx36⟩=>Hsm.out _ _ _ hx29 hx36) ?_|refine I0 ?_
            refine geC hL ?_;clear hB hG hL L;rintro u ⟨⟨⟨hgu,hB,hG,-⟩,hx29⟩,hx36⟩;have Ho2:=B9I (C0 Ho.out hgu);clear Ho;have Ho:=Ho2;clear Ho2;clear hgu;refine gtT ?_;clear hN K;refine B9J (rfl) ?_;refine B9K ?_;refine A6 ?_;refine Z4 (w:=w) I1 2 [0,0] (by kernel_rfl) (by simp only[List.drop_succ_cons,List.drop_zero];exact rfl) (λ_=>True) noG hB hG trivial ?_;intro K L hN hL;simp only[List.zip_cons_cons,List.zip_nil_left]
            repeat first|refine gya ?_|refine gyr ?_|refine gna ?_|refine gyb (by(rintro v ⟨hgu,hB,hG,-⟩ N hN;have r:=hB.r;simp only[BxR]at r;obtain⟨⟨⟨y1,y2,y3,y4,y5⟩,y6⟩,⟨⟨z1,z2,z3,z4,z5⟩,z6⟩,⟨x1,x2,x3,x4,x5⟩,x6⟩:=Hrd2.out v hG;go_simp;exact hN)) ?_
            refine I8 ?_;rintro v ⟨hgu,hB1,hG1,-⟩;have ROWn:=B9I (C0 Ho.out hgu);clear Ho;have Ho:=ROWn;clear ROWn;clear hB hG;have hB:=hB1;have hG:=hG1;clear hB1 hG1;refine hL _ _ ?_;clear hL L hgu;obtain⟨u,rfl⟩:=exQ v;refine A0E A4D w.heap.size _ _ _ _ (kqL (X,P,Wt)) rfl rfl (A4o X P Wt m Hwl.out u) rfl (λ_=>rfl) (λ_=>rfl) (λ_ _=>rfl) Ho.out (by omega) (by omega) hG.sz λp v' w' g1 g2 g3=>?_
            have hBn:=(hB.grow (A4.alloc u _)).grown_ g2 (λx hx hxe=>by
              simp only[List.mem_cons,List.not_mem_nil,or_false]at hx;subst hx
              exact hne5 hxe.symm)
            have hGn:=A0N Ho.out hG g2;clear Ho hB hG;have Ho:=B9I g1;have hB:=hBn;have hG:=hGn;clear g1 g2 g3 hBn hGn;obtain⟨u,rfl⟩:=exQ w';simp only[Act.put,List.setIfInBounds_toArray,List.set_cons_succ,List.set_cons_zero];refine NoK.norm (hN _ _ ?_);clear hN K;refine C5 ?_;refine A6 ?_;refine r0E ?_;refine A6 ?_;go_roundw
            case rel => have e2 := Hi2.out
                        subst e2;exact⟨i+1,by omega,by go_num,by rw[HK.out.1,C0v,List.length_append,<-HK.out.2];simpa using Ho.out,hG⟩
            case measure=>have e2:=Hi2.out;simp[intOf];omega
        · have f20:decide ((i:Int)<(n1:Int))=false:=by simp;omega
          have f20n:decide (i<n1)=false:=by simp;omega
          have hb:A0x (ks.map C3) m i=true:=by rw[hbk,B9x (by omega:n<=i+1)];simp
          rw[hb,if_pos rfl]at hks;have HK:=B9I (And.intro hks hk);have Hrd:=B9I hrd;have Hwl:=B9I hwl;clear hks hrd hwl hb hbk hX hK hk hi0 hn1e;refine r0T ?_;refine B9D ?_;refine B9L (rfl) ?_;refine B9K ?_;refine A6 ?_;refine B9D ?_;refine B9l ?_;refine B9D (rsC I1 [0,0,0,2,0] hB hG λK L hN hL=>?_)
          repeat first|refine gya ?_|refine gyr ?_|refine gna ?_|refine gyb (by(rintro v ⟨hgu,hB,hG,-⟩ N hN;have r:=hB.r;simp only[BxR]at r;obtain⟨⟨y1,y2,y3,y4,y5⟩,y6⟩:=Hrd.out v hG;go_simp;exact hN)) ?_
          refine gaa (A18 _ _ _ _ _) λb5 hb5 hn5=>?_;refine gs ?_;replace hF:=hF.n1 [] hB hG hb5 hn5;refine geC hL ?_;clear hB hG hL L;rintro u ⟨⟨hgu,hB,hG,-⟩,h5⟩;replace hB:=hB.cons' h5;clear h5;have hne5:=A04 Ho.out hb5;have Ho2:=B9I (C0 Ho.out hgu);clear Ho;have Ho:=Ho2;clear Ho2;clear hb5 hn5;clear hgu;refine gtT ?_;clear hN K;refine sv hB hF hG 0 0 [_,_,_,_,_,_] ?_;intro u2 hu hBG;have Ho2:=B9I (H5 (i:=0) (vs:=[_,_,_,_,_,_]) Ho.out hne5 hu);clear hB hG Ho hu;obtain⟨hB,hG⟩:=hBG;have Ho:=Ho2;clear Ho2;obtain⟨u,rfl⟩:=exQ u2;refine B9D ?_;refine B9D (rdC I1 [] [(0,0),(0,1),(0,2),(0,3),(0,4),(0,5),(0,6),(0,7),(0,8),(0,9),(0,10),(0,11),(0,12),(0,13),(0,14),(0,15),(0,17),(0,18),(0,19),(0,20),(0,21),(0,22),(1,16),(1,23),(1,24)] hB hG λK L hN hL=>?_)
          repeat first|refine gya ?_|refine gyr ?_|refine gna ?_|refine gyb (by(rintro v ⟨hgu,hB,hG,-⟩ N hN;have r:=hB.r;simp only[BxR]at r;obtain⟨⟨y1,y2,y3,y4,y5⟩,y6⟩:=Hrd.out v hG;go_simp;exact hN)) ?_
          refine gmn (by exact rfl) ?_;refine okf (by simp only[Act.put,List.setIfInBounds_toArray,List.set_cons_succ,List.set_cons_zero];exact rfl) ?_;refine gmn (by exact rfl) ?_;refine okf (by simp only[Act.put,List.setIfInBounds_toArray,List.set_cons_succ,List.set_cons_zero];exact rfl) ?_;refine gmn (by exact rfl) ?_;refine okf (by simp only[Act.put,List.setIfInBounds_toArray,List.set_cons_succ,List.set_cons_zero];exact rfl) ?_;refine geC hL ?_;clear hB hG hL L;rintro u ⟨hgu,hB,hG,-⟩;have Ho2:=B9I (C0 Ho.out hgu);clear Ho;have Ho:=Ho2;clear Ho2;clear hgu;refine gtT ?_;clear hN K;refine B9J (rfl) ?_;refine B9K ?_;refine A6 ?_;refine Z4 (w:=w) I1 2 [0,0] (by kernel_rfl) (by simp only[List.drop_succ_cons,List.drop_zero];exact rfl) (λ_=>True) noG hB hG trivial ?_;intro K L hN hL;simp only[List.zip_cons_cons,List.zip_nil_left]
          repeat first|refine gya ?_|refine gyr ?_|refine gna ?_|refine gyb (by(rintro v ⟨hgu,hB,hG,-⟩ N hN;have r:=hB.r;simp only[BxR]at r;obtain⟨⟨y1,y2,y3,y4,y5⟩,y6⟩:=Hrd.out v hG;go_simp;exact hN)) ?_
          refine I8 ?_;rintro v ⟨hgu,hB1,hG1,-⟩;have ROWn:=B9I (C0 Ho.out hgu);clear Ho;have Ho:=ROWn;clear ROWn;clear hB hG;have hB:=hB1;have hG:=hG1;clear hB1 hG1;refine hL _ _ ?_;clear hL L hgu;obtain⟨u,rfl⟩:=exQ v;refine A0E A4D w.heap.size _ _ _ _ (kqL (X,P,Wt)) rfl rfl (A4o X P Wt m Hwl.out u) rfl (λ_=>rfl) (λ_=>rfl) (λ_ _=>rfl) Ho.out (by omega) (by omega) hG.sz λp v' w' g1 g2 g3=>?_
          have hBn:=(hB.grow (A4.alloc u _)).grown_ g2 (λx hx hxe=>by
            simp only[List.mem_cons,List.not_mem_nil,or_false]at hx;subst hx
            exact hne5 hxe.symm)
          have hGn:=A0N Ho.out hG g2;clear Ho hB hG;have Ho:=B9I g1;have hB:=hBn;have hG:=hGn;clear g1 g2 g3 hBn hGn;obtain⟨u,rfl⟩:=exQ w';simp only[Act.put,List.setIfInBounds_toArray,List.set_cons_succ,List.set_cons_zero];refine NoK.norm (hN _ _ ?_);clear hN K;refine C5 ?_;refine A6 ?_;refine r0E ?_;refine A6 ?_;go_roundw
          case rel => clear f14 f14n
                      exact⟨i+1,by omega,by go_num,by rw[HK.out.1,C0v,List.length_append,<-HK.out.2];simpa using Ho.out,hG⟩
          case measure=>clear f14 f14n;simp[intOf];omega
    · obtain rfl:n=i:=by omega
      have hdec:decide ((n:Int)<(n:Int))=false:=by simp
      refine r0T ?_;refine B9D ?_;refine B9J (rfl) ?_;refine B9n ?_;refine B9 ?_;refine B9 ?_;refine E4 ?_;refine A6 ?_;refine r0T ?_;refine rt Tryz.results120 ?_;exact⟨_,rfl,Ho.out,hG⟩
end Go.Proofs.YtgpglgbcobeogaaGreatDoor
