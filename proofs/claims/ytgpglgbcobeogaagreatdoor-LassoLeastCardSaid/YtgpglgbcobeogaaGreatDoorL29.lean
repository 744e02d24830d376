import Derived.Test.YtgpglgbcobeogaaGreatDoorL28
set_option linter.unusedSimpArgs false
set_option linter.unusedVariables false
set_option maxHeartbeats 2000000
set_option maxRecDepth 100000
namespace Go.Proofs.YtgpglgbcobeogaaGreatDoor
open Go Go.RowKit
def B6(rs:List (List Rat))(i:Nat):List Rat:=(rs[i]?).getD []
def E7(a b:List Rat)(n:Nat):Rat:=D2 (λi=>C3 (gq a i) (gq b i)) n
theorem B1w(a b:List Rat)(n:Nat):E7 a b (n+1)=G9 (E7 a b n) (C3 (gq a n) (gq b n)):=rfl
theorem A5J(a b:List Rat)(n:Nat):E7 a b n=E7 b a n:=H5 λi _=>by unfold C3;exact Rat.mul_comm _ _
theorem A0h{a b:List Rat}{n s t:Nat}(ha:∀i,i<n->qs (gq a i)<=s)(hb:∀i,i<n->qs (gq b i)<=t):∀j,j<=n->qs (E7 a b j)<=j*(s+t+1)+1:=λj hj =>
 B0R _ (s+t) n (λi hi=>B8K (Y4 _ _) (Nat.add_le_add (ha i hi) (hb i hi))) j hj
theorem S6(f:Nat->Rat){n i:Nat}(h:i<n):gq ((List.range n).map f) i=f i:=by
 show((((List.range n).map f)[i]?).getD 0)=_;simp[h]
def V3(X:List (List Rat))(y w:List Rat)(n L:Nat):List Rat:=(List.range n).map λi=>G0 (gq y i) (E7 w (B6 X i) L)
def G1(X:List (List Rat))(j n:Nat):List Rat:=(List.range n).map λi=>gq (B6 X i) j
def P8(X:List (List Rat))(y w:List Rat)(n L:Nat):List Rat:=(List.range L).map λj=>E7 (G1 X j n) (V3 X y w n L) n
def A1h(a b:Rat):Rat:=if a<b then b else a
def A10(p:List Rat):Nat->Rat
 | 0=>0
 | n+1=>A1h (A10 p n) (T0 (gq p n))
def G8(n:Nat):List Rat:=List.replicate n 0
def A4d(X:List (List Rat))(y:List Rat)(n L:Nat):Rat:=A10 (P8 X y (G8 L) n L) L
def S9(p w a:Rat):Bool:=if 0<w then decide (p=a)else if w<0 then decide (p=K4 a)else decide (T0 p<=a)
def X6(f:Nat->Bool):Nat->Nat->Nat
 | 0,i=>i
 | k+1,i=>if f i then X6 f k (i+1)else i
theorem A16(f:Nat->Bool)(k i:Nat):i<=X6 f k i/\X6 f k i<=i+k/\(∀j,i<=j->j<X6 f k i->f j=true)/\(X6 f k i<i+k->f (X6 f k i)=false):=by
 induction k generalizing i with
 | zero=>exact⟨K2 _,K2 _,λj h1 h2=>absurd h2 (by simp[X6];omega),λh=>absurd h (by simp[X6])⟩
 | succ k ih =>
  unfold X6
  cases hf:f i with
  | true =>
   rw[if_pos rfl];obtain⟨h1,h2,h3,h4⟩:=ih (i+1);refine⟨by omega,by omega,λj h5 h6=>?_,λh5=>h4 (by omega)⟩;rcases Nat.eq_or_lt_of_le h5 with h|h
   ·rw[<-h];exact hf
   ·exact h3 j h h6
  | false =>
   rw[if_neg (by simp)];exact⟨K2 _,by omega,λj h5 h6=>absurd h6 (by omega),λ_=>hf⟩
def M9(X:List (List Rat))(y w:List Rat)(n L:Nat)(a:Rat):Nat:=X6 (λj=>S9 (gq (P8 X y w n L) j) (gq w j) a) L 0
theorem A5T(X:List (List Rat))(y w:List Rat)(n L:Nat)(a:Rat):M9 X y w n L a<=L/\(∀j,j<M9 X y w n L a->S9 (gq (P8 X y w n L) j) (gq w j) a=true)/\(M9 X y w n L a<L->S9 (gq (P8 X y w n L) (M9 X y w n L a)) (gq w (M9 X y w n L a)) a=false):=by
 obtain⟨h1,h2,h3,h4⟩:=A16 (λj=>S9 (gq (P8 X y w n L) j) (gq w j) a) L 0;exact⟨by unfold M9;omega,λj hj=>h3 j (B8k _) hj,λh=>h4 (by unfold M9 at h;omega)⟩
theorem A7M(X:List (List Rat))(y w:List Rat)(n L:Nat):(V3 X y w n L).length=n:=by unfold V3;simp
theorem A48(X:List (List Rat))(j n:Nat):(G1 X j n).length=n:=by unfold G1;simp
theorem A53(X:List (List Rat))(y w:List Rat)(n L:Nat):(P8 X y w n L).length=L:=by unfold P8;simp
theorem A8s(X:List (List Rat))(y w:List Rat)(n L:Nat){i:Nat}(h:i<n):gq (V3 X y w n L) i=G0 (gq y i) (E7 w (B6 X i) L):=S6 _ h
theorem A0k(X:List (List Rat))(j n:Nat){i:Nat}(h:i<n):gq (G1 X j n) i=gq (B6 X i) j:=S6 _ h
theorem A8X(X:List (List Rat))(y w:List Rat)(n L:Nat){j:Nat}(h:j<L):gq (P8 X y w n L) j=E7 (G1 X j n) (V3 X y w n L) n:=S6 _ h
theorem A3G(f:Nat->Rat)(n:Nat):(List.range (n+1)).map f=(List.range n).map f++[f n]:=by rw[B9J,List.map_append];rfl
theorem A5U(n i:Nat):gq (G8 n) i=0:=by
 unfold gq G8;rw[B9f];split<;>rfl
theorem A5E(a:Rat):qs (T0 a)=qs a:=by
 unfold T0 Rat.abs;split
 ·rfl
 ·exact A3Y a
theorem A4X{X:List (List Rat)}{y w:List Rat}{n L s:Nat}(hn:n<=20)(hL:L<=20)(hs:s<=10000000)(hX:∀i,i<n->∀j,j<L->qs (gq (B6 X i) j)<=s)(hy:∀i,i<n->qs (gq y i)<=s)(hw:∀j,j<L->qs (gq w j)<=s):∀i,i<n->qs (gq (V3 X y w n L) i)<=500000000:=λi hi=>by
 rw[A8s X y w n L hi];have h1:=A0h (a:=w) (b:=B6 X i) (n:=L) hw (hX i hi) L (K2 _);have h2:=A28 (gq y i) (E7 w (B6 X i) L);have h3:=hy i hi;have h4:L*(s+s+1)<=20*(s+s+1):=B8q _ hL;unfold G0;omega
theorem A81{X:List (List Rat)}{y w:List Rat}{n L s:Nat}(hn:n<=20)(hL:L<=20)(hs:s<=10000000)(hX:∀i,i<n->∀j,j<L->qs (gq (B6 X i) j)<=s)(hy:∀i,i<n->qs (gq y i)<=s)(hw:∀j,j<L->qs (gq w j)<=s):∀j,j<L->qs (gq (P8 X y w n L) j)<=11000000000:=λj hj=>by
 rw[A8X X y w n L hj];have h0:=A4X hn hL hs hX hy hw;have h1:=A0h (a:=G1 X j n) (b:=V3 X y w n L) (n:=n) (s:=s) (t:=500000000) (λi hi=>by rw[A0k X j n hi];exact hX i hi j hj) h0 n (K2 _);have h4:n*(s+500000000+1)<=20*(s+500000000+1):=B8q _ hn;omega
theorem B5i{a b:Rat}{s:Nat}(h1:qs a<=s)(h2:qs b<=s):qs (A1h a b)<=s:=by unfold A1h;split<;>assumption
theorem A8p{p:List Rat}{n s:Nat}(hs:1<=s)(h:∀j,j<n->qs (gq p j)<=s):∀j,j<=n->qs (A10 p j)<=s
 | 0,_=>by rw[A10,A1o];exact hs
 | j+1,hj=>B5i (A8p hs h j (by omega)) (by rw[A5E];exact h j (by omega))
theorem A9S{a b:Rat}:(J9 a b == 0)=decide (a=b):=by
 unfold J9;by_cases h1:a<b
 ·rw[if_pos h1];have:¬a=b:=λh=>by rw[h]at h1;exact Rat.lt_irrefl h1
  simp[this]
 ·rw[if_neg h1];by_cases h2:b<a
  ·rw[if_pos h2];have:¬a=b:=λh=>by rw[h]at h2;exact Rat.lt_irrefl h2
   simp[this]
  ·rw[if_neg h2];have:a=b:=by grind
   simp[this]
theorem B6T{a b:Rat}:decide (J9 a b<=0)=decide (a<=b):=by
 unfold J9;by_cases h1:a<b
 ·rw[if_pos h1];have:a<=b:=Rat.le_of_lt h1;simp[this]
 ·rw[if_neg h1];by_cases h2:b<a
  ·rw[if_pos h2];have:¬a<=b:=by grind
   simp[this]
  ·rw[if_neg h2];have:a<=b:=by grind
   simp[this]
theorem B4S{w:Rat}:w.num.sign=1↔0<w:=by
 rw[Int.sign_eq_one_iff_pos,Rat.lt_iff];simp
theorem A2q{w:Rat}:w.num.sign = -1↔w<0:=by
 rw[Int.sign_eq_neg_one_iff_neg,Rat.lt_iff];simp
theorem B2P{p w a:Rat}(h:w.num.sign=1):S9 p w a=(J9 p a == 0):=by
 unfold S9;rw[if_pos (B4S.1 h),A9S]
theorem B1Y{p w a:Rat}(h:w.num.sign = -1):S9 p w a=(J9 p (K4 a) == 0):=by
 have h1:=A2q.1 h;unfold S9;rw[if_neg (by grind),if_pos h1,A9S]
theorem B3m{p w a:Rat}(h:w.num.sign=0):S9 p w a=decide (J9 (T0 p) a<=0):=by
 have h0:w=0:=Rat.num_eq_zero.1 (Int.sign_eq_zero_iff_zero.1 h);unfold S9;rw[if_neg (by rw[h0];exact Rat.lt_irrefl),if_neg (by rw[h0];exact Rat.lt_irrefl),B6T]
theorem B6w(A:Option Addr)(rs:List Rq)(n L c:Nat)(hn:rs.length=n)(hn1:1<=n)(hn2:n<=1048576)(hL1:1<=L)(hrl:∀r∈rs,r.2.2.length=L)(w:World)(h:Lrz w A rs) :
  Calls Tryz.prog 134 #[.slice A n c] w λe w'=>e = .returned (.bool true)/\A4 w w':=by
 obtain⟨bb,ob,rfl⟩:=h.addr (by omega);have hrow:∀i,i<n->∃(Ar:Option Addr) (cr:Nat),∀W,A4 w W->W.cell? ⟨bb,ob+i,none⟩=some (.slice Ar L cr):=λi hi=>by
  have hil:i<rs.length:=by omega
  refine⟨rs[i].1,rs[i].2.1,λW hg=>?_⟩;have h3:=((h.grow hg).read (B8i hil)).1;rw[hrl _ (B8G hil)]at h3;exact h3
 obtain⟨A0,c0,hrow0⟩:=hrow 0 (by omega);rw[Nat.add_zero]at hrow0;have hni:(0:Int)<(n:Int):=by omega
 have fnz:decide (n=0)=false:=by simp;omega
 have fnp:0<n:=by omega
 have fn:decide ((0:Int)<(n:Int))=true:=by simp;omega
 have fnn:decide (0<n)=true:=by simp;omega
 have hne:((L:Int) != (L:Int))=false:=by simp
 have fL:((L:Int) == 0)=false:=by simp;omega
 have fLd:decide (L=0)=false:=by simp;omega
 have Hrow:=B8S hrow;have Hrow0:=B8S hrow0;clear hrow hrow0 h hrl hn;go_enter Tryz.func134,Tryz.ntmps134;refine en0 ?_;intro u hG hB hF;refine B8N ?_;refine r0T ?_;refine B8v ?_;go_loopw [3] (λs0 wr=>∃i:Nat,i<=n/\s0 = .int .i64 i/\A4 w wr) (λs0 _=>n-(intOf s0).toNat)
 case atStart=>exact⟨0,B8k _,rfl,hG⟩
 case round =>
  clear hB hG;obtain⟨i,hi,rfl,hG⟩:=hrel;obtain⟨u,rfl⟩:=exQ wr;have hB:=Bx.nil u;rcases B73 i n with hlt|hge
  ·have hdec:decide ((i:Int)<(n:Int))=true:=by simp;omega
   obtain⟨Ar,cr,hrw⟩:=Hrow.out i hlt;have Hrw:=B8S hrw;clear hrw;refine B8N ?_;refine r0T ?_;refine B8V (rfl) ?_;refine B8U ?_;refine A6 ?_;refine B8N ?_;refine B8v ?_;refine B8N (rdC A8 [] [(0,0),(0,1),(0,2),(0,3),(0,4),(0,5),(0,6),(0,7),(0,8),(0,9),(0,10),(0,11),(0,12),(0,13),(0,14),(0,15),(0,16)] hB hG λK L hN hL=>?_)
   repeat first|refine gya ?_|refine gyr ?_|refine gna ?_|refine gyb (by(rintro v ⟨hgu,hB,hG,-⟩ N hN;have r:=hB.r;simp only[BxR]at r;have q0:=Hrow0.out v hG;have q1:=Hrw.out v hG;go_simp;exact hN)) ?_
   refine geC hL ?_;clear hB hG hL L;rintro u ⟨-,hB,hG,-⟩;refine gtT ?_;clear hN K;refine B8T (rfl) ?_;refine B8U ?_;refine C8 ?_;refine A6 ?_;refine r0E ?_;refine A6 ?_;go_roundw
   case rel=>exact⟨i+1,by omega,by go_num,hG⟩
   case measure=>simp[intOf];omega
  ·obtain rfl:n=i:=by omega
   have hdec:decide ((n:Int)<(n:Int))=false:=by simp
   refine B8N ?_;refine r0T ?_;refine B8T (rfl) ?_;refine B8x ?_;refine B7 ?_;refine B7 ?_;refine D0 ?_;refine A6 ?_;refine r0T ?_;refine rt Tryz.results134 ?_;exact⟨rfl,hG⟩
theorem B6h(A:Option Addr)(c:Nat)(w:World):Calls Tryz.prog 134 #[.slice A 0 c] w λe w'=>e = .returned (.bool false)/\A4 w w':=by
 go_enter Tryz.func134,Tryz.ntmps134;refine en0 ?_;intro u hG hB hF;refine B8N ?_;refine r0T ?_;refine B8v ?_;go_loopw [3] (λs0 wr=>s0 = .int .i64 0/\A4 w wr) (λs0 _=>0)
 case atStart=>exact⟨rfl,hG⟩
 case round =>
  clear hB hG;obtain⟨rfl,hG⟩:=hrel;obtain⟨u,rfl⟩:=exQ wr;have hB:=Bx.nil u;refine B8N ?_;refine r0T ?_;refine B8T (rfl) ?_;refine B8x ?_;refine B7 ?_;refine B7 ?_;refine D0 ?_;refine A6 ?_;refine r0T ?_;refine rt Tryz.results134 ?_;exact⟨rfl,hG⟩
theorem B17(A:Option Addr)(rs:List Rq)(n L c:Nat)(hn:rs.length=n)(hn1:1<=n)(hn2:n<=300)(hL1:1<=L)(hL2:L<=20)(hrl:∀r∈rs,r.2.2.length=L)(w:World)(h:Lrz w A rs) :
  Calls Tryz.prog 68 #[.slice A n c] w λe w'=>e = .returned (.bool true)/\A4 w w':=by
 have hri:=λW (hg:A4 w W)=>B6w A rs n L c hn hn1 (by omega) hL1 hrl W (h.grow hg);obtain⟨bb,ob,rfl⟩:=h.addr (by omega);have hrow0:∃(Ar:Option Addr) (cr:Nat),∀W,A4 w W->W.cell? ⟨bb,ob,none⟩=some (.slice Ar L cr):=by
  have hil:0<rs.length:=by omega
  refine⟨rs[0].1,rs[0].2.1,λW hg=>?_⟩;have h3:=((h.grow hg).read (B8i hil)).1;rw[hrl _ (B8G hil),Nat.add_zero]at h3;exact h3
 obtain⟨A0,c0,hrow0⟩:=hrow0;have hni:(0:Int)<(n:Int):=by omega
 have fnz:decide (n=0)=false:=by simp;omega
 have fnp:0<n:=by omega
 have f2:decide ((n:Int)<=300)=true:=by simp;omega
 have f2n:decide (n<=300)=true:=by simp;omega
 have f4:decide ((L:Int)<=20)=true:=by simp;omega
 have f4n:decide (L<=20)=true:=by simp;omega
 have Hri:=B8S hri;have Hrow0:=B8S hrow0;clear hri hrow0 h hrl hn;go_enter Tryz.func68,Tryz.ntmps68;refine en0 ?_;intro u hG hB hF;refine B8N (rsE A8 [0,1,0,0,0,0,0,0,0,0,0,0,0,0,0] hB hG λL hL=>?_);refine gs ?_;refine gmd (C:=λv ⟨hgu,hB,hG,_⟩=>Hri.out _ hG) ?_
 repeat first|refine gya ?_|refine gyr ?_|refine gna ?_|refine gyb (by(rintro v ⟨hgu,hB,hG,-⟩ N hN;have r:=hB.r;simp only[BxR]at r;have q0:=Hrow0.out v hG;go_simp;exact hN)) ?_
 refine geT hL ?_;clear hB hG hL L;rintro u ⟨-,hB,hG,-⟩;refine rt Tryz.results68 ?_;exact⟨rfl,hG⟩
theorem B3x(A:Option Addr)(c:Nat)(w:World):Calls Tryz.prog 68 #[.slice A 0 c] w λe w'=>e = .returned (.bool false)/\A4 w w':=by
 have hri:=λW=>B6h A c W;go_enter Tryz.func68,Tryz.ntmps68;refine en0 ?_;intro u hG hB hF;refine B8N (rsE A8 [0,1,0,0,0,0,0,0,0,0,0,0,0,0,0] hB hG λL hL=>?_);refine gs ?_;refine gmw (C:=λv=>hri _) ?_;refine gs ?_;refine geT hL ?_;clear hB hG hL L;rintro u ⟨-,hB,hG,-⟩;refine rt Tryz.results68 ?_;exact⟨rfl,hG⟩
theorem B4B(A B:Option Addr)(l:List Rat)(n c d:Nat)(hn:l.length=n)(hm:n<=1048576)(hs:∀x∈l,qs x<=LIM)(w:World)(h:Lq w A l)(h':Lz w B l) :
  Calls Tryz.prog 22 #[.slice A n c,.slice B n d] w λe w'=>e = .returned (.bool true)/\A4 w w':=by
 have H:=B8S h;have H':=B8S h';have Hn:=B8S hn;have Hs:=B8S hs;have hne:((n:Int) != (n:Int))=false:=by simp
 clear h h' hn hs;go_enter Tryz.func22,Tryz.ntmps22;refine en0 ?_;intro u hG hB hF;refine B8N ?_;refine r0T ?_;refine B8T (rfl) ?_;refine B8U ?_;refine A6 ?_;refine B8N ?_;refine r0T ?_;refine B8v ?_;go_loopw [5] (λs0 wr=>∃(i:Nat),i<=n/\s0 = .int .i64 i/\A4 w wr) (λs0 _=>n-(intOf s0).toNat)
 case atStart=>exact⟨0,B8k _,rfl,hG⟩
 case round =>
  clear hB hG;obtain⟨i,hi,rfl,hG⟩:=hrel;obtain⟨u,rfl⟩:=exQ wr;have hB:=Bx.nil u;rcases B73 i n with hlt0|hge0
  ·have hdec:decide ((i:Int)<(n:Int))=true:=by simp;omega
   have hil:i<l.length:=by rw[Hn.out];exact hlt0
   have hini:(i:Int)<(n:Int):=by omega
   obtain⟨ba,oa,rfl⟩:=H.out.addr (by omega);obtain⟨bb,ob,rfl⟩:=H'.out.addr (by omega);have h1:=λW (hg:A4 w W)=>(H.out.grow hg).read hil;obtain⟨p,h2⟩:=H'.out.read hil;have z:=Hs.out _ (A2o hil);obtain⟨X,hX⟩:∃X,X=gq l i:=⟨_,rfl⟩
   rw[<-hX]at z;simp only[<-hX]at h1 h2;have H1:=B8S h1;have H2:=B8S h2;clear h1 h2 hX hil;refine B8N ?_;refine r0T ?_;refine B8V (rfl) ?_;refine B8U ?_;refine A6 ?_;refine B8N ?_;refine B8v ?_;refine B8N (rdC A8 [] [(0,0),(0,1),(0,2),(0,3),(0,4),(0,5),(0,6),(0,7),(1,8)] hB hG λK L hN hL=>?_)
   repeat first|refine gya ?_|refine gyr ?_|refine gna ?_|refine gyb (by(rintro v ⟨hgu,hB,hG,-⟩ N hN;have r:=hB.r;simp only[BxR]at r;obtain⟨a1,a2,a3,a4,a5⟩:=H1.out v hG;obtain⟨-,c1,c2,c3⟩:=H2.out v hG;go_simp;exact hN)) ?_
   refine gmd (C:=λv ⟨hgu,hB,hG,_⟩=>A85 X p.1 p.2 z _ (H2.out _ hG).1.a (H2.out _ hG).1.b) ?_;refine geC hL ?_;clear hB hG hL L;rintro u ⟨-,hB,hG,-⟩;refine gtT ?_;clear hN K;refine B8T (rfl) ?_;refine B8U ?_;refine C8 ?_;refine A6 ?_;refine r0E ?_;refine A6 ?_;go_roundw
   case rel=>exact⟨i+1,by omega,by go_num,hG⟩
   case measure=>simp[intOf];try omega
  ·obtain rfl:n=i:=by omega
   have hdec:decide ((n:Int)<(n:Int))=false:=by simp
   skip
   refine B8N ?_;refine r0T ?_;refine B8T (rfl) ?_;refine B8x ?_;refine B7 ?_;refine B7 ?_;refine D0 ?_;refine A6 ?_;refine r0T ?_;refine rt Tryz.results22 ?_;exact⟨rfl,hG⟩
theorem A1C{α:Type}{enc:α->List Value}{B:Nat}{e:TypeId}{g cap n:Nat}(he:∀x,(enc x).length=5){u:World}{ps:List α}(h:u.ownsRow B e 5 (.slice (some ⟨g,0,none⟩) n cap) n (ps.flatMap enc))(hn:n=ps.length)(k:Nat)(hk:k<ps.length) :
  ∃y0 y1 y2 y3 y4,u.cell? ⟨g,k*5,none⟩=some y0/\u.cell? ⟨g,k*5+1,none⟩=some y1/\u.cell? ⟨g,k*5+2,none⟩=some y2/\u.cell? ⟨g,k*5+3,none⟩=some y3/\u.cell? ⟨g,k*5+4,none⟩=some y4/\∀j,u.frozen? ⟨g,j,none⟩=false:=by
 have hl:=he ps[k];have h0:=V6 he h hn k 0 hk (by omega);have h1:=V6 he h hn k 1 hk (by omega);have h2:=V6 he h hn k 2 hk (by omega);have h3:=V6 he h hn k 3 hk (by omega);have h4:=V6 he h hn k 4 hk (by omega);rw[B8i (by omega)]at h0 h1 h2 h3 h4;exact⟨_,_,_,_,_,h0,h1,h2,h3,h4,λj=>h.frozenAt j⟩
theorem A1F(b:Nat):∀(vs:List Value) (i:Nat) (u:World),u.grownBy (C7 u b i vs) (some b)
 | [],_,_=>⟨rfl,rfl,rfl,K2 _,λ_ _ _=>rfl⟩
 | v::vs,i,u=>A3w (u1:=u.setCell ⟨b,i,none⟩ v) ⟨rfl,rfl,rfl,by simp[World.setCell],λk _ hk=>B8F _ _ _ _ (λe=>hk (by simp[e]))⟩ (A1F b vs (i+1) _)
theorem P5{u u':World}{B:Nat}{e:TypeId}{size n b i:Nat}{v:Value}{xs vs:List Value}(h:u.ownsRow B e size v n xs)(hb:v.ownBlock≠some b)(hu:C7 u b i vs=u'):u'.ownsRow B e size v n xs:=by
 subst hu;exact h.kept (A1F b vs i u) (.inr hb)
theorem A9l:(Tryz.prog.info? 48).map (λi=>(i.zero,i.size,i.bytes))=some (some (.agg (qL 0).toArray),5,56):=by kernel_rfl
theorem B14(n:Nat):madeCells (Value.agg (qL 0).toArray).cells (n*5)=((List.replicate n (0:Rat)).flatMap qL).toArray:=by
 unfold madeCells;refine Array.ext (by simp[A1I,show(qL 0).length=5 from rfl]) λi h1 h2=>?_;have h1':i<n*5:=by simpa using h1
 have hg:=A3t (List.replicate n (0:Rat)) (i:=i/5) (q:=0) (by rw[B9f,if_pos (by omega)]) (j:=i%5) (by omega);rw[show i/5*5+i%5=i by omega]at hg;have h3:((List.replicate n (0:Rat)).flatMap qL)[i]?=some ((List.replicate n (0:Rat)).flatMap qL)[i]:=B8i _;rw[h3]at hg;have h4:(qL 0)[i%5]?=some ((qL 0)[i%5]'(by show i%5<5;omega)):=B8i _;rw[h4]at hg;injection hg with hg;simp only[List.getElem_toArray,Value.cells,Array.getElem_ofFn];rw[hg];simp[show(qL 0).length=5 from rfl];rw[h4];rfl
theorem A1R(n:Nat)(hn:n<=1048576)(x:Int)(hx:x=n)(W:World):(Instr.makeSlice 35 (.int .i64 x) (.int .i64 x)).run Tryz.prog W =
  .ok (.slice (some ⟨W.heap.size,0,none⟩) n n) (W.alloc (.cells ((List.replicate n (0:Rat)).flatMap qL).toArray 48)):=by
 obtain⟨i0,hi0,hz0,hz1,hz2⟩:=B8d A9l;have hr:=run_make (P:=Tryz.prog) W 35 48 i0 (.agg (qL 0).toArray) Tryz.underlying35 hi0 hz0 .i64 .i64 n n (by omega) (by omega) (by rw[hz2];omega) (by omega);rw[hx];rw[hr,hz1];simp only[Int.toNat_natCast];rw[B14]
theorem A1H{u v:World}{B n:Nat}(hB:B<=u.heap.size)(hn:n<=1048576)(hv:u.alloc (.cells ((List.replicate n (0:Rat)).flatMap qL).toArray 48)=v):v.ownsRow B 48 5 (.slice (some ⟨u.heap.size,0,none⟩) n n) n ((List.replicate n (0:Rat)).flatMap qL):=by
 subst hv;have h:=World.ownsRow_lit (base:=B) (e:=48) (size:=5) u ((List.replicate n (0:Rat)).flatMap qL).toArray n hB (by unfold maxLen;omega) (by simp[A1I,show(qL 0).length=5 from rfl])
 simpa using h
theorem A4g(w:World)(l:List Rat):Lq (w.alloc (.cells (l.flatMap qL).toArray 48)) (some ⟨w.heap.size,0,none⟩) l:=λ_ =>
 ⟨w.heap.size,0,rfl,by rw[I7];omega,λi q hi j v hj=>by
  have hj5:j<5:=(List.getElem?_eq_some_iff.1 hj).1
  rw[Nat.zero_add,Blk.cell (Blk.new w 48 _),List.getElem?_toArray,A3t l hi hj5,hj]⟩
def K7(f:Nat->Rat)(n i:Nat):List Rat:=(List.range n).map λt=>if t<i then f t else 0
theorem Q0(f:Nat->Rat)(n i:Nat):(K7 f n i).length=n:=by unfold K7;simp
theorem A2E(f:Nat->Rat)(n:Nat):K7 f n 0=List.replicate n 0:=by
 unfold K7;apply B8I
 ·simp
 ·intro i h1 h2;simp
theorem A1m(f:Nat->Rat)(n:Nat):K7 f n n=(List.range n).map f:=by
 unfold K7;refine B96 λj hj=>?_;rw[if_pos (List.mem_range.1 hj)]
theorem A1j{f:Nat->Rat}{n i:Nat}(h:i<n):(K7 f n i).set i (f i)=K7 f n (i+1):=by
 unfold K7;apply B8I
 ·simp
 ·intro j h1 h2;rw[B95];simp only[List.getElem_map,List.getElem_range];by_cases e:i=j
  ·subst e;simp
  ·rw[if_neg e];by_cases hj:j<i
   ·rw[if_pos hj,if_pos (by omega)]
   ·rw[if_neg hj,if_neg (by omega)]
theorem A21(A B:Option Addr)(l l':List Rat)(c d n:Nat)(hl:l.length=n)(hl':l'.length=n)(hm:n<=1048576)(s t:Nat)(hs:∀i,i<n->qs (gq l i)<=s)(hs':∀i,i<n->qs (gq l' i)<=t)(hBz:n*(s+t+1)+s+t+10<=BIG)(w:World)(h:Lq w A l)(h':Lq w B l')(HT:Tab w) :
  Calls Tryz.prog 93 #[.slice A n c,.slice B n d] w λe w'=>e = .returned (.tuple #[qV (E7 l l' n),.bool true])/\A4 w w':=by
 have hM:∀j,j<=n->qs (E7 l l' j)<=n*(s+t+1)+1:=λj hj=>B8K (A0h hs hs' j hj) (Nat.add_le_add_right (B8q _ hj) 1);have hne:((n:Int) != (n:Int))=false:=by simp
 have HM:=B8S hM;have Hs:=B8S hs;have Hs':=B8S hs';have H:=B8S h;have H':=B8S h';have Hl:=B8S hl;have Hl':=B8S hl';clear hM hs hs' h h' hl hl';go_enter Tryz.func93,Tryz.ntmps93;refine en1 ?_;intro u hG b4 hB hF;refine B8N ?_;refine r0T ?_;refine B8T (rfl) ?_;refine B8U ?_;refine A6 ?_;refine B8N (rsE A8 [2] hB hG λL hL=>?_);refine gaa (Q3 _ _ _ _ _) λb6 hb6 hn6=>?_;replace hF:=hF.n1 [] hB hG hb6 hn6;refine geT hL ?_;clear hB hG hL L;rintro u ⟨⟨-,hB,hG,-⟩,h6⟩;replace hB:=hB.cons' h6;clear h6;clear hb6 hn6;refine B8N ?_;refine r0T ?_;refine B8v ?_;go_loopw [17] (λs0 wr=>∃(j:Nat) (S:Rat),j<=n/\s0 = .int .i64 j/\S=E7 l l' j/\Bx wr [(b6,48,A0E S),(b4,48,A4V)]/\A4 w wr) (λs0 _=>n-(intOf s0).toNat)
 case atStart=>exact⟨0,0,B8k _,rfl,rfl,hB,hG⟩
 case round =>
  clear hB hG;obtain⟨j,S,hj,rfl,hS,hB,hG⟩:=hrel;obtain⟨u,rfl⟩:=exQ wr;have z1:=HM.out j hj;rw[<-hS]at z1;rcases B73 j n with hlt|hge
  ·have hdec:decide ((j:Int)<(n:Int))=true:=by simp;omega
   have hjn:(j:Int)<(n:Int):=by omega
   have hjl:j<l.length:=by rw[Hl.out];exact hlt
   have hjl':j<l'.length:=by rw[Hl'.out];exact hlt
   obtain⟨ba,oa,rfl⟩:=H.out.addr (by omega);obtain⟨bb,ob,rfl⟩:=H'.out.addr (by omega);have hrd:∀W,A4 w W->Cq W ba (oa+j*5) (gq l j)/\Cq W bb (ob+j*5) (gq l' j):=λW hg=>⟨(H.out.grow hg).read hjl,(H'.out.grow hg).read hjl'⟩
   have z2:=Hs.out j hlt;have z3:=Hs'.out j hlt;have hnx:=B1w l l' j;rw[<-hS]at hnx;obtain⟨X,hX⟩:∃X,X=gq l j:=⟨_,rfl⟩
   obtain⟨Y,hY⟩:∃X,X=gq l' j:=⟨_,rfl⟩
   simp only[<-hX,<-hY]at hrd;rw[<-hX]at z2 hnx;rw[<-hY]at z3 hnx;have z4:=Y4 X Y;have hml:=λW hT=>A1d X Y W (by omega) hT;obtain⟨D,hD⟩:∃D,D=C3 X Y:=⟨_,rfl⟩
   rw[<-hD]at hnx hml;have z5:qs D<=s+t:=by rw[hD];unfold C3;omega
   have had:=λW hT=>A3g S D W (by omega) hT;have Hrd:=B8S hrd;have Hnx:=B8S hnx;have Hml:=B8S hml;have Had:=B8S had;clear hrd hnx hml had hX hY hD hjl hjl' hS z1 z2 z3 z4 z5;refine r0T ?_;refine B8N ?_;refine B8V (rfl) ?_;refine B8U ?_;refine A6 ?_;refine B8N ?_;refine B8v ?_;refine B8N (rsC A8 [0,0,0,2,0] hB hG λK L hN hL=>?_)
   repeat first|refine gya ?_|refine gyr ?_|refine gna ?_|refine gyb (by(rintro v ⟨hgu,hB,hG,-⟩ N hN;have r:=hB.r;simp only[BxR]at r;obtain⟨⟨q1,q2,q3,q4,q5⟩,⟨y1,y2,y3,y4,y5⟩⟩:=Hrd.out v hG;go_simp;exact hN)) ?_
   refine gaa (Q3 _ _ _ _ _) λb8 hb8 hn8=>?_;refine gs ?_;replace hF:=hF.n1 [] hB hG hb8 hn8;refine geC hL ?_;clear hB hG hL L;rintro u ⟨⟨-,hB,hG,-⟩,h8⟩;replace hB:=hB.cons' h8;clear h8;clear hb8 hn8;refine gtT ?_;clear hN K;refine st hB hF hG 0 0 [_,_,_,_,_] ?_;clear hB hG;intro u hB hG;refine rdC A8 [] [(0,0),(0,1),(0,2),(0,3),(0,4),(0,5),(1,6),(1,7)] hB hG λK L hN hL=>?_
   repeat first|refine gya ?_|refine gyr ?_|refine gna ?_|refine gyb (by(rintro v ⟨hgu,hB,hG,-⟩ N hN;have r:=hB.r;simp only[BxR]at r;obtain⟨⟨q1,q2,q3,q4,q5⟩,⟨y1,y2,y3,y4,y5⟩⟩:=Hrd.out v hG;go_simp;exact hN)) ?_
   refine gmd (C:=λv ⟨hgu,hB,hG,_⟩=>Hml.out _ (HT.grow hG)) ?_;refine gmd (C:=λv ⟨hgu,hB,hG,_⟩=>Had.out _ (HT.grow hG)) ?_;refine geC hL ?_;clear hB hG hL L;rintro u ⟨-,hB,hG,-⟩;refine gt ?_;clear hN K;refine st hB hF hG 1 0 [_,_,_,_,_] ?_;clear hB hG;intro u hB hG;refine C8 ?_;refine A6 ?_;refine r0E ?_;refine A6 ?_;go_roundw
   case rel=>exact⟨j+1,G9 S D,by omega,by go_num,Hnx.out.symm,hB.tail,hG⟩
   case measure=>simp[intOf];omega
  ·obtain rfl:n=j:=by omega
   have hdec:decide ((n:Int)<(n:Int))=false:=by simp
   rw[<-hS];clear hS;refine r0T ?_;refine B8N ?_;refine B8T (rfl) ?_;refine B8x ?_;refine B7 ?_;refine B7 ?_;refine D0 ?_;refine A6 ?_;refine r0T ?_;refine st hB hF hG 1 0 [_,_,_,_,_] ?_;clear hB hG;intro u hB hG;refine rt Tryz.results93 ?_;exact⟨rfl,hG⟩
theorem B7k{a b:Rat}:decide (0<J9 a b)=decide (b<a):=by
 unfold J9;by_cases h1:a<b
 ·rw[if_pos h1];have:¬b<a:=by grind
  simp[this]
 ·rw[if_neg h1];by_cases h2:b<a
  ·rw[if_pos h2];simp[h2]
  ·rw[if_neg h2];simp[h2]
theorem B4L(a b:Rat)(h:qs a+qs b+1<=BIG)(w:World):Calls Tryz.prog 98 #[qV a,qV b] w λe w'=>e = .returned (qV (A1h a b))/\A4 w w':=by
 have hc:=λW=>B2d b a W (by omega);have hz:=@B7k b a;obtain⟨Z,hZ⟩:∃Z,Z=J9 b a:=⟨_,rfl⟩
 rw[<-hZ]at hz;simp only[<-hZ]at hc;have Hc:=B8S hc;clear hc hZ;by_cases hab:a<b
 ·have fZ:decide (0<Z)=true:=by rw[hz];exact B87 hab
  have e:A1h a b=b:=if_pos hab;rw[e];clear hab hz e;go_enter Tryz.func98,Tryz.ntmps98;refine en3 ?_;intro u hG b4 b3 b2 hB hF;refine B8N ?_;refine B8N (rsE A8 [0,0,1,0] hB hG λL hL=>?_);refine gs ?_;refine gmw (C:=λv=>Hc.out _) ?_;refine gs ?_;refine geT hL ?_;clear hB hG hL L;rintro u ⟨-,hB,hG,-⟩;refine B8V (rfl) ?_;refine r0T ?_;refine st hB hF hG 2 0 [_,_,_,_,_] ?_;clear hB hG;intro u hB hG;refine rt Tryz.results98 ?_;exact⟨rfl,hG⟩
 ·have fZ:decide (0<Z)=false:=by rw[hz];exact B9C hab
  have e:A1h a b=a:=if_neg hab;rw[e];clear hab hz e;go_enter Tryz.func98,Tryz.ntmps98;refine en3 ?_;intro u hG b4 b3 b2 hB hF;refine B8N ?_;refine B8N (rsE A8 [0,0,1,0] hB hG λL hL=>?_);refine gs ?_;refine gmw (C:=λv=>Hc.out _) ?_;refine gs ?_;refine geT hL ?_;clear hB hG hL L;rintro u ⟨-,hB,hG,-⟩;refine B8T (rfl) ?_;refine B8U ?_;refine A6 ?_;refine r0T ?_;refine st hB hF hG 2 0 [_,_,_,_,_] ?_;clear hB hG;intro u hB hG;refine rt Tryz.results98 ?_;exact⟨rfl,hG⟩
theorem B1H(A Y:Option Addr)(c M d:Nat)(w:World):Calls Tryz.prog 57 #[.slice A 0 c,.slice Y M d] w λe w'=>e = .returned (.bool false)/\A4 w w':=by
 go_enter Tryz.func57,Tryz.ntmps57;refine en0 ?_;intro u hG hB hF;refine B8N ?_;refine r0T ?_;refine B8V (rfl) ?_;refine r0T ?_;refine rt Tryz.results57 ?_;exact⟨rfl,hG⟩
theorem B2j(A Y:Option Addr)(c N M d:Nat)(hN:1<=N)(hN2:N<=300)(hne:M≠N)(w:World):Calls Tryz.prog 57 #[.slice A N c,.slice Y M d] w λe w'=>e = .returned (.bool false)/\A4 w w':=by
 have f1:decide ((N:Int)<1)=false:=by simp;omega
 have f1n:decide (N=0)=false:=by simp;omega
 have f2:decide ((300:Int)<(N:Int))=false:=by simp;omega
 have f2n:decide (300<N)=false:=by simp;omega
 have f3:((M:Int) != (N:Int))=true:=by simp;omega
 clear hN hN2 hne;go_enter Tryz.func57,Tryz.ntmps57;refine en0 ?_;intro u hG hB hF;refine B8N ?_;refine r0T ?_;refine B8V (rfl) ?_;refine r0T ?_;refine rt Tryz.results57 ?_;exact⟨rfl,hG⟩
theorem A3V(A Y:Option Addr)(rs:List Rq)(N L c d:Nat)(hn:rs.length=N)(hN:1<=N)(hN2:N<=300)(hL1:1<=L)(hL2:L<=20)(hrl:∀r∈rs,r.2.2.length=L)(w:World)(h:Lrq w A rs) :
  Calls Tryz.prog 57 #[.slice A N c,.slice Y N d] w λe w'=>e = .returned (.bool true)/\A4 w w':=by
 obtain⟨bb,ob,rfl⟩:=h.addr (by omega);have hrow:∀i,i<N->∃(Ar:Option Addr) (cr:Nat),∀W,A4 w W->W.cell? ⟨bb,ob+i,none⟩=some (.slice Ar L cr):=λi hi=>by
  have hil:i<rs.length:=by omega
  refine⟨rs[i].1,rs[i].2.1,λW hg=>?_⟩;have h3:=((h.grow hg).read (B8i hil)).1;rw[hrl _ (B8G hil)]at h3;exact h3
 obtain⟨A0,c0,hrow0⟩:=hrow 0 (by omega);rw[Nat.add_zero]at hrow0;have f1:decide ((N:Int)<1)=false:=by simp;omega
 have f1n:decide (N=0)=false:=by simp;omega
 have f2:decide ((300:Int)<(N:Int))=false:=by simp;omega
 have f2n:decide (300<N)=false:=by simp;omega
 have f3:((N:Int) != (N:Int))=false:=by simp
 have f4:decide ((L:Int)<1)=false:=by simp;omega
 have f4n:decide (L=0)=false:=by simp;omega
 have f5:decide ((20:Int)<(L:Int))=false:=by simp;omega
 have f5n:decide (20<L)=false:=by simp;omega
 have f6:((L:Int) != (L:Int))=false:=by simp
 have hni:(0:Int)<(N:Int):=by omega
 have hnp:0<N:=by omega
 have fn:decide ((0:Int)<(N:Int))=true:=by simp;omega
 have fnn:decide (0<N)=true:=by simp;omega
 have Hrow:=B8S hrow;have Hrow0:=B8S hrow0;clear hrow hrow0 h hrl hn;go_enter Tryz.func57,Tryz.ntmps57;refine en0 ?_;intro u hG hB hF;refine B8N ?_;refine r0T ?_;refine B8T (rfl) ?_;refine B8U ?_;refine A6 ?_;refine B8N ?_;have q0:=Hrow0.out u hG;refine r0N ?_;refine B8N ?_;refine r0T ?_;refine B8T (rfl) ?_;refine B8U ?_;refine A6 ?_;refine B8N ?_;refine r0T ?_;refine B8v ?_;clear hB hF;go_loopw [35] (λs0 wr=>∃i:Nat,i<=N/\s0 = .int .i64 i/\A4 w wr) (λs0 _=>N-(intOf s0).toNat)
 case atStart=>exact⟨0,B8k _,rfl,hG⟩
 case round =>
  clear hG;obtain⟨i,hi,rfl,hG⟩:=hrel;obtain⟨u,rfl⟩:=exQ wr;have hB:=Bx.nil u;have hF:=Fr.nil w;rcases B73 i N with hlt|hge
  ·have hdec:decide ((i:Int)<(N:Int))=true:=by simp;omega
   have hiN:(i:Int)<(N:Int):=by omega
   obtain⟨Ar,cr,hrw⟩:=Hrow.out i hlt;have Hrw:=B8S hrw;clear hrw;refine r0T ?_;refine B8N ?_;refine B8V (rfl) ?_;refine B8U ?_;refine A6 ?_;refine B8N ?_;refine B8v ?_;refine B8N ?_;have q0:=Hrow0.out u hG;have q1:=Hrw.out u hG;refine r0N ?_;refine r0T ?_;refine B8T (rfl) ?_;refine B8U ?_;refine C8 ?_;refine A6 ?_;refine r0E ?_;refine A6 ?_;go_roundw
   case rel=>exact⟨i+1,by omega,by go_num,hG⟩
   case measure=>simp[intOf];omega
  ·obtain rfl:N=i:=by omega
   have hdec:decide ((N:Int)<(N:Int))=false:=by simp
   refine r0T ?_;refine B8N ?_;refine B8T (rfl) ?_;refine B8x ?_;refine B7 ?_;refine B7 ?_;refine D0 ?_;refine A6 ?_;refine r0T ?_;refine rt Tryz.results57 ?_;exact⟨rfl,hG⟩
theorem B6N (A Y V : Option Addr) (rs : List Rq) (N L K c d k : Nat) (hn : rs.length = N) (hN : 1 ≤ N) (hN2 : N ≤ 300) (hL1 : 1 ≤ L) (hL2 : L ≤ 20) (hrl : ∀ r ∈ rs, r.2.2.length = L) (a : Rat) (ha : qs a ≤ 10000000) (w : World) (h : Lrq w A rs) :
    Calls Tryz.prog 91 #[.slice A N c,.slice Y N d,.slice V K k,qV a] w λe w'=>e = .returned (.int .i64 (if K≠L then 5 else if a<0 then 1 else 0))/\A4 w w':=by
  have hsh:=λW (hg:A4 w W)=>A3V A Y rs N L c d hn hN hN2 hL1 hL2 hrl W (h.grow hg);obtain⟨bb,ob,rfl⟩:=h.addr (by omega);have hrow0:∃(Ar:Option Addr) (cr:Nat),∀W,A4 w W->W.cell? ⟨bb,ob,none⟩=some (.slice Ar L cr):=by
    have hil:0<rs.length:=by omega
    refine⟨rs[0].1,rs[0].2.1,λW hg=>?_⟩;have h3:=((h.grow hg).read (B8i hil)).1;rw[hrl _ (B8G hil),Nat.add_zero]at h3;exact h3
  obtain⟨A0,c0,hrow0⟩:=hrow0;have hni:(0:Int)<(N:Int):=by omega
  have hnp:0<N:=by omega
  have fn:decide ((0:Int)<(N:Int))=true:=by simp;omega
  have fnn:decide (0<N)=true:=by simp;omega
  have hsg:=λW=>U4 a (by have:=G6 a;omega) W;have hneg:=@A2q a
  have hrg : a.num.sign = -1 ∨ a.num.sign = 0 ∨ a.num.sign = 1 := by rcases B9W a.num 0 with h | h | h
                                                                     · exact .inl (Int.sign_eq_neg_one_iff_neg.2 h)
                                                                     · exact .inr (.inl (by rw[h];rfl))
                                                                     · exact .inr (.inr (Int.sign_eq_one_iff_pos.2 h))
  obtain⟨S,hS⟩:∃S,S=a.num.sign:=⟨_,rfl⟩
  simp only[<-hS]at hsg;rw[<-hS]at hneg hrg;have Hsh:=B8S hsh;have Hrow0:=B8S hrow0;have Hsg:=B8S hsg;clear hsh hrow0 h hrl hn hsg hS;by_cases hK:K=L
  · subst hK
    have f1:((K:Int) != (K:Int))=false:=by simp
    rw[if_neg (by simp)];by_cases h0:a<0
    · have f2:decide (S<0)=true:=by rw[hneg.2 h0];rfl
      rw[if_pos h0];clear hneg hrg h0;go_enter Tryz.func91,Tryz.ntmps91;refine en1 ?_;intro u hG b7 hB hF;refine B8N ?_;refine B8N (rsE A8 [0,0,1,0,0,0,0,0,0,0,0,0,0] hB hG λL hL=>?_);refine gs ?_;refine gmd (C:=λv ⟨hgu,hB,hG,_⟩=>Hsh.out _ hG) ?_
      repeat first|refine gya ?_|refine gyr ?_|refine gna ?_|refine gyb (by(rintro v ⟨hgu,hB,hG,-⟩ N hN;have r:=hB.r;simp only[BxR]at r;have q0:=Hrow0.out v hG;go_simp;exact hN)) ?_
      refine geT hL ?_;clear hB hG hL L;rintro u ⟨-,hB,hG,-⟩;refine B8T (rfl) ?_;refine B8U ?_;refine A6 ?_;refine B8N ?_;refine B8N (rsE A8 [0,1,0] hB hG λL hL=>?_)
      repeat first|refine gya ?_|refine gyr ?_|refine gna ?_|refine gyb (by(rintro v ⟨hgu,hB,hG,-⟩ N hN;have r:=hB.r;simp only[BxR]at r;have q0:=Hrow0.out v hG;go_simp;exact hN)) ?_
      refine gmw (C:=λv=>Hsg.out _) ?_;refine gs ?_;refine geT hL ?_;clear hB hG hL L;rintro u ⟨-,hB,hG,-⟩;refine B8V (rfl) ?_;refine r0T ?_;refine rt Tryz.results91 ?_;exact⟨rfl,hG⟩
    · have f2 : decide (S < 0) = false := by
        have:S ≠ -1:=λe=>h0 (hneg.1 e);simp;omega
      rw[if_neg h0];clear hneg hrg h0;go_enter Tryz.func91,Tryz.ntmps91;refine en1 ?_;intro u hG b7 hB hF;refine B8N ?_;refine B8N (rsE A8 [0,0,1,0,0,0,0,0,0,0,0,0,0] hB hG λL hL=>?_);refine gs ?_;refine gmd (C:=λv ⟨hgu,hB,hG,_⟩=>Hsh.out _ hG) ?_
      repeat first|refine gya ?_|refine gyr ?_|refine gna ?_|refine gyb (by(rintro v ⟨hgu,hB,hG,-⟩ N hN;have r:=hB.r;simp only[BxR]at r;have q0:=Hrow0.out v hG;go_simp;exact hN)) ?_
      refine geT hL ?_;clear hB hG hL L;rintro u ⟨-,hB,hG,-⟩;refine B8T (rfl) ?_;refine B8U ?_;refine A6 ?_;refine B8N ?_;refine B8N (rsE A8 [0,1,0] hB hG λL hL=>?_)
      repeat first|refine gya ?_|refine gyr ?_|refine gna ?_|refine gyb (by(rintro v ⟨hgu,hB,hG,-⟩ N hN;have r:=hB.r;simp only[BxR]at r;have q0:=Hrow0.out v hG;go_simp;exact hN)) ?_
      refine gmw (C:=λv=>Hsg.out _) ?_;refine gs ?_;refine geT hL ?_;clear hB hG hL L;rintro u ⟨-,hB,hG,-⟩;refine B8T (rfl) ?_;refine B8U ?_;refine A6 ?_;refine r0T ?_;refine rt Tryz.results91 ?_;exact⟨rfl,hG⟩
  · have f1:((K:Int) != (L:Int))=true:=by simp;omega
    rw[if_pos hK];clear hK hneg hrg;go_enter Tryz.func91,Tryz.ntmps91;refine en1 ?_;intro u hG b7 hB hF;refine B8N ?_;refine B8N (rsE A8 [0,0,1,0,0,0,0,0,0,0,0,0,0] hB hG λL hL=>?_);refine gs ?_;refine gmd (C:=λv ⟨hgu,hB,hG,_⟩=>Hsh.out _ hG) ?_
    repeat first|refine gya ?_|refine gyr ?_|refine gna ?_|refine gyb (by(rintro v ⟨hgu,hB,hG,-⟩ N hN;have r:=hB.r;simp only[BxR]at r;have q0:=Hrow0.out v hG;go_simp;exact hN)) ?_
    refine geT hL ?_;clear hB hG hL L;rintro u ⟨-,hB,hG,-⟩;refine B8V (rfl) ?_;refine r0T ?_;refine rt Tryz.results91 ?_;exact⟨rfl,hG⟩
end Go.Proofs.YtgpglgbcobeogaaGreatDoor
