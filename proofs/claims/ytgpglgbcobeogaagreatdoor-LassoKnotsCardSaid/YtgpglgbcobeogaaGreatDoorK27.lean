import Derived.Test.YtgpglgbcobeogaaGreatDoorK26
set_option linter.unusedSimpArgs false
set_option linter.unusedVariables false
set_option maxHeartbeats 4000000
set_option maxRecDepth 100000
namespace Go.Proofs.YtgpglgbcobeogaaGreatDoor
open Go Go.RowKit
def B7(rs:List (List Rat))(i:Nat):List Rat:=(rs[i]?).getD []
def F5(a b:List Rat)(n:Nat):Rat:=C8 (λi=>D5 (gq a i) (gq b i)) n
theorem B6c(a b:List Rat)(n:Nat):F5 a b (n+1)=H9 (F5 a b n) (D5 (gq a n) (gq b n)):=rfl
theorem A8n(a b:List Rat)(n:Nat):F5 a b n=F5 b a n:=G8 λi _=>by unfold D5;exact Rat.mul_comm _ _
theorem A1i{a b:List Rat}{n s t:Nat}(ha:∀i,i<n->qs (gq a i)<=s)(hb:∀i,i<n->qs (gq b i)<=t):∀j,j<=n->qs (F5 a b j)<=j*(s+t+1)+1:=λj hj =>
 A71 _ (s+t) n (λi hi=>B9l (Z4 _ _) (Nat.add_le_add (ha i hi) (hb i hi))) j hj
theorem S9(f:Nat->Rat){n i:Nat}(h:i<n):gq ((List.range n).map f) i=f i:=by
 show((((List.range n).map f)[i]?).getD 0)=_;simp[h]
def A07(X:List (List Rat))(y w:List Rat)(n L:Nat):List Rat:=(List.range n).map λi=>C4 (gq y i) (F5 w (B7 X i) L)
def J7(X:List (List Rat))(j n:Nat):List Rat:=(List.range n).map λi=>gq (B7 X i) j
def X9(X:List (List Rat))(y w:List Rat)(n L:Nat):List Rat:=(List.range L).map λj=>F5 (J7 X j n) (A07 X y w n L) n
def U9(a b:Rat):Rat:=if a<b then b else a
def X4(p:List Rat):Nat->Rat
 | 0=>0
 | n+1=>U9 (X4 p n) (Z7 (gq p n))
def T8(n:Nat):List Rat:=List.replicate n 0
def J5(X:List (List Rat))(y:List Rat)(n L:Nat):Rat:=X4 (X9 X y (T8 L) n L) L
def A3D(p w a:Rat):Bool:=if 0<w then decide (p=a)else if w<0 then decide (p=K5 a)else decide (Z7 p<=a)
def A0V(f:Nat->Bool):Nat->Nat->Nat
 | 0,i=>i
 | k+1,i=>if f i then A0V f k (i+1)else i
theorem A4o(f:Nat->Bool)(k i:Nat):i<=A0V f k i/\A0V f k i<=i+k/\(∀j,i<=j->j<A0V f k i->f j=true)/\(A0V f k i<i+k->f (A0V f k i)=false):=by
 induction k generalizing i with
 | zero=>exact⟨K2 _,K2 _,λj h1 h2=>absurd h2 (by simp[A0V];omega),λh=>absurd h (by simp[A0V])⟩
 | succ k ih =>
  unfold A0V
  cases hf:f i with
  | true =>
   rw[if_pos rfl];obtain⟨h1,h2,h3,h4⟩:=ih (i+1);refine⟨by omega,by omega,λj h5 h6=>?_,λh5=>h4 (by omega)⟩;rcases C1a h5 with h|h
   ·rw[<-h];exact hf
   ·exact h3 j h h6
  | false =>
   rw[if_neg (by simp)];exact⟨K2 _,by omega,λj h5 h6=>absurd h6 (by omega),λ_=>hf⟩
theorem B5l(X:List (List Rat))(y w:List Rat)(n L:Nat):(A07 X y w n L).length=n:=by unfold A07;simp
theorem B8g(X:List (List Rat))(j n:Nat):(J7 X j n).length=n:=by unfold J7;simp
theorem A8P(X:List (List Rat))(y w:List Rat)(n L:Nat):(X9 X y w n L).length=L:=by unfold X9;simp
theorem B0o(X:List (List Rat))(y w:List Rat)(n L:Nat){i:Nat}(h:i<n):gq (A07 X y w n L) i=C4 (gq y i) (F5 w (B7 X i) L):=S9 _ h
theorem A1e(X:List (List Rat))(j n:Nat){i:Nat}(h:i<n):gq (J7 X j n) i=gq (B7 X i) j:=S9 _ h
theorem A9k(X:List (List Rat))(y w:List Rat)(n L:Nat){j:Nat}(h:j<L):gq (X9 X y w n L) j=F5 (J7 X j n) (A07 X y w n L) n:=S9 _ h
theorem B1L(n i:Nat):gq (T8 n) i=0:=by
 unfold gq T8;rw[C06];split<;>rfl
theorem B0U(a:Rat):qs (Z7 a)=qs a:=by
 unfold Z7 Rat.abs;split
 ·rfl
 ·exact A3G a
theorem A7v{X:List (List Rat)}{y w:List Rat}{n L s:Nat}(hn:n<=20)(hL:L<=20)(hs:s<=10000000)(hX:∀i,i<n->∀j,j<L->qs (gq (B7 X i) j)<=s)(hy:∀i,i<n->qs (gq y i)<=s)(hw:∀j,j<L->qs (gq w j)<=s):∀i,i<n->qs (gq (A07 X y w n L) i)<=500000000:=λi hi=>by
 rw[B0o X y w n L hi];have h1:=A1i (a:=w) (b:=B7 X i) (n:=L) hw (hX i hi) L (K2 _);have h2:=A0G (gq y i) (F5 w (B7 X i) L);have h3:=hy i hi;have h4:L*(s+s+1)<=20*(s+s+1):=C0H _ hL;unfold C4;omega
theorem B4o{X:List (List Rat)}{y w:List Rat}{n L s:Nat}(hn:n<=20)(hL:L<=20)(hs:s<=10000000)(hX:∀i,i<n->∀j,j<L->qs (gq (B7 X i) j)<=s)(hy:∀i,i<n->qs (gq y i)<=s)(hw:∀j,j<L->qs (gq w j)<=s):∀j,j<L->qs (gq (X9 X y w n L) j)<=11000000000:=λj hj=>by
 rw[A9k X y w n L hj];have h0:=A7v hn hL hs hX hy hw;have h1:=A1i (a:=J7 X j n) (b:=A07 X y w n L) (n:=n) (s:=s) (t:=500000000) (λi hi=>by rw[A1e X j n hi];exact hX i hi j hj) h0 n (K2 _);have h4:n*(s+500000000+1)<=20*(s+500000000+1):=C0H _ hn;omega
theorem B4m{a b:Rat}{s:Nat}(h1:qs a<=s)(h2:qs b<=s):qs (U9 a b)<=s:=by unfold U9;split<;>assumption
theorem A5h{p:List Rat}{n s:Nat}(hs:1<=s)(h:∀j,j<n->qs (gq p j)<=s):∀j,j<=n->qs (X4 p j)<=s
 | 0,_=>by rw[X4,A3A];exact hs
 | j+1,hj=>B4m (A5h hs h j (by omega)) (by rw[B0U];exact h j (by omega))
theorem B3i{a b:Rat}:(H6 a b == 0)=decide (a=b):=by
 unfold H6;by_cases h1:a<b
 ·rw[if_pos h1];have:¬a=b:=λh=>by rw[h]at h1;exact Rat.lt_irrefl h1
  simp[this]
 ·rw[if_neg h1];by_cases h2:b<a
  ·rw[if_pos h2];have:¬a=b:=λh=>by rw[h]at h2;exact Rat.lt_irrefl h2
   simp[this]
  ·rw[if_neg h2];have:a=b:=by grind
   simp[this]
theorem B7r{w:Rat}:w.num.sign=1↔0<w:=by
 rw[Int.sign_eq_one_iff_pos,Rat.lt_iff];simp
theorem A6P{w:Rat}:w.num.sign = -1↔w<0:=by
 rw[Int.sign_eq_neg_one_iff_neg,Rat.lt_iff];simp
theorem A0X{α:Type}{enc:α->List Value}{B:Nat}{e:TypeId}{g cap n:Nat}(he:∀x,(enc x).length=5){u:World}{ps:List α}(h:u.ownsRow B e 5 (.slice (some ⟨g,0,none⟩) n cap) n (ps.flatMap enc))(hn:n=ps.length)(k:Nat)(hk:k<ps.length) :
  ∃y0 y1 y2 y3 y4,u.cell? ⟨g,k*5,none⟩=some y0/\u.cell? ⟨g,k*5+1,none⟩=some y1/\u.cell? ⟨g,k*5+2,none⟩=some y2/\u.cell? ⟨g,k*5+3,none⟩=some y3/\u.cell? ⟨g,k*5+4,none⟩=some y4/\∀j,u.frozen? ⟨g,j,none⟩=false:=by
 have hl:=he ps[k];have h0:=A0E he h hn k 0 hk (by omega);have h1:=A0E he h hn k 1 hk (by omega);have h2:=A0E he h hn k 2 hk (by omega);have h3:=A0E he h hn k 3 hk (by omega);have h4:=A0E he h hn k 4 hk (by omega);rw[B99 (by omega)]at h0 h1 h2 h3 h4;exact⟨_,_,_,_,_,h0,h1,h2,h3,h4,λj=>h.frozenAt j⟩
theorem X7(b:Nat):∀(vs:List Value) (i:Nat) (u:World),u.grownBy (C3 u b i vs) (some b)
 | [],_,_=>⟨rfl,rfl,rfl,K2 _,λ_ _ _=>rfl⟩
 | v::vs,i,u=>A3U (u1:=u.setCell ⟨b,i,none⟩ v) ⟨rfl,rfl,rfl,by simp[World.setCell],λk _ hk=>B9g _ _ _ _ (λe=>hk (by simp[e]))⟩ (X7 b vs (i+1) _)
theorem I9{u u':World}{B:Nat}{e:TypeId}{size n b i:Nat}{v:Value}{xs vs:List Value}(h:u.ownsRow B e size v n xs)(hb:v.ownBlock≠some b)(hu:C3 u b i vs=u'):u'.ownsRow B e size v n xs:=by
 subst hu;exact h.kept (X7 b vs i u) (.inr hb)
theorem A5m:(Tryz.prog.info? 48).map (λi=>(i.zero,i.size,i.bytes))=some (some (.agg (qL 0).toArray),5,56):=by kernel_rfl
theorem B4X(n:Nat):madeCells (Value.agg (qL 0).toArray).cells (n*5)=((List.replicate n (0:Rat)).flatMap qL).toArray:=by
 unfold madeCells;refine Array.ext (by simp[A0A,show(qL 0).length=5 from rfl]) λi h1 h2=>?_;have h1':i<n*5:=by simpa using h1
 have hg:=A3H (List.replicate n (0:Rat)) (i:=i/5) (q:=0) (by rw[C06,if_pos (by omega)]) (j:=i%5) (by omega);rw[show i/5*5+i%5=i by omega]at hg;have h3:((List.replicate n (0:Rat)).flatMap qL)[i]?=some ((List.replicate n (0:Rat)).flatMap qL)[i]:=B99 _;rw[h3]at hg;have h4:(qL 0)[i%5]?=some ((qL 0)[i%5]'(by show i%5<5;omega)):=B99 _;rw[h4]at hg;injection hg with hg;simp only[List.getElem_toArray,Value.cells,Array.getElem_ofFn];rw[hg];simp[show(qL 0).length=5 from rfl];rw[h4];rfl
theorem A1O(n:Nat)(hn:n<=1048576)(x:Int)(hx:x=n)(W:World):(Instr.makeSlice 35 (.int .i64 x) (.int .i64 x)).run Tryz.prog W =
  .ok (.slice (some ⟨W.heap.size,0,none⟩) n n) (W.alloc (.cells ((List.replicate n (0:Rat)).flatMap qL).toArray 48)):=by
 obtain⟨i0,hi0,hz0,hz1,hz2⟩:=B94 A5m;have hr:=run_make (P:=Tryz.prog) W 35 48 i0 (.agg (qL 0).toArray) Tryz.underlying35 hi0 hz0 .i64 .i64 n n (by omega) (by omega) (by rw[hz2];omega) (by omega);rw[hx];rw[hr,hz1];simp only[Int.toNat_natCast];rw[B4X]
theorem A03{u v:World}{B n:Nat}(hB:B<=u.heap.size)(hn:n<=1048576)(hv:u.alloc (.cells ((List.replicate n (0:Rat)).flatMap qL).toArray 48)=v):v.ownsRow B 48 5 (.slice (some ⟨u.heap.size,0,none⟩) n n) n ((List.replicate n (0:Rat)).flatMap qL):=by
 subst hv;have h:=World.ownsRow_lit (base:=B) (e:=48) (size:=5) u ((List.replicate n (0:Rat)).flatMap qL).toArray n hB (by unfold maxLen;omega) (by simp[A0A,show(qL 0).length=5 from rfl])
 simpa using h
theorem A4m(w:World)(l:List Rat):Lq (w.alloc (.cells (l.flatMap qL).toArray 48)) (some ⟨w.heap.size,0,none⟩) l:=λ_ =>
 ⟨w.heap.size,0,rfl,by rw[K6];omega,λi q hi j v hj=>by
  have hj5:j<5:=(List.getElem?_eq_some_iff.1 hj).1
  rw[Nat.zero_add,Blk.cell (Blk.new w 48 _),List.getElem?_toArray,A3H l hi hj5,hj]⟩
def M5(f:Nat->Rat)(n i:Nat):List Rat:=(List.range n).map λt=>if t<i then f t else 0
theorem O1(f:Nat->Rat)(n i:Nat):(M5 f n i).length=n:=by unfold M5;simp
theorem A17(f:Nat->Rat)(n:Nat):M5 f n 0=List.replicate n 0:=by
 unfold M5;apply B9j
 ·simp
 ·intro i h1 h2;simp
theorem A2O(f:Nat->Rat)(n:Nat):M5 f n n=(List.range n).map f:=by
 unfold M5;refine C1X λj hj=>?_;rw[if_pos (List.mem_range.1 hj)]
theorem A14{f:Nat->Rat}{n i:Nat}(h:i<n):(M5 f n i).set i (f i)=M5 f n (i+1):=by
 unfold M5;apply B9j
 ·simp
 ·intro j h1 h2;rw[C1W];simp only[List.getElem_map,List.getElem_range];by_cases e:i=j
  ·subst e;simp
  ·rw[if_neg e];by_cases hj:j<i
   ·rw[if_pos hj,if_pos (by omega)]
   ·rw[if_neg hj,if_neg (by omega)]
theorem A31(A B:Option Addr)(l l':List Rat)(c d n:Nat)(hl:l.length=n)(hl':l'.length=n)(hm:n<=1048576)(s t:Nat)(hs:∀i,i<n->qs (gq l i)<=s)(hs':∀i,i<n->qs (gq l' i)<=t)(hBz:n*(s+t+1)+s+t+10<=BIG)(w:World)(h:Lq w A l)(h':Lq w B l')(HT:Tab w) :
  Calls Tryz.prog 93 #[.slice A n c,.slice B n d] w λe w'=>e = .returned (.tuple #[qV (F5 l l' n),.bool true])/\A4 w w':=by
 have hM:∀j,j<=n->qs (F5 l l' j)<=n*(s+t+1)+1:=λj hj=>B9l (A1i hs hs' j hj) (Nat.add_le_add_right (C0H _ hj) 1);have hne:((n:Int) != (n:Int))=false:=by simp
 have HM:=B9t hM;have Hs:=B9t hs;have Hs':=B9t hs';have H:=B9t h;have H':=B9t h';have Hl:=B9t hl;have Hl':=B9t hl';clear hM hs hs' h h' hl hl';go_enter Tryz.func93,Tryz.ntmps93;refine en1 ?_;intro u hG b4 hB hF;refine B9o ?_;refine r0T ?_;refine B9u (rfl) ?_;refine B9v ?_;refine A6 ?_;refine B9o (rsE A8 [2] hB hG λL hL=>?_);refine gaa (J3 _ _ _ _ _) λb6 hb6 hn6=>?_;replace hF:=hF.n1 [] hB hG hb6 hn6;refine geT hL ?_;clear hB hG hL L;rintro u ⟨⟨-,hB,hG,-⟩,h6⟩;replace hB:=hB.cons' h6;clear h6;clear hb6 hn6;refine B9o ?_;refine r0T ?_;refine C0M ?_;go_loopw [17] (λs0 wr=>∃(j:Nat) (S:Rat),j<=n/\s0 = .int .i64 j/\S=F5 l l' j/\Bx wr [(b6,48,U7 S),(b4,48,A5H)]/\A4 w wr) (λs0 _=>n-(intOf s0).toNat)
 case atStart=>exact⟨0,0,C0B _,rfl,rfl,hB,hG⟩
 case round =>
  clear hB hG;obtain⟨j,S,hj,rfl,hS,hB,hG⟩:=hrel;obtain⟨u,rfl⟩:=exQ wr;have z1:=HM.out j hj;rw[<-hS]at z1;rcases B9U j n with hlt|hge
  ·have hdec:decide ((j:Int)<(n:Int))=true:=by simp;omega
   have hjn:(j:Int)<(n:Int):=by omega
   have hjl:j<l.length:=by rw[Hl.out];exact hlt
   have hjl':j<l'.length:=by rw[Hl'.out];exact hlt
   obtain⟨ba,oa,rfl⟩:=H.out.addr (by omega);obtain⟨bb,ob,rfl⟩:=H'.out.addr (by omega);have hrd:∀W,A4 w W->Cq W ba (oa+j*5) (gq l j)/\Cq W bb (ob+j*5) (gq l' j):=λW hg=>⟨(H.out.grow hg).read hjl,(H'.out.grow hg).read hjl'⟩
   have z2:=Hs.out j hlt;have z3:=Hs'.out j hlt;have hnx:=B6c l l' j;rw[<-hS]at hnx;obtain⟨X,hX⟩:∃X,X=gq l j:=⟨_,rfl⟩
   obtain⟨Y,hY⟩:∃X,X=gq l' j:=⟨_,rfl⟩
   simp only[<-hX,<-hY]at hrd;rw[<-hX]at z2 hnx;rw[<-hY]at z3 hnx;have z4:=Z4 X Y;have hml:=λW hT=>A1D X Y W (by omega) hT;obtain⟨D,hD⟩:∃D,D=D5 X Y:=⟨_,rfl⟩
   rw[<-hD]at hnx hml;have z5:qs D<=s+t:=by rw[hD];unfold D5;omega
   have had:=λW hT=>A3N S D W (by omega) hT;have Hrd:=B9t hrd;have Hnx:=B9t hnx;have Hml:=B9t hml;have Had:=B9t had;clear hrd hnx hml had hX hY hD hjl hjl' hS z1 z2 z3 z4 z5;refine r0T ?_;refine B9o ?_;refine B9w (rfl) ?_;refine B9v ?_;refine A6 ?_;refine B9o ?_;refine C0M ?_;refine B9o (rsC A8 [0,0,0,2,0] hB hG λK L hN hL=>?_)
   repeat first|refine gya ?_|refine gyr ?_|refine gna ?_|refine gyb (by(rintro v ⟨hgu,hB,hG,-⟩ N hN;have r:=hB.r;simp only[BxR]at r;obtain⟨⟨q1,q2,q3,q4,q5⟩,⟨y1,y2,y3,y4,y5⟩⟩:=Hrd.out v hG;go_simp;exact hN)) ?_
   refine gaa (J3 _ _ _ _ _) λb8 hb8 hn8=>?_;refine gs ?_;replace hF:=hF.n1 [] hB hG hb8 hn8;refine geC hL ?_;clear hB hG hL L;rintro u ⟨⟨-,hB,hG,-⟩,h8⟩;replace hB:=hB.cons' h8;clear h8;clear hb8 hn8;refine gtT ?_;clear hN K;refine st hB hF hG 0 0 [_,_,_,_,_] ?_;clear hB hG;intro u hB hG;refine rdC A8 [] [(0,0),(0,1),(0,2),(0,3),(0,4),(0,5),(1,6),(1,7)] hB hG λK L hN hL=>?_
   repeat first|refine gya ?_|refine gyr ?_|refine gna ?_|refine gyb (by(rintro v ⟨hgu,hB,hG,-⟩ N hN;have r:=hB.r;simp only[BxR]at r;obtain⟨⟨q1,q2,q3,q4,q5⟩,⟨y1,y2,y3,y4,y5⟩⟩:=Hrd.out v hG;go_simp;exact hN)) ?_
   refine gmd (C:=λv ⟨hgu,hB,hG,_⟩=>Hml.out _ (HT.grow hG)) ?_;refine gmd (C:=λv ⟨hgu,hB,hG,_⟩=>Had.out _ (HT.grow hG)) ?_;refine geC hL ?_;clear hB hG hL L;rintro u ⟨-,hB,hG,-⟩;refine gt ?_;clear hN K;refine st hB hF hG 1 0 [_,_,_,_,_] ?_;clear hB hG;intro u hB hG;refine C7 ?_;refine A6 ?_;refine r0E ?_;refine A6 ?_;go_roundw
   case rel=>exact⟨j+1,H9 S D,by omega,by go_num,Hnx.out.symm,hB.tail,hG⟩
   case measure=>simp[intOf];omega
  ·obtain rfl:n=j:=by omega
   have hdec:decide ((n:Int)<(n:Int))=false:=by simp
   rw[<-hS];clear hS;refine r0T ?_;refine B9o ?_;refine B9u (rfl) ?_;refine C0O ?_;refine B9 ?_;refine B9 ?_;refine E3 ?_;refine A6 ?_;refine r0T ?_;refine st hB hF hG 1 0 [_,_,_,_,_] ?_;clear hB hG;intro u hB hG;refine rt Tryz.results93 ?_;exact⟨rfl,hG⟩
theorem B3o{a b:Rat}:decide (0<H6 a b)=decide (b<a):=by
 unfold H6;by_cases h1:a<b
 ·rw[if_pos h1];have:¬b<a:=by grind
  simp[this]
 ·rw[if_neg h1];by_cases h2:b<a
  ·rw[if_pos h2];simp[h2]
  ·rw[if_neg h2];simp[h2]
theorem A77(a b:Rat)(h:qs a+qs b+1<=BIG)(w:World):Calls Tryz.prog 98 #[qV a,qV b] w λe w'=>e = .returned (qV (U9 a b))/\A4 w w':=by
 have hc:=λW=>A1A b a W (by omega);have hz:=@B3o b a;obtain⟨Z,hZ⟩:∃Z,Z=H6 b a:=⟨_,rfl⟩
 rw[<-hZ]at hz;simp only[<-hZ]at hc;have Hc:=B9t hc;clear hc hZ;by_cases hab:a<b
 ·have fZ:decide (0<Z)=true:=by rw[hz];exact C0Y hab
  have e:U9 a b=b:=if_pos hab;rw[e];clear hab hz e;go_enter Tryz.func98,Tryz.ntmps98;refine en3 ?_;intro u hG b4 b3 b2 hB hF;refine B9o ?_;refine B9o (rsE A8 [0,0,1,0] hB hG λL hL=>?_);refine gs ?_;refine gmw (C:=λv=>Hc.out _) ?_;refine gs ?_;refine geT hL ?_;clear hB hG hL L;rintro u ⟨-,hB,hG,-⟩;refine B9w (rfl) ?_;refine r0T ?_;refine st hB hF hG 2 0 [_,_,_,_,_] ?_;clear hB hG;intro u hB hG;refine rt Tryz.results98 ?_;exact⟨rfl,hG⟩
 ·have fZ:decide (0<Z)=false:=by rw[hz];exact C0d hab
  have e:U9 a b=a:=if_neg hab;rw[e];clear hab hz e;go_enter Tryz.func98,Tryz.ntmps98;refine en3 ?_;intro u hG b4 b3 b2 hB hF;refine B9o ?_;refine B9o (rsE A8 [0,0,1,0] hB hG λL hL=>?_);refine gs ?_;refine gmw (C:=λv=>Hc.out _) ?_;refine gs ?_;refine geT hL ?_;clear hB hG hL L;rintro u ⟨-,hB,hG,-⟩;refine B9u (rfl) ?_;refine B9v ?_;refine A6 ?_;refine r0T ?_;refine st hB hF hG 2 0 [_,_,_,_,_] ?_;clear hB hG;intro u hB hG;refine rt Tryz.results98 ?_;exact⟨rfl,hG⟩
theorem A6G(A Y:Option Addr)(rs:List Rq)(N L c d:Nat)(hn:rs.length=N)(hN:1<=N)(hN2:N<=300)(hL1:1<=L)(hL2:L<=20)(hrl:∀r∈rs,r.2.2.length=L)(w:World)(h:Lrq w A rs) :
  Calls Tryz.prog 57 #[.slice A N c,.slice Y N d] w λe w'=>e = .returned (.bool true)/\A4 w w':=by
 obtain⟨bb,ob,rfl⟩:=h.addr (by omega);have hrow:∀i,i<N->∃(Ar:Option Addr) (cr:Nat),∀W,A4 w W->W.cell? ⟨bb,ob+i,none⟩=some (.slice Ar L cr):=λi hi=>by
  have hil:i<rs.length:=by omega
  refine⟨rs[i].1,rs[i].2.1,λW hg=>?_⟩;have h3:=((h.grow hg).read (B99 hil)).1;rw[hrl _ (B9h hil)]at h3;exact h3
 obtain⟨A0,c0,hrow0⟩:=hrow 0 (by omega);rw[Nat.add_zero]at hrow0;have f1:decide ((N:Int)<1)=false:=by simp;omega
 have f1n:decide (N=0)=false:=by simp;omega
 have f2:decide ((300:Int)<(N:Int))=false:=by simp;omega
 have f2n:decide (300<N)=false:=by simp;omega
 have f3:((N:Int) != (N:Int))=false:=by simp
 have f4:decide ((L:Int)<1)=false:=by simp;omega
 have f4n:decide (L=0)=false:=by simp;omega
 have f5:decide ((20:Int)<(L:Int))=false:=by simp;omega
 have f5n:decide (20<L)=false:=by simp;omega
 have f6:((L:Int) != (L:Int))=false:=by simp
 have hni:(0:Int)<(N:Int):=by omega
 have hnp:0<N:=by omega
 have fn:decide ((0:Int)<(N:Int))=true:=by simp;omega
 have fnn:decide (0<N)=true:=by simp;omega
 have Hrow:=B9t hrow;have Hrow0:=B9t hrow0;clear hrow hrow0 h hrl hn;go_enter Tryz.func57,Tryz.ntmps57;refine en0 ?_;intro u hG hB hF;refine B9o ?_;refine r0T ?_;refine B9u (rfl) ?_;refine B9v ?_;refine A6 ?_;refine B9o ?_;have q0:=Hrow0.out u hG;refine r0N ?_;refine B9o ?_;refine r0T ?_;refine B9u (rfl) ?_;refine B9v ?_;refine A6 ?_;refine B9o ?_;refine r0T ?_;refine C0M ?_;clear hB hF;go_loopw [35] (λs0 wr=>∃i:Nat,i<=N/\s0 = .int .i64 i/\A4 w wr) (λs0 _=>N-(intOf s0).toNat)
 case atStart=>exact⟨0,C0B _,rfl,hG⟩
 case round =>
  clear hG;obtain⟨i,hi,rfl,hG⟩:=hrel;obtain⟨u,rfl⟩:=exQ wr;have hB:=Bx.nil u;have hF:=Fr.nil w;rcases B9U i N with hlt|hge
  ·have hdec:decide ((i:Int)<(N:Int))=true:=by simp;omega
   have hiN:(i:Int)<(N:Int):=by omega
   obtain⟨Ar,cr,hrw⟩:=Hrow.out i hlt;have Hrw:=B9t hrw;clear hrw;refine r0T ?_;refine B9o ?_;refine B9w (rfl) ?_;refine B9v ?_;refine A6 ?_;refine B9o ?_;refine C0M ?_;refine B9o ?_;have q0:=Hrow0.out u hG;have q1:=Hrw.out u hG;refine r0N ?_;refine r0T ?_;refine B9u (rfl) ?_;refine B9v ?_;refine C7 ?_;refine A6 ?_;refine r0E ?_;refine A6 ?_;go_roundw
   case rel=>exact⟨i+1,by omega,by go_num,hG⟩
   case measure=>simp[intOf];omega
  ·obtain rfl:N=i:=by omega
   have hdec:decide ((N:Int)<(N:Int))=false:=by simp
   refine r0T ?_;refine B9o ?_;refine B9u (rfl) ?_;refine C0O ?_;refine B9 ?_;refine B9 ?_;refine E3 ?_;refine A6 ?_;refine r0T ?_;refine rt Tryz.results57 ?_;exact⟨rfl,hG⟩
theorem B21 (A Y V : Option Addr) (rs : List Rq) (N L K c d k : Nat) (hn : rs.length = N) (hN : 1 ≤ N) (hN2 : N ≤ 300) (hL1 : 1 ≤ L) (hL2 : L ≤ 20) (hrl : ∀ r ∈ rs, r.2.2.length = L) (a : Rat) (ha : qs a ≤ 10000000) (w : World) (h : Lrq w A rs) :
    Calls Tryz.prog 91 #[.slice A N c,.slice Y N d,.slice V K k,qV a] w λe w'=>e = .returned (.int .i64 (if K≠L then 5 else if a<0 then 1 else 0))/\A4 w w':=by
  have hsh:=λW (hg:A4 w W)=>A6G A Y rs N L c d hn hN hN2 hL1 hL2 hrl W (h.grow hg);obtain⟨bb,ob,rfl⟩:=h.addr (by omega);have hrow0:∃(Ar:Option Addr) (cr:Nat),∀W,A4 w W->W.cell? ⟨bb,ob,none⟩=some (.slice Ar L cr):=by
    have hil:0<rs.length:=by omega
    refine⟨rs[0].1,rs[0].2.1,λW hg=>?_⟩;have h3:=((h.grow hg).read (B99 hil)).1;rw[hrl _ (B9h hil),Nat.add_zero]at h3;exact h3
  obtain⟨A0,c0,hrow0⟩:=hrow0;have hni:(0:Int)<(N:Int):=by omega
  have hnp:0<N:=by omega
  have fn:decide ((0:Int)<(N:Int))=true:=by simp;omega
  have fnn:decide (0<N)=true:=by simp;omega
  have hsg:=λW=>S8 a (by have:=I0 a;omega) W;have hneg:=@A6P a
  have hrg : a.num.sign = -1 ∨ a.num.sign = 0 ∨ a.num.sign = 1 := by rcases C0x a.num 0 with h | h | h
                                                                     · exact .inl (Int.sign_eq_neg_one_iff_neg.2 h)
                                                                     · exact .inr (.inl (by rw[h];rfl))
                                                                     · exact .inr (.inr (Int.sign_eq_one_iff_pos.2 h))
  obtain⟨S,hS⟩:∃S,S=a.num.sign:=⟨_,rfl⟩
  simp only[<-hS]at hsg;rw[<-hS]at hneg hrg;have Hsh:=B9t hsh;have Hrow0:=B9t hrow0;have Hsg:=B9t hsg;clear hsh hrow0 h hrl hn hsg hS;by_cases hK:K=L
  · subst hK
    have f1:((K:Int) != (K:Int))=false:=by simp
    rw[if_neg (by simp)];by_cases h0:a<0
    · have f2:decide (S<0)=true:=by rw[hneg.2 h0];rfl
      rw[if_pos h0];clear hneg hrg h0;go_enter Tryz.func91,Tryz.ntmps91;refine en1 ?_;intro u hG b7 hB hF;refine B9o ?_;refine B9o (rsE A8 [0,0,1,0,0,0,0,0,0,0,0,0,0] hB hG λL hL=>?_);refine gs ?_;refine gmd (C:=λv ⟨hgu,hB,hG,_⟩=>Hsh.out _ hG) ?_
      repeat first|refine gya ?_|refine gyr ?_|refine gna ?_|refine gyb (by(rintro v ⟨hgu,hB,hG,-⟩ N hN;have r:=hB.r;simp only[BxR]at r;have q0:=Hrow0.out v hG;go_simp;exact hN)) ?_
      refine geT hL ?_;clear hB hG hL L;rintro u ⟨-,hB,hG,-⟩;refine B9u (rfl) ?_;refine B9v ?_;refine A6 ?_;refine B9o ?_;refine B9o (rsE A8 [0,1,0] hB hG λL hL=>?_)
      repeat first|refine gya ?_|refine gyr ?_|refine gna ?_|refine gyb (by(rintro v ⟨hgu,hB,hG,-⟩ N hN;have r:=hB.r;simp only[BxR]at r;have q0:=Hrow0.out v hG;go_simp;exact hN)) ?_
      refine gmw (C:=λv=>Hsg.out _) ?_;refine gs ?_;refine geT hL ?_;clear hB hG hL L;rintro u ⟨-,hB,hG,-⟩;refine B9w (rfl) ?_;refine r0T ?_;refine rt Tryz.results91 ?_;exact⟨rfl,hG⟩
    · have f2 : decide (S < 0) = false := by
        have:S ≠ -1:=λe=>h0 (hneg.1 e);simp;omega
      rw[if_neg h0];clear hneg hrg h0;go_enter Tryz.func91,Tryz.ntmps91;refine en1 ?_;intro u hG b7 hB hF;refine B9o ?_;refine B9o (rsE A8 [0,0,1,0,0,0,0,0,0,0,0,0,0] hB hG λL hL=>?_);refine gs ?_;refine gmd (C:=λv ⟨hgu,hB,hG,_⟩=>Hsh.out _ hG) ?_
      repeat first|refine gya ?_|refine gyr ?_|refine gna ?_|refine gyb (by(rintro v ⟨hgu,hB,hG,-⟩ N hN;have r:=hB.r;simp only[BxR]at r;have q0:=Hrow0.out v hG;go_simp;exact hN)) ?_
      refine geT hL ?_;clear hB hG hL L;rintro u ⟨-,hB,hG,-⟩;refine B9u (rfl) ?_;refine B9v ?_;refine A6 ?_;refine B9o ?_;refine B9o (rsE A8 [0,1,0] hB hG λL hL=>?_)
      repeat first|refine gya ?_|refine gyr ?_|refine gna ?_|refine gyb (by(rintro v ⟨hgu,hB,hG,-⟩ N hN;have r:=hB.r;simp only[BxR]at r;have q0:=Hrow0.out v hG;go_simp;exact hN)) ?_
      refine gmw (C:=λv=>Hsg.out _) ?_;refine gs ?_;refine geT hL ?_;clear hB hG hL L;rintro u ⟨-,hB,hG,-⟩;refine B9u (rfl) ?_;refine B9v ?_;refine A6 ?_;refine r0T ?_;refine rt Tryz.results91 ?_;exact⟨rfl,hG⟩
  · have f1:((K:Int) != (L:Int))=true:=by simp;omega
    rw[if_pos hK];clear hK hneg hrg;go_enter Tryz.func91,Tryz.ntmps91;refine en1 ?_;intro u hG b7 hB hF;refine B9o ?_;refine B9o (rsE A8 [0,0,1,0,0,0,0,0,0,0,0,0,0] hB hG λL hL=>?_);refine gs ?_;refine gmd (C:=λv ⟨hgu,hB,hG,_⟩=>Hsh.out _ hG) ?_
    repeat first|refine gya ?_|refine gyr ?_|refine gna ?_|refine gyb (by(rintro v ⟨hgu,hB,hG,-⟩ N hN;have r:=hB.r;simp only[BxR]at r;have q0:=Hrow0.out v hG;go_simp;exact hN)) ?_
    refine geT hL ?_;clear hB hG hL L;rintro u ⟨-,hB,hG,-⟩;refine B9w (rfl) ?_;refine r0T ?_;refine rt Tryz.results91 ?_;exact⟨rfl,hG⟩
theorem B0B(l:List Int)(n:Nat):∀x∈S3 l n,qs x<=5:=λx hx=>by
 unfold S3 at hx;obtain⟨i,-,rfl⟩:=List.mem_map.1 hx;unfold A5I;split
 ·exact B4d _
 ·rw[show C2 0=0 from rfl,A3A];omega
def A2P(N L:Nat)(rs:List Rq):Prop:=rs.length=N/\∀r∈rs,r.2.2.length=L/\∀y∈r.2.2,qs y<=5
theorem B3p{N L:Nat}{rs:List Rq}(h:A2P N L rs):∀i,i<N->∀j,j<L->qs (gq (B7 (rs.map (·.2.2)) i) j)<=5:=λi hi j hj=>by
 have hil:i<rs.length:=by rw[h.1];exact hi
 have e:B7 (rs.map (·.2.2)) i=rs[i].2.2:=by unfold B7;rw[List.getElem?_map,B99 hil];rfl
 obtain⟨h1,h2⟩:=h.2 _ (B9h hil);rw[e];exact h2 _ (A4B (by omega))
theorem B8q(A:Option Addr)(l:List Int)(c p N L:Nat)(hp:p=l.length)(hc:p<=c)(hn:N<=1048576)(hk:L<=1048576)(hpm:p<=9223372036854775807)(hb:∀x∈l,-9223372036854775808<=x/\x<=9223372036854775807)(w:World)(h:Li w A l) :
  Calls Tryz.prog 56 #[.slice A p c,.int .i64 N,.int .i64 L] w (G5 (λx:Ax×List Rq=>.slice x.1.1 N x.1.2) (λx W=>A2P N L x.2/\Lrz W x.1.1 x.2) w) :=
 (B9O A l c p N L hp hc hn hk hpm hb w h).mono λe w' ⟨v,rws,he,e1,e2,e3,hg⟩=>by
  obtain⟨A2,c2,rfl,-,hz,hkl⟩:=B3r (B2:=w.heap.size) e3 (λi r hi=>e2.1 r (B9k hi));refine⟨((A2,c2),_),he,⟨⟨by rw[List.length_map];exact hkl.symm,λr hr=>?_⟩,hz⟩,hg⟩;obtain⟨x,hx,rfl⟩:=List.mem_map.1 hr;have h1:x.2.map (·.2)∈A2I l N L:=by rw[<-e1];exact List.mem_map.2 ⟨x,hx,rfl⟩
  unfold A2I at h1;obtain⟨i,-,h2⟩:=List.mem_map.1 h1;simp only;rw[<-h2];exact⟨A8b _ _,B0B _ _⟩
theorem B5r(A:Option Addr)(l:List Int)(c p n:Nat)(hp:p=l.length)(hn:n<=1048576)(hpm:p<=9223372036854775807)(hb:∀x∈l,-9223372036854775808<=x/\x<=9223372036854775807)(w:World)(h:Li w A l) :
  Calls Tryz.prog 31 #[.slice A p c,.int .i64 n] w (G5 (λx:Ax=>.slice x.1 n x.2) (λx W=>Lz W x.1 (S3 l n)) w) :=
 (B5P A l c p n hp hn hpm hb w h).mono λe w' ⟨A',c',he,h1,hg⟩=>⟨(A',c'),he,h1.1,hg⟩
theorem B1l(A B:Option Addr)(la lb:List Int)(ca cb pa pb N Lw M:Nat)(n wd odd:Int)(hpa:pa=la.length)(hca:pa<=ca)(hpb:pb=lb.length)(hpm:pa<=9223372036854775807)(hpm2:pb<=9223372036854775807)(hba:∀x∈la,-9223372036854775808<=x/\x<=9223372036854775807)(hbb:∀x∈lb,-9223372036854775808<=x/\x<=9223372036854775807)
  (hN:K8 n 6=(N:Int)) (hLw:K8 wd 3+1=(Lw:Int)) (hM:M=if K8 odd 10=9 then N+1 else N) (w:World) (h:Li w A la) (h2:Li w B lb) :
  Calls Tryz.prog 12 #[.slice A pa ca,.slice B pb cb,.int .i64 n,.int .i64 wd,.int .i64 odd] w (G5 (λx:(Ax×Ax)×List Rq=>.tuple #[.slice x.1.1.1 N x.1.1.2,.slice x.1.2.1 M x.1.2.2]) (λx W=>(A2P N Lw x.2/\Lrz W x.1.1.1 x.2)/\Lz W x.1.2.1 (S3 lb M)) w):=by
 have rN:=A2N n (m:=6) (by omega);have rL:=A2N wd (m:=3) (by omega);have hp1:=λW=>A2l n 6 (by omega) (by omega) W;have hp2:=λW=>A2l wd 3 (by omega) (by omega) W;have hp3:=λW=>A2l odd 10 (by omega) (by omega) W;have hN5:N<=5:=by omega
 have hL3:Lw<=3:=by omega
 obtain⟨y,hy⟩:∃y,y=K8 wd 3:=⟨_,rfl⟩
 rw[<-hy]at hLw rL;simp only[<-hy]at hp2;have fy:IntKind.i64.wrap (y+1)=(Lw:Int):=by rw[C0A _ (by omega)];exact hLw
 simp only[hN]at hp1;have hrw:=λW (hg:A4 w W)=>B8q A la ca pa N Lw hpa hca (by omega) (by omega) hpm hba W (h.grow hg);have hrz:=λW (hg:A4 w W)=>B5r B lb cb pb M hpb (by split at hM<;>omega) hpm2 hbb W (h2.grow hg);obtain⟨t,ht⟩:∃t,t=K8 odd 10:=⟨_,rfl⟩
 rw[<-ht]at hM;simp only[<-ht]at hp3;obtain⟨yl,hyl⟩:∃l,l=S3 lb M:=⟨_,rfl⟩
 rw[<-hyl];simp only[<-hyl]at hrz;have Hp1:=B9t hp1;have Hp2:=B9t hp2;have Hp3:=B9t hp3;have Hrw:=B9t hrw;have Hrz:=B9t hrz;clear hp1 hp2 hp3 hrw hrz h h2 hba hbb hpa hpb hca hpm hpm2 hy ht hyl rN rL hN hLw;by_cases h9:t=9
 ·have f9:(t == 9)=true:=by simp[h9]
  have f9d:decide (t=9)=true:=by simp[h9]
  rw[if_pos h9]at hM;have fM:IntKind.i64.wrap ((N:Int)+1)=(M:Int):=by rw[C0A _ (by omega)];omega
  clear h9 hM;go_enter Tryz.func12,Tryz.ntmps12;refine en0 ?_;intro u hG hB hF;refine B9o (rsE A8 [0,1,0] hB hG λL hL=>?_);refine gs ?_;refine gmw (C:=λv=>Hp1.out _) ?_;refine gs ?_;refine geT hL ?_;clear hB hG hL L;rintro u ⟨-,hB,hG,-⟩;refine B9o (rsE A8 [0,0,0,1,0,1,0] hB hG λL hL=>?_);refine gs ?_;refine gmw (C:=λv=>Hp2.out _) ?_;refine gs ?_;refine gxd (X:=(Ax×List Rq)) (λx:Ax×List Rq=>.slice x.1.1 N x.1.2) (λx W=>A2P N Lw x.2/\Lrz W x.1.1 x.2) (λx u u' hg h=>⟨h.1,h.2.grow hg⟩) (λx20=>?_) (C:=by(rintro v ⟨hgu,hB,hG,-⟩;exact Hrw.out _ hG));refine gs ?_;refine geT hL ?_;clear hB hG hL L;rintro u ⟨⟨hgu,hB,hG,-⟩,hx20⟩;have HX:=B9t hx20;have hG2:A4 u u:=A4.refl u;obtain⟨w1,hw1⟩:=exQ u;rw[<-hw1]at HX;have hG1:A4 w1 u:=hw1 ▸ A4.refl u;clear hx20 hw1 hG2;clear hgu;refine B9o ?_;refine B9o (rsE A8 [0,1,0] hB hG λL hL=>?_);refine gs ?_;refine gmw (C:=λv=>Hp3.out _) ?_;refine gs ?_;refine geT hL ?_;clear hB hG hL L;rintro u ⟨hgu,hB,hG,-⟩;replace hG1:=hG1.trans hgu;clear hgu;refine B9w (rfl) ?_;refine r0N ?_;refine B9o (rsE A8 [0,0,0,1,0,0] hB hG λL hL=>?_);refine gs ?_;refine gxd (X:=Ax) (λx:Ax=>.slice x.1 M x.2) (λx W=>Lz W x.1 yl) (λx u u' hg h=>Lz.grow h hg) (λx29=>?_) (C:=by(rintro v ⟨hgu,hB,hG,-⟩;exact Hrz.out _ hG));refine gs ?_;refine geT hL ?_;clear hB hG hL L;rintro u ⟨⟨hgu,hB,hG,-⟩,hx29⟩;replace hG1:=hG1.trans hgu;clear hgu;refine rt Tryz.results12 ?_;exact⟨((x20.1,x29),x20.2),rfl,⟨⟨HX.out.1,HX.out.2.grow hG1⟩,hx29⟩,hG⟩
 ·have f9:(t == 9)=false:=by simp[h9]
  have f9d:decide (t=9)=false:=by simp[h9]
  rw[if_neg h9]at hM;subst hM;clear h9;go_enter Tryz.func12,Tryz.ntmps12;refine en0 ?_;intro u hG hB hF;refine B9o (rsE A8 [0,1,0] hB hG λL hL=>?_);refine gs ?_;refine gmw (C:=λv=>Hp1.out _) ?_;refine gs ?_;refine geT hL ?_;clear hB hG hL L;rintro u ⟨-,hB,hG,-⟩;refine B9o (rsE A8 [0,0,0,1,0,1,0] hB hG λL hL=>?_);refine gs ?_;refine gmw (C:=λv=>Hp2.out _) ?_;refine gs ?_;refine gxd (X:=(Ax×List Rq)) (λx:Ax×List Rq=>.slice x.1.1 M x.1.2) (λx W=>A2P M Lw x.2/\Lrz W x.1.1 x.2) (λx u u' hg h=>⟨h.1,h.2.grow hg⟩) (λx20=>?_) (C:=by(rintro v ⟨hgu,hB,hG,-⟩;exact Hrw.out _ hG));refine gs ?_;refine geT hL ?_;clear hB hG hL L;rintro u ⟨⟨hgu,hB,hG,-⟩,hx20⟩;have HX:=B9t hx20;obtain⟨w1,hw1⟩:=exQ u;rw[<-hw1]at HX;have hG1:A4 w1 u:=hw1 ▸ A4.refl u;clear hx20 hw1;clear hgu;refine B9o ?_;refine B9o (rsE A8 [0,1,0] hB hG λL hL=>?_);refine gs ?_;refine gmw (C:=λv=>Hp3.out _) ?_;refine gs ?_;refine geT hL ?_;clear hB hG hL L;rintro u ⟨hgu,hB,hG,-⟩;replace hG1:=hG1.trans hgu;clear hgu;refine B9u (rfl) ?_;refine B9v ?_;refine A6 ?_;refine B9o (rsE A8 [0,0,0,1,0,0] hB hG λL hL=>?_);refine gs ?_;refine gxd (X:=Ax) (λx:Ax=>.slice x.1 M x.2) (λx W=>Lz W x.1 yl) (λx u u' hg h=>Lz.grow h hg) (λx29=>?_) (C:=by(rintro v ⟨hgu,hB,hG,-⟩;exact Hrz.out _ hG));refine gs ?_;refine geT hL ?_;clear hB hG hL L;rintro u ⟨⟨hgu,hB,hG,-⟩,hx29⟩;replace hG1:=hG1.trans hgu;clear hgu;refine rt Tryz.results12 ?_;exact⟨((x20.1,x29),x20.2),rfl,⟨⟨HX.out.1,HX.out.2.grow hG1⟩,hx29⟩,hG⟩
end Go.Proofs.YtgpglgbcobeogaaGreatDoor
