import Derived.Test.YtgpglgbcobeogaaGreatDoorF26
set_option linter.unusedSimpArgs false
set_option linter.unusedVariables false
set_option maxHeartbeats 4000000
set_option maxRecDepth 100000
namespace Go.Proofs.YtgpglgbcobeogaaGreatDoor
open Go Go.RowKit
def B7(rs:List (List Rat))(i:Nat):List Rat:=(rs[i]?).getD []
def E4(a b:List Rat)(n:Nat):Rat:=C5 (fun i=>C9 (gq a i) (gq b i)) n
theorem B89(a b:List Rat)(n:Nat):E4 a b (n+1)=G6 (E4 a b n) (C9 (gq a n) (gq b n)):=rfl
theorem A6l(a b:List Rat)(n:Nat):E4 a b n=E4 b a n:=G3 fun i _=>by unfold C9;exact Rat.mul_comm _ _
theorem A1I{a b:List Rat}{n s t:Nat}(ha:∀i,i<n→qs (gq a i)≤s)(hb:∀i,i<n→qs (gq b i)≤t):∀j,j≤n→qs (E4 a b j)≤j*(s+t+1)+1:=fun j hj =>
 A7r _ (s+t) n (fun i hi=>C0H (Z5 _ _) (Nat.add_le_add (ha i hi) (hb i hi))) j hj
theorem Q5(f:Nat→Rat){n i:Nat}(h:i<n):gq ((List.range n).map f) i=f i:=by
 show((((List.range n).map f)[i]?).getD 0)=_;simp[h]
def R9(X:List (List Rat))(y w:List Rat)(n L:Nat):List Rat:=(List.range n).map fun i=>D3 (gq y i) (E4 w (B7 X i) L)
def I8(X:List (List Rat))(j n:Nat):List Rat:=(List.range n).map fun i=>gq (B7 X i) j
def W4(X:List (List Rat))(y w:List Rat)(n L:Nat):List Rat:=(List.range L).map fun j=>E4 (I8 X j n) (R9 X y w n L) n
def A1P(w:List Rat)(L:Nat):Rat:=C5 (fun j=>Q0 (gq w j)) L
def S5(X:List (List Rat))(y w:List Rat)(n L:Nat)(a:Rat):Rat:=G6 (G9 (E4 (R9 X y w n L) (R9 X y w n L) n) (C1 2)) (C9 a (A1P w L))
def V5(a b:Rat):Rat:=if a<b then b else a
def X6(p:List Rat):Nat→Rat
 | 0=>0
 | n+1=>V5 (X6 p n) (Q0 (gq p n))
def U5(n:Nat):List Rat:=List.replicate n 0
def I9(X:List (List Rat))(y:List Rat)(n L:Nat):Rat:=X6 (W4 X y (U5 L) n L) L
def V4(p w a:Rat):Bool:=if 0<w then decide (p=a)else if w<0 then decide (p=J7 a)else decide (Q0 p≤a)
def Z8(f:Nat→Bool):Nat→Nat→Nat
 | 0,i=>i
 | k+1,i=>if f i then Z8 f k (i+1)else i
theorem A3H(f:Nat→Bool)(k i:Nat):i≤Z8 f k i∧Z8 f k i≤i+k∧(∀j,i≤j→j<Z8 f k i→f j=true)∧(Z8 f k i<i+k→f (Z8 f k i)=false):=by
 induction k generalizing i with
 | zero=>exact⟨B9z _,B9z _,fun j h1 h2=>absurd h2 (by simp[Z8];omega),fun h=>absurd h (by simp[Z8])⟩
 | succ k ih =>
  unfold Z8
  cases hf:f i with
  | true =>
   rw[if_pos rfl];obtain⟨h1,h2,h3,h4⟩:=ih (i+1);refine⟨by omega,by omega,fun j h5 h6=>?_,fun h5=>h4 (by omega)⟩;rcases C17 h5 with h|h
   ·rw[←h];exact hf
   ·exact h3 j h h6
  | false =>
   rw[if_neg (by simp)];exact⟨B9z _,by omega,fun j h5 h6=>absurd h6 (by omega),fun _=>hf⟩
def Q7(X:List (List Rat))(y w:List Rat)(n L:Nat)(a:Rat):Nat:=Z8 (fun j=>V4 (gq (W4 X y w n L) j) (gq w j) a) L 0
theorem A8T(X:List (List Rat))(y w:List Rat)(n L:Nat)(a:Rat):Q7 X y w n L a≤L∧(∀j,j<Q7 X y w n L a→V4 (gq (W4 X y w n L) j) (gq w j) a=true)∧(Q7 X y w n L a<L→V4 (gq (W4 X y w n L) (Q7 X y w n L a)) (gq w (Q7 X y w n L a)) a=false):=by
 obtain⟨h1,h2,h3,h4⟩:=A3H (fun j=>V4 (gq (W4 X y w n L) j) (gq w j) a) L 0;exact⟨by unfold Q7;omega,fun j hj=>h3 j (C0h _) hj,fun h=>h4 (by unfold Q7 at h;omega)⟩
theorem A81(X:List (List Rat))(y w:List Rat)(n L:Nat):(R9 X y w n L).length=n:=by unfold R9;simp
theorem B88(X:List (List Rat))(j n:Nat):(I8 X j n).length=n:=by unfold I8;simp
theorem A72(X:List (List Rat))(y w:List Rat)(n L:Nat):(W4 X y w n L).length=L:=by unfold W4;simp
theorem A6p(X:List (List Rat))(y w:List Rat)(n L:Nat){i:Nat}(h:i<n):gq (R9 X y w n L) i=D3 (gq y i) (E4 w (B7 X i) L):=Q5 _ h
theorem A1Y(X:List (List Rat))(j n:Nat){i:Nat}(h:i<n):gq (I8 X j n) i=gq (B7 X i) j:=Q5 _ h
theorem A9a(X:List (List Rat))(y w:List Rat)(n L:Nat){j:Nat}(h:j<L):gq (W4 X y w n L) j=E4 (I8 X j n) (R9 X y w n L) n:=Q5 _ h
theorem A8Q(n i:Nat):gq (U5 n) i=0:=by
 unfold gq U5;rw[C1c];split<;>rfl
theorem A3V(a:Rat):qs (Q0 a)=qs a:=by
 unfold Q0 Rat.abs;split
 ·rfl
 ·exact A2q a
theorem A5i{X:List (List Rat)}{y w:List Rat}{n L s:Nat}(hn:n≤20)(hL:L≤20)(hs:s≤10000000)(hX:∀i,i<n→∀j,j<L→qs (gq (B7 X i) j)≤s)(hy:∀i,i<n→qs (gq y i)≤s)(hw:∀j,j<L→qs (gq w j)≤s):∀i,i<n→qs (gq (R9 X y w n L) i)≤500000000:=fun i hi=>by
 rw[A6p X y w n L hi];have h1:=A1I (a:=w) (b:=B7 X i) (n:=L) hw (hX i hi) L (B9z _);have h2:=A0X (gq y i) (E4 w (B7 X i) L);have h3:=hy i hi;have h4:L*(s+s+1)≤20*(s+s+1):=C0n _ hL;unfold D3;omega
theorem B03{X:List (List Rat)}{y w:List Rat}{n L s:Nat}(hn:n≤20)(hL:L≤20)(hs:s≤10000000)(hX:∀i,i<n→∀j,j<L→qs (gq (B7 X i) j)≤s)(hy:∀i,i<n→qs (gq y i)≤s)(hw:∀j,j<L→qs (gq w j)≤s):∀j,j<L→qs (gq (W4 X y w n L) j)≤11000000000:=fun j hj=>by
 rw[A9a X y w n L hj];have h0:=A5i hn hL hs hX hy hw;have h1:=A1I (a:=I8 X j n) (b:=R9 X y w n L) (n:=n) (s:=s) (t:=500000000) (fun i hi=>by rw[A1Y X j n hi];exact hX i hi j hj) h0 n (B9z _);have h4:n*(s+500000000+1)≤20*(s+500000000+1):=C0n _ hn;omega
theorem B4m{a b:Rat}{s:Nat}(h1:qs a≤s)(h2:qs b≤s):qs (V5 a b)≤s:=by unfold V5;split<;>assumption
theorem A7e{p:List Rat}{n s:Nat}(hs:1≤s)(h:∀j,j<n→qs (gq p j)≤s):∀j,j≤n→qs (X6 p j)≤s
 | 0,_=>by rw[X6,A2u];exact hs
 | j+1,hj=>B4m (A7e hs h j (by omega)) (by rw[A3V];exact h j (by omega))
theorem A9L{w:List Rat}{n s:Nat}(h:∀j,j<n→qs (gq w j)≤s):∀j,j≤n→qs (A1P w j)≤j*(s+1)+1:=fun j hj=>A7r _ s n (fun i hi=>by rw[A3V];exact h i hi) j hj
theorem A4b{a b:Rat}:(E9 a b == 0)=decide (a=b):=by
 unfold E9;by_cases h1:a<b
 ·rw[if_pos h1];have:¬a=b:=fun h=>by rw[h]at h1;exact Rat.lt_irrefl h1
  simp[this]
 ·rw[if_neg h1];by_cases h2:b<a
  ·rw[if_pos h2];have:¬a=b:=fun h=>by rw[h]at h2;exact Rat.lt_irrefl h2
   simp[this]
  ·rw[if_neg h2];have:a=b:=by grind
   simp[this]
theorem B41{a b:Rat}:decide (E9 a b≤0)=decide (a≤b):=by
 unfold E9;by_cases h1:a<b
 ·rw[if_pos h1];have:a≤b:=Rat.le_of_lt h1;simp[this]
 ·rw[if_neg h1];by_cases h2:b<a
  ·rw[if_pos h2];have:¬a≤b:=by grind
   simp[this]
  ·rw[if_neg h2];have:a≤b:=by grind
   simp[this]
theorem B04{w:Rat}:w.num.sign=1↔0<w:=by
 rw[Int.sign_eq_one_iff_pos,Rat.lt_iff];simp
theorem A20{w:Rat}:w.num.sign = -1↔w<0:=by
 rw[Int.sign_eq_neg_one_iff_neg,Rat.lt_iff];simp
theorem B9M{p w a:Rat}(h:w.num.sign=1):V4 p w a=(E9 p a == 0):=by
 unfold V4;rw[if_pos (B04.1 h),A4b]
theorem B23{p w a:Rat}(h:w.num.sign = -1):V4 p w a=(E9 p (J7 a) == 0):=by
 have h1:=A20.1 h;unfold V4;rw[if_neg (by grind),if_pos h1,A4b]
theorem B8N{p w a:Rat}(h:w.num.sign=0):V4 p w a=decide (E9 (Q0 p) a≤0):=by
 have h0:w=0:=Rat.num_eq_zero.1 (Int.sign_eq_zero_iff_zero.1 h);unfold V4;rw[if_neg (by rw[h0];exact Rat.lt_irrefl),if_neg (by rw[h0];exact Rat.lt_irrefl),B41]
theorem A0R{α:Type}{enc:α→List Value}{B:Nat}{e:TypeId}{g cap n:Nat}(he:∀x,(enc x).length=5){u:World}{ps:List α}(h:u.ownsRow B e 5 (.slice (some ⟨g,0,none⟩) n cap) n (ps.flatMap enc))(hn:n=ps.length)(k:Nat)(hk:k<ps.length) :
  ∃y0 y1 y2 y3 y4,u.cell? ⟨g,k*5,none⟩=some y0∧u.cell? ⟨g,k*5+1,none⟩=some y1∧u.cell? ⟨g,k*5+2,none⟩=some y2∧u.cell? ⟨g,k*5+3,none⟩=some y3∧u.cell? ⟨g,k*5+4,none⟩=some y4∧∀j,u.frozen? ⟨g,j,none⟩=false:=by
 have hl:=he ps[k];have h0:=A0O he h hn k 0 hk (by omega);have h1:=A0O he h hn k 1 hk (by omega);have h2:=A0O he h hn k 2 hk (by omega);have h3:=A0O he h hn k 3 hk (by omega);have h4:=A0O he h hn k 4 hk (by omega);rw[C0f (by omega)]at h0 h1 h2 h3 h4;exact⟨_,_,_,_,_,h0,h1,h2,h3,h4,fun j=>h.frozenAt j⟩
theorem Y7(b:Nat):∀(vs:List Value) (i:Nat) (u:World),u.grownBy (C3 u b i vs) (some b)
 | [],_,_=>⟨rfl,rfl,rfl,B9z _,fun _ _ _=>rfl⟩
 | v::vs,i,u=>A3q (u1:=u.setCell ⟨b,i,none⟩ v) ⟨rfl,rfl,rfl,by simp[World.setCell],fun k _ hk=>C0C _ _ _ _ (fun e=>hk (by simp[e]))⟩ (Y7 b vs (i+1) _)
theorem I2{u u':World}{B:Nat}{e:TypeId}{size n b i:Nat}{v:Value}{xs vs:List Value}(h:u.ownsRow B e size v n xs)(hb:v.ownBlock≠some b)(hu:C3 u b i vs=u'):u'.ownsRow B e size v n xs:=by
 subst hu;exact h.kept (Y7 b vs i u) (.inr hb)
theorem A7k:(Tryz.prog.info? 48).map (fun i=>(i.zero,i.size,i.bytes))=some (some (.agg (qL 0).toArray),5,56):=by kernel_rfl
theorem B5p(n:Nat):madeCells (Value.agg (qL 0).toArray).cells (n*5)=((List.replicate n (0:Rat)).flatMap qL).toArray:=by
 unfold madeCells;refine Array.ext (by simp[A0J,show(qL 0).length=5 from rfl]) fun i h1 h2=>?_;have h1':i<n*5:=by simpa using h1
 have hg:=A2s (List.replicate n (0:Rat)) (i:=i/5) (q:=0) (by rw[C1c,if_pos (by omega)]) (j:=i%5) (by omega);rw[show i/5*5+i%5=i by omega]at hg;have h3:((List.replicate n (0:Rat)).flatMap qL)[i]?=some ((List.replicate n (0:Rat)).flatMap qL)[i]:=C0f _;rw[h3]at hg;have h4:(qL 0)[i%5]?=some ((qL 0)[i%5]'(by show i%5<5;omega)):=C0f _;rw[h4]at hg;injection hg with hg;simp only[List.getElem_toArray,Value.cells,Array.getElem_ofFn];rw[hg];simp[show(qL 0).length=5 from rfl];rw[h4];rfl
theorem A1N(n:Nat)(hn:n≤1048576)(x:Int)(hx:x=n)(W:World):(Instr.makeSlice 35 (.int .i64 x) (.int .i64 x)).run Tryz.prog W =
  .ok (.slice (some ⟨W.heap.size,0,none⟩) n n) (W.alloc (.cells ((List.replicate n (0:Rat)).flatMap qL).toArray 48)):=by
 obtain⟨i0,hi0,hz0,hz1,hz2⟩:=C0a A7k;have hr:=run_make (P:=Tryz.prog) W 35 48 i0 (.agg (qL 0).toArray) Tryz.underlying35 hi0 hz0 .i64 .i64 n n (by omega) (by omega) (by rw[hz2];omega) (by omega);rw[hx];rw[hr,hz1];simp only[Int.toNat_natCast];rw[B5p]
theorem A09{u v:World}{B n:Nat}(hB:B≤u.heap.size)(hn:n≤1048576)(hv:u.alloc (.cells ((List.replicate n (0:Rat)).flatMap qL).toArray 48)=v):v.ownsRow B 48 5 (.slice (some ⟨u.heap.size,0,none⟩) n n) n ((List.replicate n (0:Rat)).flatMap qL):=by
 subst hv;have h:=World.ownsRow_lit (base:=B) (e:=48) (size:=5) u ((List.replicate n (0:Rat)).flatMap qL).toArray n hB (by unfold maxLen;omega) (by simp[A0J,show(qL 0).length=5 from rfl])
 simpa using h
theorem A5T(w:World)(l:List Rat):Lq (w.alloc (.cells (l.flatMap qL).toArray 48)) (some ⟨w.heap.size,0,none⟩) l:=fun _ =>
 ⟨w.heap.size,0,rfl,by rw[K9];omega,fun i q hi j v hj=>by
  have hj5:j<5:=(List.getElem?_eq_some_iff.1 hj).1
  rw[Nat.zero_add,Blk.cell (Blk.new w 48 _),List.getElem?_toArray,A2s l hi hj5,hj]⟩
def M7(f:Nat→Rat)(n i:Nat):List Rat:=(List.range n).map fun t=>if t<i then f t else 0
theorem O5(f:Nat→Rat)(n i:Nat):(M7 f n i).length=n:=by unfold M7;simp
theorem A2d(f:Nat→Rat)(n:Nat):M7 f n 0=List.replicate n 0:=by
 unfold M7;apply C0F
 ·simp
 ·intro i h1 h2;simp
theorem A2B(f:Nat→Rat)(n:Nat):M7 f n n=(List.range n).map f:=by
 unfold M7;refine C14 fun j hj=>?_;rw[if_pos (List.mem_range.1 hj)]
theorem A2b{f:Nat→Rat}{n i:Nat}(h:i<n):(M7 f n i).set i (f i)=M7 f n (i+1):=by
 unfold M7;apply C0F
 ·simp
 ·intro j h1 h2;rw[C12];simp only[List.getElem_map,List.getElem_range];by_cases e:i=j
  ·subst e;simp
  ·rw[if_neg e];by_cases hj:j<i
   ·rw[if_pos hj,if_pos (by omega)]
   ·rw[if_neg hj,if_neg (by omega)]
theorem A3W(A B:Option Addr)(l l':List Rat)(c d n:Nat)(hl:l.length=n)(hl':l'.length=n)(hm:n≤1048576)(s t:Nat)(hs:∀i,i<n→qs (gq l i)≤s)(hs':∀i,i<n→qs (gq l' i)≤t)(hBz:n*(s+t+1)+s+t+10≤BIG)(w:World)(h:Lq w A l)(h':Lq w B l')(HT:Tab w) :
  Calls Tryz.prog 93 #[.slice A n c,.slice B n d] w fun e w'=>e = .returned (.tuple #[qV (E4 l l' n),.bool true])∧A4 w w':=by
 have hM:∀j,j≤n→qs (E4 l l' j)≤n*(s+t+1)+1:=fun j hj=>C0H (A1I hs hs' j hj) (Nat.add_le_add_right (C0n _ hj) 1);have hne:((n:Int) != (n:Int))=false:=by simp
 have HM:=C0P hM;have Hs:=C0P hs;have Hs':=C0P hs';have H:=C0P h;have H':=C0P h';have Hl:=C0P hl;have Hl':=C0P hl';clear hM hs hs' h h' hl hl';go_enter Tryz.func93,Tryz.ntmps93;refine en1 ?_;intro u hG b4 hB hF;refine C0K ?_;refine r0T ?_;refine C0Q (rfl) ?_;refine C0R ?_;refine A6 ?_;refine C0K (rsE A8 [2] hB hG fun L hL=>?_);refine gaa (G8 _ _ _ _ _) fun b6 hb6 hn6=>?_;replace hF:=hF.n1 [] hB hG hb6 hn6;refine geT hL ?_;clear hB hG hL L;rintro u ⟨⟨-,hB,hG,-⟩,h6⟩;replace hB:=hB.cons' h6;clear h6;clear hb6 hn6;refine C0K ?_;refine r0T ?_;refine C0s ?_;go_loopw [17] (fun s0 wr=>∃(j:Nat) (S:Rat),j≤n∧s0 = .int .i64 j∧S=E4 l l' j∧Bx wr [(b6,48,N1 S),(b4,48,A3x)]∧A4 w wr) (fun s0 _=>n-(intOf s0).toNat)
 case atStart=>exact⟨0,0,C0h _,rfl,rfl,hB,hG⟩
 case round =>
  clear hB hG;obtain⟨j,S,hj,rfl,hS,hB,hG⟩:=hrel;obtain⟨u,rfl⟩:=exQ wr;have z1:=HM.out j hj;rw[←hS]at z1;rcases B90 j n with hlt|hge
  ·have hdec:decide ((j:Int)<(n:Int))=true:=by simp;omega
   have hjn:(j:Int)<(n:Int):=by omega
   have hjl:j<l.length:=by rw[Hl.out];exact hlt
   have hjl':j<l'.length:=by rw[Hl'.out];exact hlt
   obtain⟨ba,oa,rfl⟩:=H.out.addr (by omega);obtain⟨bb,ob,rfl⟩:=H'.out.addr (by omega);have hrd:∀W,A4 w W→Cq W ba (oa+j*5) (gq l j)∧Cq W bb (ob+j*5) (gq l' j):=fun W hg=>⟨(H.out.grow hg).read hjl,(H'.out.grow hg).read hjl'⟩
   have z2:=Hs.out j hlt;have z3:=Hs'.out j hlt;have hnx:=B89 l l' j;rw[←hS]at hnx;obtain⟨X,hX⟩:∃X,X=gq l j:=⟨_,rfl⟩
   obtain⟨Y,hY⟩:∃X,X=gq l' j:=⟨_,rfl⟩
   simp only[←hX,←hY]at hrd;rw[←hX]at z2 hnx;rw[←hY]at z3 hnx;have z4:=Z5 X Y;have hml:=fun W hT=>A1B X Y W (by omega) hT;obtain⟨D,hD⟩:∃D,D=C9 X Y:=⟨_,rfl⟩
   rw[←hD]at hnx hml;have z5:qs D≤s+t:=by rw[hD];unfold C9;omega
   have had:=fun W hT=>A1o S D W (by omega) hT;have Hrd:=C0P hrd;have Hnx:=C0P hnx;have Hml:=C0P hml;have Had:=C0P had;clear hrd hnx hml had hX hY hD hjl hjl' hS z1 z2 z3 z4 z5;refine r0T ?_;refine C0K ?_;refine C0S (rfl) ?_;refine C0R ?_;refine A6 ?_;refine C0K ?_;refine C0s ?_;refine C0K (rsC A8 [0,0,0,2,0] hB hG fun K L hN hL=>?_)
   repeat first|refine gya ?_|refine gyr ?_|refine gna ?_|refine gyb (by(rintro v ⟨hgu,hB,hG,-⟩ N hN;have r:=hB.r;simp only[BxR]at r;obtain⟨⟨q1,q2,q3,q4,q5⟩,⟨y1,y2,y3,y4,y5⟩⟩:=Hrd.out v hG;go_simp;exact hN)) ?_
   refine gaa (G8 _ _ _ _ _) fun b8 hb8 hn8=>?_;refine gs ?_;replace hF:=hF.n1 [] hB hG hb8 hn8;refine geC hL ?_;clear hB hG hL L;rintro u ⟨⟨-,hB,hG,-⟩,h8⟩;replace hB:=hB.cons' h8;clear h8;clear hb8 hn8;refine gtT ?_;clear hN K;refine st hB hF hG 0 0 [_,_,_,_,_] ?_;clear hB hG;intro u hB hG;refine rdC A8 [] [(0,0),(0,1),(0,2),(0,3),(0,4),(0,5),(1,6),(1,7)] hB hG fun K L hN hL=>?_
   repeat first|refine gya ?_|refine gyr ?_|refine gna ?_|refine gyb (by(rintro v ⟨hgu,hB,hG,-⟩ N hN;have r:=hB.r;simp only[BxR]at r;obtain⟨⟨q1,q2,q3,q4,q5⟩,⟨y1,y2,y3,y4,y5⟩⟩:=Hrd.out v hG;go_simp;exact hN)) ?_
   refine gmd (C:=fun v ⟨hgu,hB,hG,_⟩=>Hml.out _ (HT.grow hG)) ?_;refine gmd (C:=fun v ⟨hgu,hB,hG,_⟩=>Had.out _ (HT.grow hG)) ?_;refine geC hL ?_;clear hB hG hL L;rintro u ⟨-,hB,hG,-⟩;refine gt ?_;clear hN K;refine st hB hF hG 1 0 [_,_,_,_,_] ?_;clear hB hG;intro u hB hG;refine C4 ?_;refine A6 ?_;refine r0E ?_;refine A6 ?_;go_roundw
   case rel=>exact⟨j+1,G6 S D,by omega,by go_num,Hnx.out.symm,hB.tail,hG⟩
   case measure=>simp[intOf];omega
  ·obtain rfl:n=j:=by omega
   have hdec:decide ((n:Int)<(n:Int))=false:=by simp
   rw[←hS];clear hS;refine r0T ?_;refine C0K ?_;refine C0Q (rfl) ?_;refine C0u ?_;refine B8 ?_;refine B8 ?_;refine E0 ?_;refine A6 ?_;refine r0T ?_;refine st hB hF hG 1 0 [_,_,_,_,_] ?_;clear hB hG;intro u hB hG;refine rt Tryz.results93 ?_;exact⟨rfl,hG⟩
theorem B36{a b:Rat}:decide (0<E9 a b)=decide (b<a):=by
 unfold E9;by_cases h1:a<b
 ·rw[if_pos h1];have:¬b<a:=by grind
  simp[this]
 ·rw[if_neg h1];by_cases h2:b<a
  ·rw[if_pos h2];simp[h2]
  ·rw[if_neg h2];simp[h2]
theorem B1F(a b:Rat)(h:qs a+qs b+1≤BIG)(w:World):Calls Tryz.prog 98 #[qV a,qV b] w fun e w'=>e = .returned (qV (V5 a b))∧A4 w w':=by
 have hc:=fun W=>Y5 b a W (by omega);have hz:=@B36 b a;obtain⟨Z,hZ⟩:∃Z,Z=E9 b a:=⟨_,rfl⟩
 rw[←hZ]at hz;simp only[←hZ]at hc;have Hc:=C0P hc;clear hc hZ;by_cases hab:a<b
 ·have fZ:decide (0<Z)=true:=by rw[hz];exact C04 hab
  have e:V5 a b=b:=if_pos hab;rw[e];clear hab hz e;go_enter Tryz.func98,Tryz.ntmps98;refine en3 ?_;intro u hG b4 b3 b2 hB hF;refine C0K ?_;refine C0K (rsE A8 [0,0,1,0] hB hG fun L hL=>?_);refine gs ?_;refine gmw (C:=fun v=>Hc.out _) ?_;refine gs ?_;refine geT hL ?_;clear hB hG hL L;rintro u ⟨-,hB,hG,-⟩;refine C0S (rfl) ?_;refine r0T ?_;refine st hB hF hG 2 0 [_,_,_,_,_] ?_;clear hB hG;intro u hB hG;refine rt Tryz.results98 ?_;exact⟨rfl,hG⟩
 ·have fZ:decide (0<Z)=false:=by rw[hz];exact C09 hab
  have e:V5 a b=a:=if_neg hab;rw[e];clear hab hz e;go_enter Tryz.func98,Tryz.ntmps98;refine en3 ?_;intro u hG b4 b3 b2 hB hF;refine C0K ?_;refine C0K (rsE A8 [0,0,1,0] hB hG fun L hL=>?_);refine gs ?_;refine gmw (C:=fun v=>Hc.out _) ?_;refine gs ?_;refine geT hL ?_;clear hB hG hL L;rintro u ⟨-,hB,hG,-⟩;refine C0Q (rfl) ?_;refine C0R ?_;refine A6 ?_;refine r0T ?_;refine st hB hF hG 2 0 [_,_,_,_,_] ?_;clear hB hG;intro u hB hG;refine rt Tryz.results98 ?_;exact⟨rfl,hG⟩
theorem A5p(A Y:Option Addr)(rs:List Rq)(N L c d:Nat)(hn:rs.length=N)(hN:1≤N)(hN2:N≤300)(hL1:1≤L)(hL2:L≤20)(hrl:∀r∈rs,r.2.2.length=L)(w:World)(h:Lrq w A rs) :
  Calls Tryz.prog 57 #[.slice A N c,.slice Y N d] w fun e w'=>e = .returned (.bool true)∧A4 w w':=by
 obtain⟨bb,ob,rfl⟩:=h.addr (by omega);have hrow:∀i,i<N→∃(Ar:Option Addr) (cr:Nat),∀W,A4 w W→W.cell? ⟨bb,ob+i,none⟩=some (.slice Ar L cr):=fun i hi=>by
  have hil:i<rs.length:=by omega
  refine⟨rs[i].1,rs[i].2.1,fun W hg=>?_⟩;have h3:=((h.grow hg).read (C0f hil)).1;rw[hrl _ (C0D hil)]at h3;exact h3
 obtain⟨A0,c0,hrow0⟩:=hrow 0 (by omega);rw[Nat.add_zero]at hrow0;have f1:decide ((N:Int)<1)=false:=by simp;omega
 have f1n:decide (N=0)=false:=by simp;omega
 have f2:decide ((300:Int)<(N:Int))=false:=by simp;omega
 have f2n:decide (300<N)=false:=by simp;omega
 have f3:((N:Int) != (N:Int))=false:=by simp
 have f4:decide ((L:Int)<1)=false:=by simp;omega
 have f4n:decide (L=0)=false:=by simp;omega
 have f5:decide ((20:Int)<(L:Int))=false:=by simp;omega
 have f5n:decide (20<L)=false:=by simp;omega
 have f6:((L:Int) != (L:Int))=false:=by simp
 have hni:(0:Int)<(N:Int):=by omega
 have hnp:0<N:=by omega
 have fn:decide ((0:Int)<(N:Int))=true:=by simp;omega
 have fnn:decide (0<N)=true:=by simp;omega
 have Hrow:=C0P hrow;have Hrow0:=C0P hrow0;clear hrow hrow0 h hrl hn;go_enter Tryz.func57,Tryz.ntmps57;refine en0 ?_;intro u hG hB hF;refine C0K ?_;refine r0T ?_;refine C0Q (rfl) ?_;refine C0R ?_;refine A6 ?_;refine C0K ?_;have q0:=Hrow0.out u hG;refine r0N ?_;refine C0K ?_;refine r0T ?_;refine C0Q (rfl) ?_;refine C0R ?_;refine A6 ?_;refine C0K ?_;refine r0T ?_;refine C0s ?_;clear hB hF;go_loopw [35] (fun s0 wr=>∃i:Nat,i≤N∧s0 = .int .i64 i∧A4 w wr) (fun s0 _=>N-(intOf s0).toNat)
 case atStart=>exact⟨0,C0h _,rfl,hG⟩
 case round =>
  clear hG;obtain⟨i,hi,rfl,hG⟩:=hrel;obtain⟨u,rfl⟩:=exQ wr;have hB:=Bx.nil u;have hF:=Fr.nil w;rcases B90 i N with hlt|hge
  ·have hdec:decide ((i:Int)<(N:Int))=true:=by simp;omega
   have hiN:(i:Int)<(N:Int):=by omega
   obtain⟨Ar,cr,hrw⟩:=Hrow.out i hlt;have Hrw:=C0P hrw;clear hrw;refine r0T ?_;refine C0K ?_;refine C0S (rfl) ?_;refine C0R ?_;refine A6 ?_;refine C0K ?_;refine C0s ?_;refine C0K ?_;have q0:=Hrow0.out u hG;have q1:=Hrw.out u hG;refine r0N ?_;refine r0T ?_;refine C0Q (rfl) ?_;refine C0R ?_;refine C4 ?_;refine A6 ?_;refine r0E ?_;refine A6 ?_;go_roundw
   case rel=>exact⟨i+1,by omega,by go_num,hG⟩
   case measure=>simp[intOf];omega
  ·obtain rfl:N=i:=by omega
   have hdec:decide ((N:Int)<(N:Int))=false:=by simp
   refine r0T ?_;refine C0K ?_;refine C0Q (rfl) ?_;refine C0u ?_;refine B8 ?_;refine B8 ?_;refine E0 ?_;refine A6 ?_;refine r0T ?_;refine rt Tryz.results57 ?_;exact⟨rfl,hG⟩
theorem A6R (A Y V : Option Addr) (rs : List Rq) (N L K c d k : Nat) (hn : rs.length = N) (hN : 1 ≤ N) (hN2 : N ≤ 300) (hL1 : 1 ≤ L) (hL2 : L ≤ 20) (hrl : ∀ r ∈ rs, r.2.2.length = L) (a : Rat) (ha : qs a ≤ 10000000) (w : World) (h : Lrq w A rs) :
    Calls Tryz.prog 91 #[.slice A N c,.slice Y N d,.slice V K k,qV a] w fun e w'=>e = .returned (.int .i64 (if K≠L then 5 else if a<0 then 1 else 0))∧A4 w w':=by
  have hsh:=fun W (hg:A4 w W)=>A5p A Y rs N L c d hn hN hN2 hL1 hL2 hrl W (h.grow hg);obtain⟨bb,ob,rfl⟩:=h.addr (by omega);have hrow0:∃(Ar:Option Addr) (cr:Nat),∀W,A4 w W→W.cell? ⟨bb,ob,none⟩=some (.slice Ar L cr):=by
    have hil:0<rs.length:=by omega
    refine⟨rs[0].1,rs[0].2.1,fun W hg=>?_⟩;have h3:=((h.grow hg).read (C0f hil)).1;rw[hrl _ (C0D hil),Nat.add_zero]at h3;exact h3
  obtain⟨A0,c0,hrow0⟩:=hrow0;have hni:(0:Int)<(N:Int):=by omega
  have hnp:0<N:=by omega
  have fn:decide ((0:Int)<(N:Int))=true:=by simp;omega
  have fnn:decide (0<N)=true:=by simp;omega
  have hsg:=fun W=>O8 a (by have:=G4 a;omega) W;have hneg:=@A20 a
  have hrg : a.num.sign = -1 ∨ a.num.sign = 0 ∨ a.num.sign = 1 := by rcases C1T a.num 0 with h | h | h
                                                                     · exact .inl (Int.sign_eq_neg_one_iff_neg.2 h)
                                                                     · exact .inr (.inl (by rw[h];rfl))
                                                                     · exact .inr (.inr (Int.sign_eq_one_iff_pos.2 h))
  obtain⟨S,hS⟩:∃S,S=a.num.sign:=⟨_,rfl⟩
  simp only[←hS]at hsg;rw[←hS]at hneg hrg;have Hsh:=C0P hsh;have Hrow0:=C0P hrow0;have Hsg:=C0P hsg;clear hsh hrow0 h hrl hn hsg hS;by_cases hK:K=L
  · subst hK
    have f1:((K:Int) != (K:Int))=false:=by simp
    rw[if_neg (by simp)];by_cases h0:a<0
    · have f2:decide (S<0)=true:=by rw[hneg.2 h0];rfl
      rw[if_pos h0];clear hneg hrg h0;go_enter Tryz.func91,Tryz.ntmps91;refine en1 ?_;intro u hG b7 hB hF;refine C0K ?_;refine C0K (rsE A8 [0,0,1,0,0,0,0,0,0,0,0,0,0] hB hG fun L hL=>?_);refine gs ?_;refine gmd (C:=fun v ⟨hgu,hB,hG,_⟩=>Hsh.out _ hG) ?_
      repeat first|refine gya ?_|refine gyr ?_|refine gna ?_|refine gyb (by(rintro v ⟨hgu,hB,hG,-⟩ N hN;have r:=hB.r;simp only[BxR]at r;have q0:=Hrow0.out v hG;go_simp;exact hN)) ?_
      refine geT hL ?_;clear hB hG hL L;rintro u ⟨-,hB,hG,-⟩;refine C0Q (rfl) ?_;refine C0R ?_;refine A6 ?_;refine C0K ?_;refine C0K (rsE A8 [0,1,0] hB hG fun L hL=>?_)
      repeat first|refine gya ?_|refine gyr ?_|refine gna ?_|refine gyb (by(rintro v ⟨hgu,hB,hG,-⟩ N hN;have r:=hB.r;simp only[BxR]at r;have q0:=Hrow0.out v hG;go_simp;exact hN)) ?_
      refine gmw (C:=fun v=>Hsg.out _) ?_;refine gs ?_;refine geT hL ?_;clear hB hG hL L;rintro u ⟨-,hB,hG,-⟩;refine C0S (rfl) ?_;refine r0T ?_;refine rt Tryz.results91 ?_;exact⟨rfl,hG⟩
    · have f2 : decide (S < 0) = false := by
        have:S ≠ -1:=fun e=>h0 (hneg.1 e);simp;omega
      rw[if_neg h0];clear hneg hrg h0;go_enter Tryz.func91,Tryz.ntmps91;refine en1 ?_;intro u hG b7 hB hF;refine C0K ?_;refine C0K (rsE A8 [0,0,1,0,0,0,0,0,0,0,0,0,0] hB hG fun L hL=>?_);refine gs ?_;refine gmd (C:=fun v ⟨hgu,hB,hG,_⟩=>Hsh.out _ hG) ?_
      repeat first|refine gya ?_|refine gyr ?_|refine gna ?_|refine gyb (by(rintro v ⟨hgu,hB,hG,-⟩ N hN;have r:=hB.r;simp only[BxR]at r;have q0:=Hrow0.out v hG;go_simp;exact hN)) ?_
      refine geT hL ?_;clear hB hG hL L;rintro u ⟨-,hB,hG,-⟩;refine C0Q (rfl) ?_;refine C0R ?_;refine A6 ?_;refine C0K ?_;refine C0K (rsE A8 [0,1,0] hB hG fun L hL=>?_)
      repeat first|refine gya ?_|refine gyr ?_|refine gna ?_|refine gyb (by(rintro v ⟨hgu,hB,hG,-⟩ N hN;have r:=hB.r;simp only[BxR]at r;have q0:=Hrow0.out v hG;go_simp;exact hN)) ?_
      refine gmw (C:=fun v=>Hsg.out _) ?_;refine gs ?_;refine geT hL ?_;clear hB hG hL L;rintro u ⟨-,hB,hG,-⟩;refine C0Q (rfl) ?_;refine C0R ?_;refine A6 ?_;refine r0T ?_;refine rt Tryz.results91 ?_;exact⟨rfl,hG⟩
  · have f1:((K:Int) != (L:Int))=true:=by simp;omega
    rw[if_pos hK];clear hK hneg hrg;go_enter Tryz.func91,Tryz.ntmps91;refine en1 ?_;intro u hG b7 hB hF;refine C0K ?_;refine C0K (rsE A8 [0,0,1,0,0,0,0,0,0,0,0,0,0] hB hG fun L hL=>?_);refine gs ?_;refine gmd (C:=fun v ⟨hgu,hB,hG,_⟩=>Hsh.out _ hG) ?_
    repeat first|refine gya ?_|refine gyr ?_|refine gna ?_|refine gyb (by(rintro v ⟨hgu,hB,hG,-⟩ N hN;have r:=hB.r;simp only[BxR]at r;have q0:=Hrow0.out v hG;go_simp;exact hN)) ?_
    refine geT hL ?_;clear hB hG hL L;rintro u ⟨-,hB,hG,-⟩;refine C0S (rfl) ?_;refine r0T ?_;refine rt Tryz.results91 ?_;exact⟨rfl,hG⟩
theorem A6U(l:List Int)(n:Nat):∀x∈S3 l n,qs x≤5:=fun x hx=>by
 unfold S3 at hx;obtain⟨i,-,rfl⟩:=List.mem_map.1 hx;unfold A5h;split
 ·exact A6f _
 ·rw[show C1 0=0 from rfl,A2u];omega
def A2e(N L:Nat)(rs:List Rq):Prop:=rs.length=N∧∀r∈rs,r.2.2.length=L∧∀y∈r.2.2,qs y≤5
theorem B8q{N L:Nat}{rs:List Rq}(h:A2e N L rs):∀i,i<N→∀j,j<L→qs (gq (B7 (rs.map (·.2.2)) i) j)≤5:=fun i hi j hj=>by
 have hil:i<rs.length:=by rw[h.1];exact hi
 have e:B7 (rs.map (·.2.2)) i=rs[i].2.2:=by unfold B7;rw[List.getElem?_map,C0f hil];rfl
 obtain⟨h1,h2⟩:=h.2 _ (C0D hil);rw[e];exact h2 _ (A3K (by omega))
theorem B8l(A:Option Addr)(l:List Int)(c p N L:Nat)(hp:p=l.length)(hc:p≤c)(hn:N≤1048576)(hk:L≤1048576)(hpm:p≤9223372036854775807)(hb:∀x∈l,-9223372036854775808≤x∧x≤9223372036854775807)(w:World)(h:Li w A l) :
  Calls Tryz.prog 56 #[.slice A p c,.int .i64 N,.int .i64 L] w (G1 (fun x:Ax×List Rq=>.slice x.1.1 N x.1.2) (fun x W=>A2e N L x.2∧Lrz W x.1.1 x.2) w) :=
 (B4Y A l c p N L hp hc hn hk hpm hb w h).mono fun e w' ⟨v,rws,he,e1,e2,e3,hg⟩=>by
  obtain⟨A2,c2,rfl,-,hz,hkl⟩:=B49 (B2:=w.heap.size) e3 (fun i r hi=>e2.1 r (C0G hi));refine⟨((A2,c2),_),he,⟨⟨by rw[List.length_map];exact hkl.symm,fun r hr=>?_⟩,hz⟩,hg⟩;obtain⟨x,hx,rfl⟩:=List.mem_map.1 hr;have h1:x.2.map (·.2)∈A2M l N L:=by rw[←e1];exact List.mem_map.2 ⟨x,hx,rfl⟩
  unfold A2M at h1;obtain⟨i,-,h2⟩:=List.mem_map.1 h1;simp only;rw[←h2];exact⟨A56 _ _,A6U _ _⟩
theorem A91(A:Option Addr)(l:List Int)(c p n:Nat)(hp:p=l.length)(hn:n≤1048576)(hpm:p≤9223372036854775807)(hb:∀x∈l,-9223372036854775808≤x∧x≤9223372036854775807)(w:World)(h:Li w A l) :
  Calls Tryz.prog 31 #[.slice A p c,.int .i64 n] w (G1 (fun x:Ax=>.slice x.1 n x.2) (fun x W=>Lz W x.1 (S3 l n)) w) :=
 (B3l A l c p n hp hn hpm hb w h).mono fun e w' ⟨A',c',he,h1,hg⟩=>⟨(A',c'),he,h1.1,hg⟩
theorem B8K(A B:Option Addr)(la lb:List Int)(ca cb pa pb N Lw M:Nat)(n wd odd:Int)(hpa:pa=la.length)(hca:pa≤ca)(hpb:pb=lb.length)(hpm:pa≤9223372036854775807)(hpm2:pb≤9223372036854775807)(hba:∀x∈la,-9223372036854775808≤x∧x≤9223372036854775807)(hbb:∀x∈lb,-9223372036854775808≤x∧x≤9223372036854775807)
  (hN:K8 n 6=(N:Int)) (hLw:K8 wd 3+1=(Lw:Int)) (hM:M=if K8 odd 10=9 then N+1 else N) (w:World) (h:Li w A la) (h2:Li w B lb) :
  Calls Tryz.prog 12 #[.slice A pa ca,.slice B pb cb,.int .i64 n,.int .i64 wd,.int .i64 odd] w (G1 (fun x:(Ax×Ax)×List Rq=>.tuple #[.slice x.1.1.1 N x.1.1.2,.slice x.1.2.1 M x.1.2.2]) (fun x W=>(A2e N Lw x.2∧Lrz W x.1.1.1 x.2)∧Lz W x.1.2.1 (S3 lb M)) w):=by
 have rN:=A2I n (m:=6) (by omega);have rL:=A2I wd (m:=3) (by omega);have hp1:=fun W=>A2l n 6 (by omega) (by omega) W;have hp2:=fun W=>A2l wd 3 (by omega) (by omega) W;have hp3:=fun W=>A2l odd 10 (by omega) (by omega) W;have hN5:N≤5:=by omega
 have hL3:Lw≤3:=by omega
 obtain⟨y,hy⟩:∃y,y=K8 wd 3:=⟨_,rfl⟩
 rw[←hy]at hLw rL;simp only[←hy]at hp2;have fy:IntKind.i64.wrap (y+1)=(Lw:Int):=by rw[C0g _ (by omega)];exact hLw
 simp only[hN]at hp1;have hrw:=fun W (hg:A4 w W)=>B8l A la ca pa N Lw hpa hca (by omega) (by omega) hpm hba W (h.grow hg);have hrz:=fun W (hg:A4 w W)=>A91 B lb cb pb M hpb (by split at hM<;>omega) hpm2 hbb W (h2.grow hg);obtain⟨t,ht⟩:∃t,t=K8 odd 10:=⟨_,rfl⟩
 rw[←ht]at hM;simp only[←ht]at hp3;obtain⟨yl,hyl⟩:∃l,l=S3 lb M:=⟨_,rfl⟩
 rw[←hyl];simp only[←hyl]at hrz;have Hp1:=C0P hp1;have Hp2:=C0P hp2;have Hp3:=C0P hp3;have Hrw:=C0P hrw;have Hrz:=C0P hrz;clear hp1 hp2 hp3 hrw hrz h h2 hba hbb hpa hpb hca hpm hpm2 hy ht hyl rN rL hN hLw;by_cases h9:t=9
 ·have f9:(t == 9)=true:=by simp[h9]
  have f9d:decide (t=9)=true:=by simp[h9]
  rw[if_pos h9]at hM;have fM:IntKind.i64.wrap ((N:Int)+1)=(M:Int):=by rw[C0g _ (by omega)];omega
  clear h9 hM;go_enter Tryz.func12,Tryz.ntmps12;refine en0 ?_;intro u hG hB hF;refine C0K (rsE A8 [0,1,0] hB hG fun L hL=>?_);refine gs ?_;refine gmw (C:=fun v=>Hp1.out _) ?_;refine gs ?_;refine geT hL ?_;clear hB hG hL L;rintro u ⟨-,hB,hG,-⟩;refine C0K (rsE A8 [0,0,0,1,0,1,0] hB hG fun L hL=>?_);refine gs ?_;refine gmw (C:=fun v=>Hp2.out _) ?_;refine gs ?_;refine gxd (X:=(Ax×List Rq)) (fun x:Ax×List Rq=>.slice x.1.1 N x.1.2) (fun x W=>A2e N Lw x.2∧Lrz W x.1.1 x.2) (fun x u u' hg h=>⟨h.1,h.2.grow hg⟩) (fun x20=>?_) (C:=by(rintro v ⟨hgu,hB,hG,-⟩;exact Hrw.out _ hG));refine gs ?_;refine geT hL ?_;clear hB hG hL L;rintro u ⟨⟨hgu,hB,hG,-⟩,hx20⟩;have HX:=C0P hx20;have hG2:A4 u u:=A4.refl u;obtain⟨w1,hw1⟩:=exQ u;rw[←hw1]at HX;have hG1:A4 w1 u:=hw1 ▸ A4.refl u;clear hx20 hw1 hG2;clear hgu;refine C0K ?_;refine C0K (rsE A8 [0,1,0] hB hG fun L hL=>?_);refine gs ?_;refine gmw (C:=fun v=>Hp3.out _) ?_;refine gs ?_;refine geT hL ?_;clear hB hG hL L;rintro u ⟨hgu,hB,hG,-⟩;replace hG1:=hG1.trans hgu;clear hgu;refine C0S (rfl) ?_;refine r0N ?_;refine C0K (rsE A8 [0,0,0,1,0,0] hB hG fun L hL=>?_);refine gs ?_;refine gxd (X:=Ax) (fun x:Ax=>.slice x.1 M x.2) (fun x W=>Lz W x.1 yl) (fun x u u' hg h=>Lz.grow h hg) (fun x29=>?_) (C:=by(rintro v ⟨hgu,hB,hG,-⟩;exact Hrz.out _ hG));refine gs ?_;refine geT hL ?_;clear hB hG hL L;rintro u ⟨⟨hgu,hB,hG,-⟩,hx29⟩;replace hG1:=hG1.trans hgu;clear hgu;refine rt Tryz.results12 ?_;exact⟨((x20.1,x29),x20.2),rfl,⟨⟨HX.out.1,HX.out.2.grow hG1⟩,hx29⟩,hG⟩
 ·have f9:(t == 9)=false:=by simp[h9]
  have f9d:decide (t=9)=false:=by simp[h9]
  rw[if_neg h9]at hM;subst hM;clear h9;go_enter Tryz.func12,Tryz.ntmps12;refine en0 ?_;intro u hG hB hF;refine C0K (rsE A8 [0,1,0] hB hG fun L hL=>?_);refine gs ?_;refine gmw (C:=fun v=>Hp1.out _) ?_;refine gs ?_;refine geT hL ?_;clear hB hG hL L;rintro u ⟨-,hB,hG,-⟩;refine C0K (rsE A8 [0,0,0,1,0,1,0] hB hG fun L hL=>?_);refine gs ?_;refine gmw (C:=fun v=>Hp2.out _) ?_;refine gs ?_;refine gxd (X:=(Ax×List Rq)) (fun x:Ax×List Rq=>.slice x.1.1 M x.1.2) (fun x W=>A2e M Lw x.2∧Lrz W x.1.1 x.2) (fun x u u' hg h=>⟨h.1,h.2.grow hg⟩) (fun x20=>?_) (C:=by(rintro v ⟨hgu,hB,hG,-⟩;exact Hrw.out _ hG));refine gs ?_;refine geT hL ?_;clear hB hG hL L;rintro u ⟨⟨hgu,hB,hG,-⟩,hx20⟩;have HX:=C0P hx20;obtain⟨w1,hw1⟩:=exQ u;rw[←hw1]at HX;have hG1:A4 w1 u:=hw1 ▸ A4.refl u;clear hx20 hw1;clear hgu;refine C0K ?_;refine C0K (rsE A8 [0,1,0] hB hG fun L hL=>?_);refine gs ?_;refine gmw (C:=fun v=>Hp3.out _) ?_;refine gs ?_;refine geT hL ?_;clear hB hG hL L;rintro u ⟨hgu,hB,hG,-⟩;replace hG1:=hG1.trans hgu;clear hgu;refine C0Q (rfl) ?_;refine C0R ?_;refine A6 ?_;refine C0K (rsE A8 [0,0,0,1,0,0] hB hG fun L hL=>?_);refine gs ?_;refine gxd (X:=Ax) (fun x:Ax=>.slice x.1 M x.2) (fun x W=>Lz W x.1 yl) (fun x u u' hg h=>Lz.grow h hg) (fun x29=>?_) (C:=by(rintro v ⟨hgu,hB,hG,-⟩;exact Hrz.out _ hG));refine gs ?_;refine geT hL ?_;clear hB hG hL L;rintro u ⟨⟨hgu,hB,hG,-⟩,hx29⟩;replace hG1:=hG1.trans hgu;clear hgu;refine rt Tryz.results12 ?_;exact⟨((x20.1,x29),x20.2),rfl,⟨⟨HX.out.1,HX.out.2.grow hG1⟩,hx29⟩,hG⟩
end Go.Proofs.YtgpglgbcobeogaaGreatDoor
