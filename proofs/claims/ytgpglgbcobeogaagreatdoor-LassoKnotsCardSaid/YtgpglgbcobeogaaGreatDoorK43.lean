import Derived.Test.YtgpglgbcobeogaaGreatDoorK42
set_option linter.unusedSimpArgs false
set_option linter.unusedVariables false
set_option maxHeartbeats 4000000
set_option maxRecDepth 100000
namespace Go.Proofs.YtgpglgbcobeogaaGreatDoor
open Go Go.RowKit
theorem A8F(b:Nat):∀(vs:List Value) (i:Nat) (W:World),W.setCells b i vs=C3 W b i vs
 | [],_,_=>rfl
 | v::vs,i,W=>A8F b vs (i+1) _
theorem B3q(n:Nat):(Builtin.zeroCells (Value.agg (qL 0).toArray).cells n).toList.length=n*5/\∀v∈(Builtin.zeroCells (Value.agg (qL 0).toArray).cells n).toList,v.oneCell'=true:=by
 unfold Builtin.zeroCells;refine⟨by simp[Value.cells,qL],λv hv=>?_⟩;simp only[Array.toList_map,List.mem_map,Array.toList_range,List.mem_range]at hv;obtain⟨i,hi,rfl⟩:=hv;have h5:i%(Value.agg (qL 0).toArray).cells.size<5:=B92 _ (by decide);have h6:(Value.agg (qL 0).toArray).cells.size=5:=rfl;rw[h6]at h5⊢;generalize i%5=j at h5⊢;have:j=0\/j=1\/j=2\/j=3\/j=4:=by omega
 rcases this with rfl|rfl|rfl|rfl|rfl<;>rfl
theorem B4n(b o n c:Nat)(hn:0<n)(W:World)(hc:∀j,j<n*5->(W.cell? ⟨b,o+j,none⟩).isSome=true)(hf:∀j,W.frozen? ⟨b,j,none⟩=false) :
  ∃vs:List Value,∀ty:TypeId,(Builtin.clear_ #[35] ty #[.slice (some ⟨b,o,none⟩) n c]).run Tryz.prog W = .ok (.tuple #[]) (C3 W b o vs):=by
 obtain⟨i0,hi0,hz0,hz1,hz2⟩:=B94 A5m;obtain⟨h1,h2⟩:=B3q n;refine⟨(Builtin.zeroCells (Value.agg (qL 0).toArray).cells n).toList,λty=>?_⟩;have hst:=run_storeCells_cells (P:=Tryz.prog) b o _ 0 W (λj hj=>by rw[Nat.add_zero];exact hc j (by rw[<-h1];exact hj)) (λj _=>by rw[Nat.add_zero];exact hf _) h2;rw[Nat.add_zero,A8F]at hst;obtain⟨m,rfl⟩:∃m,n=m+1:=⟨n-1,by omega⟩
 have hzv:(zeroValue 48).run Tryz.prog W = .ok (.agg (qL 0).toArray) W:=by
  unfold zeroValue;simp only[Sem.run_bind,run_typeInfo W hi0,hz0,Result.andThen_ok];rfl
 simp[Builtin.clear_,run_underlying Tryz.underlying35,hzv,hst]
theorem B2J(a b:Rat)(h:qs a+qs b+1<=BIG)(w:World):Calls Tryz.prog 118 #[qV a,qV b] w λe w'=>e = .returned (.bool (decide (a=b)))/\A4 w w':=by
 have hcm:=λW=>A1A a b W (by omega);have hz:(H6 a b == 0)=decide (a=b):=by
  unfold H6;by_cases h1:a<b
  ·have:a≠b:=by grind
   simp[h1,this]
  ·by_cases h2:b<a
   ·have:a≠b:=by grind
    simp[h1,h2,this]
   ·have:a=b:=by grind
    simp[h1,h2,this]
 obtain⟨S,hS⟩:∃S,S=H6 a b:=⟨_,rfl⟩
 rw[<-hS]at hz;simp only[<-hS]at hcm;have Hcm:=B9t hcm;have Hz:=B9t hz;clear hcm hz hS h;go_enter Tryz.func118,Tryz.ntmps118;refine en2 ?_;intro u hG b3 b2 hB hF;refine B9o (rsE A8 [0,0,1,0,0] hB hG λL hL=>?_);refine gs ?_;refine gmw (C:=λv=>Hcm.out _) ?_;refine gs ?_;refine geT hL ?_;clear hB hG hL L;rintro u ⟨-,hB,hG,-⟩;refine rt Tryz.results118 ?_;exact⟨by rw[Hz.out],hG⟩
def Q9(l:List Rat)(j:Nat):List Rat:=H5 l j++l.drop (H5 l j).length
theorem A7q{l:List Rat}{j:Nat}(h:j<=l.length):(Q9 l j).length=l.length:=by
 unfold Q9;have:=A4r l j;rw[List.length_append,C0e];omega
theorem B6k{l:List Rat}{j t:Nat}(h:(H5 l j).length<=t):gq (Q9 l j) t=gq l t:=by
 unfold Q9 gq;rw[C1M h,List.getElem?_drop];rw[show(H5 l j).length+(t-(H5 l j).length)=t by omega]
theorem A7S{l:List Rat}:∀ {k:Nat},(∀i,i<k->Q3 l i=true)->k<=l.length->H5 l k=l.take k
 | 0,_,_=>by unfold H5;simp
 | k+1,h,hk=>by
  rw[A5T,if_pos (h k (by omega)),A7S (λi hi=>h i (by omega)) (by omega),List.take_add_one];unfold gq;rw[B99 (by omega)];simp
theorem B8M{l:List Rat}{k:Nat}(h:∀i,i<k->Q3 l i=true)(hk:k<l.length)(h2:Q3 l k=false):Q9 l (k+1)=l/\(H5 l (k+1)).length=k:=by
 have e:H5 l (k+1)=l.take k:=by rw[A5T,h2,if_neg (by simp),A7S h (by omega)]
 have e2:(l.take k).length=k:=by rw[List.length_take];omega
 refine⟨?_,by rw[e,e2]⟩;unfold Q9;rw[e,e2,B9e]
theorem B7G{l:List Rat}{j:Nat}(h:Q3 l j=false):Q9 l (j+1)=Q9 l j/\(H5 l (j+1)).length=(H5 l j).length:=by
 have e:H5 l (j+1)=H5 l j:=by rw[A5T,h,if_neg (by simp)]
 unfold Q9;rw[e];exact⟨rfl,rfl⟩
theorem B2C{l:List Rat}{j:Nat}(h:Q3 l j=true)(hj:j<l.length):(Q9 l j).set (H5 l j).length (gq l j)=Q9 l (j+1)/\(H5 l (j+1)).length=(H5 l j).length+1:=by
 have e:H5 l (j+1)=H5 l j++[gq l j]:=by rw[A5T,if_pos h]
 have hl:=A4r l j;unfold Q9;rw[e];refine⟨?_,by simp⟩;rw[List.set_append_right _ _ (K2 _),B97,C0i (by omega),List.set_cons_zero];simp
theorem B7U{l:List Rat}:(Q9 l l.length).take (H5 l l.length).length=H5 l l.length:=by
 unfold Q9;simp
theorem B5t{l:List Rat}{i:Nat}(h:1<=i):Q3 l i=decide (gq l i≠gq l (i-1)):=by
 unfold Q3;rw[C0d (by omega:¬i=0),Bool.false_or]
theorem B6p{u:World}{B g cap n m:Nat}{l:List Rat}(h:u.ownsRow B 48 5 (.slice (some ⟨g,0,none⟩) n cap) n (l.flatMap qL))(hm:m<=n)(hl:l.length=n):u.ownsRow B 48 5 (.slice (some ⟨g,0,none⟩) m cap) m ((l.take m).flatMap qL):=by
 obtain⟨-,⟨e,-⟩|⟨g',cap',cur,e,hb,hh,hc,hmx,hz,ht⟩⟩:=h
 ·cases e
 ·cases e;have hlt:(l.take m).length=m:=by rw[List.length_take];omega
  refine⟨by rw[A0A,hlt,C0K],.inr ⟨g,cap,cur,rfl,hb,hh,by omega,hmx,hz,?_⟩⟩;have e1:l.flatMap qL=(l.take m).flatMap qL++(l.drop m).flatMap qL:=by rw[<-C1Y,B9e]
  have e2:cur.toList.take (m*5)=(cur.toList.take (n*5)).take (m*5):=by rw[List.take_take,C0U (by omega)]
  rw[e2,ht,e1,List.take_append_of_le_length (by rw[A0A,hlt];omega),C0L (by rw[A0A,hlt];omega)]
theorem B47{u:World}{B g cap n m o:Nat}{l:List Rat}{vs:List Value}(h:u.ownsRow B 48 5 (.slice (some ⟨g,0,none⟩) n cap) n (l.flatMap qL))(hm:m<=n)(hl:l.length=n)(ho:o=m*5):(C3 u g o vs).ownsRow B 48 5 (.slice (some ⟨g,0,none⟩) m cap) m ((l.take m).flatMap qL)/\u.grownBy (C3 u g o vs) (some g):=by
 have h1:=B6p h hm hl;refine⟨?_,X7 g vs o u⟩;have key:∀(vs:List Value) (o:Nat) (u:World),m*5<=o->u.ownsRow B 48 5 (.slice (some ⟨g,0,none⟩) m cap) m ((l.take m).flatMap qL)->(C3 u g o vs).ownsRow B 48 5 (.slice (some ⟨g,0,none⟩) m cap) m ((l.take m).flatMap qL):=by
  intro vs
  induction vs with
  | nil=>exact λo u _ h=>h
  | cons v vs ih =>
   intro o u hle h;refine ih (o+1) _ (by omega) ?_;obtain⟨h3,-⟩:=h.stored o v;have hl2:=h.1
   rwa [List.set_eq_of_length_le (by omega)]at h3
 exact key vs o u (by omega) h1
theorem B5e{P:Program}{ops:Array Oper}{rest:List Oper}{o:Oper}{a:Act}{w w':World}{Q:Exit->Act->World->Prop}{v x:Value}(hgd:o.guard=none)(s:Operand)(t:TypeId)
  (ho:o.op = .call { callee:=.builtin .clear,args:=#[s],argTypes:=#[t] }) (hs:a.eval s=x) (hr:(Builtin.clear_ #[t] o.type #[x]).run P w = .ok v w') (h:wpList P ops Q rest (a.put o.dst v) w'):wpList P ops Q (o::rest) a w:=by
 refine wpList_plain hgd λK hK=>?_;unfold Oper.wp execOp;simp only[ho,resolve,invoke,builtin,Sem.run_bind,Sem.run_pure,Result.andThen_ok,List.map_toArray,List.map_cons,List.map_nil,hs,hr];exact hK _ _ h
theorem B0V(b o n c k:Nat)(hk:k<n)(hc:n<=c)(hn:n<=1048576)(W:World):(Instr.slice 35 (.slice (some ⟨b,o,none⟩) n c) (some (.int .i64 (k:Nat))) none none).run Tryz.prog W = .ok (.slice (some ⟨b,o+k*5,none⟩) (n-k) (c-k)) W:=by
 have h1:(k:Int)<=(n:Int):=by omega
 have h2:(n:Int)<=(c:Int):=by omega
 have h3:¬c=k:=by omega
 go_simp
theorem B40(b o n c k:Nat)(hk:k<=n)(hc:n<=c)(hn:n<=1048576)(W:World):(Instr.slice 35 (.slice (some ⟨b,o,none⟩) n c) none (some (.int .i64 (k:Nat))) none).run Tryz.prog W = .ok (.slice (some ⟨b,o,none⟩) k c) W:=by
 have h1:(k:Int)<=(c:Int):=by omega
 go_simp
theorem B20 {s B g cap n : Nat} (l : List Rat) (hn : l.length = n) (hn2 : 2 ≤ n) (hm : n ≤ 1000000) (hs : ∀ i, i < n → qs (gq l i) ≤ s) (hBz : 2 * s + 1 ≤ BIG) (w0 w : World) (hG0 : A4 w0 w) (hB0 : w0.heap.size ≤ B) (h : w.ownsRow B 48 5 (.slice (some ⟨g, 0, none⟩) n cap) n (l.flatMap qL)) :
    Calls Tryz.prog 117 #[.slice (some ⟨g,0,none⟩) n cap,.func (.func 118) #[] #[]] w λe w'=>e = .returned (.slice (some ⟨g,0,none⟩) (H5 l n).length cap)/\w'.ownsRow B 48 5 (.slice (some ⟨g,0,none⟩) (H5 l n).length cap) (H5 l n).length ((H5 l n).flatMap qL)/\w.grownBy w' (some g):=by
  have hBm:=M6;obtain⟨hcap,hcapm⟩:n<=cap/\cap<=maxLen:=by
    obtain⟨-,⟨e,-⟩|⟨g',cap',cur,e,hb,hh,hc,hmx,hz,ht⟩⟩:=h
    · cases e
    · cases e;exact⟨hc,hmx⟩
  have hd2:decide ((n:Int)<2)=false:=by simp;omega
  have hgb0:B<=g:=(h.lt g rfl).1;have hat:∀(j i:Nat),j<=n->(H5 l j).length<=i->i<n->∀W:World,W.ownsRow B 48 5 (.slice (some ⟨g,0,none⟩) n cap) n ((Q9 l j).flatMap qL)->Cq W g (i*5) (gq l i):=λj i hj hi hin W ho=>by
    have hl:=A7q (l:=l) (j:=j) (by omega);obtain⟨A,c,e,-,-,hL,-⟩:=M7 ho;cases e;have:=hL.read (i:=i) (by omega);rw[B6k hi]at this
    simpa using this
  have hat0:∀i,i<n->∀W:World,W.ownsRow B 48 5 (.slice (some ⟨g,0,none⟩) n cap) n (l.flatMap qL)->Cq W g (i*5) (gq l i):=λi hin W ho=>by
    obtain⟨A,c,e,-,-,hL,-⟩:=M7 ho;cases e;have:=hL.read (i:=i) (by omega)
    simpa using this
  have hcl:∀i j,i<n->j<n->∀W,Calls Tryz.prog 118 #[qV (gq l i),qV (gq l j)] W λe w'=>e = .returned (.bool (decide (gq l i=gq l j)))/\A4 W w':=λi j hi hj W=>B2J _ _ (by have:=hs i hi;have:=hs j hj;omega) W;have hnw:∀i,1<=i->Q3 l i = !decide (gq l i=gq l (i-1)):=λi hi=>by rw[B5t hi];simp
  have Hat:=B9t hat;have Hat0:=B9t hat0;have Hcl:=B9t hcl;have Hnw:=B9t hnw;have Ho:=B9t h;have HG0:=B9t hG0;have Hs:=B9t hs;have Hl:=B9t hn;clear hat hat0 hcl hnw h hG0 hs hn;go_enter Tryz.func117,Tryz.ntmps117;refine en0 ?_;intro u hG hB hF;refine B9o ?_;refine r0T ?_;refine B9u (rfl) ?_;refine B9v ?_;refine A6 ?_;refine B9o ?_;refine r0T ?_;have hgb:=F0 (A40 w (some g)) hG;have hG2:=HG0.out.trans hG;have ho:=C0 Ho.out hG;clear hG hF HG0 Ho;obtain⟨w1,rfl⟩:=exQ w;obtain⟨w,rfl⟩:=exQ w0;have hG:=hG2;clear hG2;refine C0M ?_;go_loopw [5] (λs0 wr=>∃i:Nat,i+1<=n/\s0 = .int .i64 ((i+1:Nat):Int)/\(∀j,j<i+1->Q3 l j=true)/\wr.ownsRow B 48 5 (.slice (some ⟨g,0,none⟩) n cap) n (l.flatMap qL)/\A4 w wr/\w1.grownBy wr (some g)) (λs0 _=>n-(intOf s0).toNat)
  case atStart => exact ⟨0, by omega, rfl, fun j hj => by obtain rfl : j = 0 := by omega
                                                          rfl,ho,hG,hgb⟩
  case round =>
    clear hB hG ho hgb;obtain⟨i,hi,rfl,hall,ho,hG,hgb⟩:=hrel;obtain⟨u,rfl⟩:=exQ wr;have hB:=Bx.nil u;have hF:=Fr.nil w;have Ho:=B9t ho;have Hgb:=B9t hgb;have Hall:=B9t hall;clear hall ho hgb;obtain⟨i1,hi1⟩:∃k,k=i+1:=⟨_,rfl⟩
    rw[<-hi1]at hi Hall⊢;rcases B9U i1 n with hlt|hge
    · have hdec:decide ((i1:Int)<(n:Int))=true:=by simp;omega
      have hin:(i1:Int)<(n:Int):=by omega
      have hin0:(i:Int)<(n:Int):=by omega
      have fw:IntKind.i64.wrap ((i1:Int)-1)=(i:Int):=by rw[C0A _ (by omega)];omega
      have hcl:=Hcl.out i1 i hlt (by omega);have hnw:=Hnw.out i1 (by omega);rw[show i1-1=i by omega]at hnw;have hrd:∀W:World,W.ownsRow B 48 5 (.slice (some ⟨g,0,none⟩) n cap) n (l.flatMap qL)->Cq W g (i1*5) (gq l i1)/\Cq W g (i*5) (gq l i):=λW ho=>⟨Hat0.out i1 hlt W ho,Hat0.out i (by omega) W ho⟩
      obtain⟨X,hX⟩:∃X,X=gq l i1:=⟨_,rfl⟩
      obtain⟨Y,hY⟩:∃X,X=gq l i:=⟨_,rfl⟩
      simp only[<-hX,<-hY]at hcl hnw hrd;have Hrd:=B9t hrd;have Hcx:=B9t hcl;have Hi1:=B9t hi1;clear hrd hcl hX hY hi1;obtain⟨b,hb⟩:∃b,b=decide (X=Y):=⟨_,rfl⟩
      rw[<-hb]at hnw Hcx;clear hb;rcases C1v b with rfl|rfl
      · obtain⟨hst,hct⟩:=B8M Hall.out (by rw[Hl.out];exact hlt) hnw
        have Hst:=B9t (And.intro hst hct);clear hnw hst hct;have hsl:=B0V g 0 n cap i1 hlt hcap (by omega);rw[Nat.zero_add]at hsl;obtain⟨D,hD⟩:∃x,x=i1*5:=⟨_,rfl⟩
        obtain⟨n2,hn2e⟩:∃x,x=n-i1:=⟨_,rfl⟩
        obtain⟨c2,hc2e⟩:∃x,x=cap-i1:=⟨_,rfl⟩
        rw[<-hD,<-hn2e,<-hc2e]at hsl;have hnb:n2<=1000000:=by omega
        have HD:=B9t (And.intro hD (And.intro hn2e hc2e));clear hD hn2e hc2e;refine B9o ?_;refine r0T ?_;refine B9w (rfl) ?_;refine B9v ?_;refine A6 ?_;refine B9o ?_;refine C0M ?_;refine B9o ?_;refine A2F (w:=w) A8 10 [] [(0,0),(0,1),(0,2),(0,3),(0,4),(0,5),(0,6),(0,7),(0,8),(0,9)] (by kernel_rfl) (by kernel_rfl) (by simp only[List.drop_succ_cons,List.drop_zero];exact rfl) (λ_=>True) noG hB hG trivial ?_;intro K L hN hL;simp only[G9,List.getElem?_toArray,List.getElem?_cons_zero,List.getElem?_cons_succ]
        repeat first|refine gya ?_|refine gyr ?_|refine gna ?_|refine gyb (by(rintro v ⟨hgu,hB,hG,-⟩ N hN;have r:=hB.r;simp only[BxR]at r;obtain⟨⟨y1,y2,y3,y4,y5⟩,x1,x2,x3,x4,x5⟩:=Hrd.out v (C0 Ho.out hgu);go_simp;exact hN)) ?_
        refine I7 ?_;rintro v ⟨hgu,hB1,hG1,-⟩;have Ho2:=B9t (C0 Ho.out hgu);have Hgb2:=B9t (F0 Hgb.out hgu);clear Ho Hgb;have Ho:=Ho2;have Hgb:=Hgb2;clear Ho2 Hgb2;clear hB hG;have hB:=hB1;have hG:=hG1;clear hB1 hG1;refine hL _ _ ?_;clear hL L hgu;obtain⟨u,rfl⟩:=exQ v;go_wp2_with (go_at_call 118;refine(Hcx.out u).mono ?_;rintro e w2 ⟨rfl,hg2⟩);have Ho2:=B9t (C0 Ho.out hg2);have Hgb2:=B9t (F0 Hgb.out hg2);have hG2:=hG.trans hg2;clear Ho Hgb hG hB hg2;have Ho:=Ho2;have Hgb:=Hgb2;have hG:=hG2;have hB:=Bx.nil w2;clear Ho2 Hgb2 hG2;obtain⟨u,rfl⟩:=exQ w2;refine NoK.norm (hN _ _ ?_);clear hN K;refine A6 ?_;refine B9w (rfl) ?_;refine r0T ?_;refine B9o ?_;refine r0T ?_;refine C0M ?_;have hgb:=Hgb.out;have ho:=Ho.out;clear Ho Hgb;go_loopw [5,7] (λs0 s1 wr=>∃t c:Nat,i1+t+1<=n/\s0 = .int .i64 (c:Nat)/\s1 = .int .i64 ((t+1:Nat):Int)/\c=(H5 l (i1+t+1)).length/\c<=i1+t/\wr.ownsRow B 48 5 (.slice (some ⟨g,0,none⟩) n cap) n ((Q9 l (i1+t+1)).flatMap qL)/\A4 w wr/\w1.grownBy wr (some g)) (λ_ s1 _=>n-(intOf s1).toNat)
        case atStart=>exact⟨0,i1,by omega,rfl,rfl,Hst.out.2.symm,by omega,by have:=Hst.out.1;rw[Nat.add_zero,this];exact ho,hG,hgb⟩
        case round =>
          clear hB hG ho hgb;obtain⟨t,c,ht,rfl,rfl,hc,hct,ho,hG,hgb⟩:=hrel;obtain⟨u,rfl⟩:=exQ wr;have hB:=Bx.nil u;have hF:=Fr.nil w;have Ho:=B9t ho;have Hgb:=B9t hgb;clear ho hgb;obtain⟨T1,hT1⟩:∃k,k=t+1:=⟨_,rfl⟩
          obtain⟨J,hJ⟩:∃k,k=i1+t+1:=⟨_,rfl⟩
          rw[<-hT1];rw[<-hJ]at ht hc Ho;have hRl:=A7q (l:=l) (j:=J) (by rw[Hl.out];exact ht);rw[Hl.out]at hRl;obtain⟨hD,hn2e,hc2e⟩:=HD.out;have hsc:=B0V g 0 n cap c (by omega) hcap (by omega);rcases B9U J n with hlt2|hge2
          · have hdec2:decide ((T1:Int)<(n2:Int))=true:=by simp;omega
            have hin2:(T1:Int)<(n2:Int):=by omega
            have hin3:(t:Int)<(n2:Int):=by omega
            have hin4:(c:Int)<(n:Int):=by omega
            have fw2:IntKind.i64.wrap ((T1:Int)-1)=(t:Int):=by rw[C0A _ (by omega)];omega
            have hcl:=Hcl.out J (i1+t) hlt2 (by omega);have hnw:=Hnw.out J (by omega);rw[show J-1=i1+t by omega]at hnw;have hrd:∀W:World,W.ownsRow B 48 5 (.slice (some ⟨g,0,none⟩) n cap) n ((Q9 l J).flatMap qL)->Cq W g (D+T1*5) (gq l J)/\Cq W g (D+t*5) (gq l (i1+t)):=λW ho=>by
              have h1:=Hat.out J J (by omega) (by omega) hlt2 W ho;have h2:=Hat.out J (i1+t) (by omega) (by omega) (by omega) W ho;rw[show J*5=D+T1*5 by omega]at h1;rw[show(i1+t)*5=D+t*5 by omega]at h2;exact⟨h1,h2⟩
            have hpt:=λh=>B2C (l:=l) (j:=J) h (by rw[Hl.out];exact hlt2);have hsk:=λh=>B7G (l:=l) (j:=J) h;rw[<-hc]at hpt hsk;obtain⟨X,hX⟩:∃X,X=gq l J:=⟨_,rfl⟩
            obtain⟨Y,hY⟩:∃X,X=gq l (i1+t):=⟨_,rfl⟩
            simp only[<-hX,<-hY]at hcl hnw hrd hpt;have Hrd2:=B9t hrd;have Hcy:=B9t hcl;have HJ:=B9t (And.intro hJ hT1);obtain⟨R,hR⟩:∃R,R=Q9 l J:=⟨_,rfl⟩
            rw[<-hR]at Ho Hrd2 hpt hsk hRl;clear hrd hcl hX hY hc hR;obtain⟨b,hb⟩:∃b,b=decide (X=Y):=⟨_,rfl⟩
            rw[<-hb]at hnw Hcy;clear hb;rcases C1v b with rfl|rfl
            · obtain⟨s1,s2⟩:=hsk hnw
              rw[<-s1]at Ho Hrd2;have Hs2:=B9t s2;clear hpt hsk hnw s1 s2 hRl hJ hT1 hD hn2e hc2e;refine B9o ?_;refine r0T ?_;refine B9w (rfl) ?_;refine B9v ?_;refine A6 ?_;refine B9o ?_;refine C0M ?_;refine B9o (rdC A8 [] [(0,0),(0,1),(0,2),(0,3),(0,4),(0,5),(0,6),(0,7),(0,8),(0,9),(1,10)] hB hG λK L hN hL=>?_)
              repeat first|refine gya ?_|refine gyr ?_|refine gna ?_|refine gyb (by(rintro v ⟨hgu,hB,hG,-⟩ N hN;have r:=hB.r;simp only[BxR]at r;obtain⟨⟨y1,y2,y3,y4,y5⟩,x1,x2,x3,x4,x5⟩:=Hrd2.out v (C0 Ho.out hgu);go_simp;exact hN)) ?_
              refine gmw (C:=λv=>Hcy.out _) ?_;refine geC hL ?_;clear hB hG hL L;rintro u ⟨hgu,hB,hG,-⟩;have Ho2:=B9t (C0 Ho.out hgu);have Hgb2:=B9t (F0 Hgb.out hgu);clear Ho Hgb;have Ho:=Ho2;have Hgb:=Hgb2;clear Ho2 Hgb2;clear hgu;refine gtT ?_;clear hN K;refine B9u (rfl) ?_;refine B9v ?_;refine C7 ?_;refine A6 ?_;refine r0E ?_;refine A6 ?_;go_roundw
              case rel=>exact⟨t+1,c,by have:=HJ.out;omega,rfl,by obtain⟨h1,h2⟩:=HJ.out;subst h2;go_num,by have:=HJ.out.1;rw[show i1+(t+1)+1=J+1 by omega];exact Hs2.out.symm,by omega,by have:=HJ.out.1;rw[show i1+(t+1)+1=J+1 by omega];exact Ho.out,hG,Hgb.out⟩
              case measure=>obtain⟨h1,h2⟩:=HJ.out;simp[intOf];omega
            · have Hpt:=B9t (hpt hnw)
              clear hpt hsk hnw hJ hT1 hD hn2e hc2e;refine B9o ?_;refine r0T ?_;refine B9w (rfl) ?_;refine B9v ?_;refine A6 ?_;refine B9o ?_;refine C0M ?_;refine B9o (rdC A8 [] [(0,0),(0,1),(0,2),(0,3),(0,4),(0,5),(0,6),(0,7),(0,8),(0,9),(1,10)] hB hG λK L hN hL=>?_)
              repeat first|refine gya ?_|refine gyr ?_|refine gna ?_|refine gyb (by(rintro v ⟨hgu,hB,hG,-⟩ N hN;have r:=hB.r;simp only[BxR]at r;obtain⟨⟨y1,y2,y3,y4,y5⟩,x1,x2,x3,x4,x5⟩:=Hrd2.out v (C0 Ho.out hgu);go_simp;exact hN)) ?_
              refine gmw (C:=λv=>Hcy.out _) ?_;refine geC hL ?_;clear hB hG hL L;rintro u ⟨hgu,hB,hG,-⟩;have Ho2:=B9t (C0 Ho.out hgu);have Hgb2:=B9t (F0 Hgb.out hgu);clear Ho Hgb;have Ho:=Ho2;have Hgb:=Hgb2;clear Ho2 Hgb2;clear hgu;refine gtT ?_;clear hN K;refine B9w (rfl) ?_;refine B9o ?_;obtain⟨⟨y1,y2,y3,y4,y5⟩,-⟩:=Hrd2.out u Ho.out;obtain⟨z0,z1,z2,z3,z4,o0,o1,o2,o3,o4,hfz⟩:=A0X (enc:=qL) (λ_=>rfl) Ho.out hRl.symm c (by rw[hRl];omega);refine r0N ?_;clear y1 y2 y3 y4 y5 o0 o1 o2 o3 o4 hfz;generalize hu0:World.setCell (World.setCell (World.setCell (World.setCell (World.setCell u _ _) _ _) _ _) _ _) _ _=u0;have hu1:C3 u g (c*5) (qL X)=u0:=hu0;have hP:=V4 (enc:=qL) (size:=5) (ps:=R) (λ_=>rfl) Ho.out c X (by rw[hRl];omega);rw[Hpt.out.1,hu1]at hP;have hG2:=O5 (Ho.out.mono hB0) hG hP.2;have Hgb2:=B9t (A2K Hgb.out hP.2);have Ho2:=B9t hP.1;clear hG hB Ho Hgb hP hu1 hu0;have hG:=hG2;have Ho:=Ho2;have Hgb:=Hgb2;have hB:=Bx.nil u0;clear hG2 Ho2 Hgb2;obtain⟨u,rfl⟩:=exQ u0;refine r0E ?_;refine C7 ?_;refine A6 ?_;refine r0E ?_;refine A6 ?_;go_roundw
              case rel=>exact⟨t+1,c+1,by have:=HJ.out;omega,by go_num,by obtain⟨h1,h2⟩:=HJ.out;subst h2;go_num,by have:=HJ.out.1;rw[show i1+(t+1)+1=J+1 by omega];exact Hpt.out.2.symm,by omega,by have:=HJ.out.1;rw[show i1+(t+1)+1=J+1 by omega];exact Ho.out,hG,Hgb.out⟩
              case measure=>obtain⟨h1,h2⟩:=HJ.out;simp[intOf];omega
          · obtain rfl:n=J:=by omega
            have hdec2:decide ((T1:Int)<(n2:Int))=false:=by simp;omega
            have hdec3:decide (T1<n2)=false:=by simp;omega
            have e3:(Q9 l n).take c=H5 l n:=by
              have:=B7U (l:=l);rw[Hl.out,<-hc]at this;exact this
            have He3:=B9t e3;have Hc:=B9t hc;clear e3 hc
            obtain⟨vs,hcr⟩:=B4n g (c*5) (n-c) (cap-c) (by omega) u (λj hj=>by
              have:=A0E (enc:=qL) (λ_=>rfl) Ho.out hRl.symm (c+j/5) (j%5) (by rw[hRl];omega) (by omega);rw[show(c+j/5)*5+j%5=c*5+j by omega]at this;rw[this,B99 (by show j%5<5;omega)];rfl) (λj=>by
              obtain⟨z0,z1,z2,z3,z4,o0,o1,o2,o3,o4,hfz⟩:=A0X (enc:=qL) (λ_=>rfl) Ho.out hRl.symm c (by rw[hRl];omega)
              exact hfz j)
            have hP:=B47 (vs:=vs) Ho.out (by omega:c<=n) hRl rfl;rw[He3.out]at hP;have hG2:=O5 (Ho.out.mono hB0) hG hP.2;have hgb2:=A2K Hgb.out hP.2;have hsr:=B40 g 0 n cap c (by omega) hcap (by omega);have HP:=B9t (And.intro hP.1 (And.intro hG2 hgb2));clear hP hG2 hgb2 hRl Ho Hgb;obtain⟨u2,hu2⟩:∃x,x=C3 u g (c*5) vs:=⟨_,rfl⟩
            rw[<-hu2]at hcr HP;clear hu2;rw[Nat.zero_add]at hsc;obtain⟨D2,hD2⟩:∃x,x=c*5:=⟨_,rfl⟩
            obtain⟨n3,hn3⟩:∃x,x=n-c:=⟨_,rfl⟩
            obtain⟨c3,hc3⟩:∃x,x=cap-c:=⟨_,rfl⟩
            rw[<-hD2,<-hn3,<-hc3]at hcr;simp only[<-hD2,<-hn3,<-hc3]at hsc;clear hD2 hn3 hc3 hD hn2e hc2e hT1 hJ;refine B9o ?_;refine r0T ?_;refine B9u (rfl) ?_;refine C0O ?_;refine B9 ?_;refine B9 ?_;refine E3 ?_;refine A6 ?_;refine B9o ?_;refine N3 ?_;intro K hN;go_wp2_with (at_builtin;refine B5e rfl (.tmp 61) 35 rfl rfl (hcr _) ?_);clear hB hG;have hG:=HP.out.2.1;have hB:=Bx.nil u2;obtain⟨u,rfl⟩:=exQ u2;refine NoK.norm (hN _ _ ?_);clear hN K;refine A6 ?_;refine r0T ?_;refine rt Tryz.results117 ?_;exact⟨by rw[<-Hc.out],by rw[<-Hc.out];exact HP.out.1,HP.out.2.2⟩
      · have Hnx := B9t (show ∀ j, j < i1 + 1 → Q3 l j = true from fun j hj => by
          rcases B9U j i1 with h|h
          · exact Hall.out j h
          · obtain rfl:j=i1:=by omega
            exact hnw)
        clear hnw;refine B9o ?_;refine r0T ?_;refine B9w (rfl) ?_;refine B9v ?_;refine A6 ?_;refine B9o ?_;refine C0M ?_;refine B9o ?_;refine A2F (w:=w) A8 10 [] [(0,0),(0,1),(0,2),(0,3),(0,4),(0,5),(0,6),(0,7),(0,8),(0,9)] (by kernel_rfl) (by kernel_rfl) (by simp only[List.drop_succ_cons,List.drop_zero];exact rfl) (λ_=>True) noG hB hG trivial ?_;intro K L hN hL;simp only[G9,List.getElem?_toArray,List.getElem?_cons_zero,List.getElem?_cons_succ]
        repeat first|refine gya ?_|refine gyr ?_|refine gna ?_|refine gyb (by(rintro v ⟨hgu,hB,hG,-⟩ N hN;have r:=hB.r;simp only[BxR]at r;obtain⟨⟨y1,y2,y3,y4,y5⟩,x1,x2,x3,x4,x5⟩:=Hrd.out v (C0 Ho.out hgu);go_simp;exact hN)) ?_
        refine I7 ?_;rintro v ⟨hgu,hB1,hG1,-⟩;have Ho2:=B9t (C0 Ho.out hgu);have Hgb2:=B9t (F0 Hgb.out hgu);clear Ho Hgb;have Ho:=Ho2;have Hgb:=Hgb2;clear Ho2 Hgb2;clear hB hG;have hB:=hB1;have hG:=hG1;clear hB1 hG1;refine hL _ _ ?_;clear hL L hgu;obtain⟨u,rfl⟩:=exQ v;go_wp2_with (go_at_call 118;refine(Hcx.out u).mono ?_;rintro e w2 ⟨rfl,hg2⟩);have Ho2:=B9t (C0 Ho.out hg2);have Hgb2:=B9t (F0 Hgb.out hg2);have hG2:=hG.trans hg2;clear Ho Hgb hG hB hg2;have Ho:=Ho2;have Hgb:=Hgb2;have hG:=hG2;have hB:=Bx.nil w2;clear Ho2 Hgb2 hG2;obtain⟨u,rfl⟩:=exQ w2;refine NoK.norm (hN _ _ ?_);clear hN K;refine A6 ?_;refine B9u (rfl) ?_;refine B9v ?_;refine C7 ?_;refine A6 ?_;refine r0E ?_;refine A6 ?_;go_roundw
        case rel=>exact⟨i1,by omega,by go_num,Hnx.out,Ho.out,hG,Hgb.out⟩
        case measure=>simp[intOf];omega
    · obtain rfl:n=i1:=by omega
      have hdec:decide ((n:Int)<(n:Int))=false:=by simp
      have e1:H5 l n=l:=by
        have:=A7S (l:=l) (k:=n) Hall.out (by rw[Hl.out];exact K2 _);rw[this,<-Hl.out,C1I]
      have HE:=B9t e1;clear e1 hi1;refine B9o ?_;refine r0T ?_;refine B9u (rfl) ?_;refine C0O ?_;refine B9 ?_;refine B9 ?_;refine E3 ?_;refine A6 ?_;refine r0T ?_;refine rt Tryz.results117 ?_;exact⟨by rw[HE.out,Hl.out],by rw[HE.out,Hl.out];exact Ho.out,Hgb.out⟩
end Go.Proofs.YtgpglgbcobeogaaGreatDoor
