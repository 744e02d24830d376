import Derived.Test.YtgpglgbcobeogaaGreatDoorN43
set_option linter.unusedSimpArgs false
set_option linter.unusedVariables false
set_option maxHeartbeats 4000000
set_option maxRecDepth 100000
namespace Go.Proofs.YtgpglgbcobeogaaGreatDoor
open Go Go.RowKit
theorem A9H(b:Nat):∀(vs:List Value) (i:Nat) (W:World),W.setCells b i vs=C2 W b i vs
 | [],_,_=>rfl
 | v::vs,i,W=>A9H b vs (i+1) _
theorem B2E(n:Nat):(Builtin.zeroCells (Value.agg (qL 0).toArray).cells n).toList.length=n*5/\∀v∈(Builtin.zeroCells (Value.agg (qL 0).toArray).cells n).toList,v.oneCell'=true:=by
 unfold Builtin.zeroCells;refine⟨by simp[Value.cells,qL],λv hv=>?_⟩;simp only[Array.toList_map,List.mem_map,Array.toList_range,List.mem_range]at hv;obtain⟨i,hi,rfl⟩:=hv;have h5:i%(Value.agg (qL 0).toArray).cells.size<5:=B9R _ (by decide);have h6:(Value.agg (qL 0).toArray).cells.size=5:=rfl;rw[h6]at h5⊢;generalize i%5=j at h5⊢;have:j=0\/j=1\/j=2\/j=3\/j=4:=by omega
 rcases this with rfl|rfl|rfl|rfl|rfl<;>rfl
theorem B08(b o n c:Nat)(hn:0<n)(W:World)(hc:∀j,j<n*5->(W.cell? ⟨b,o+j,none⟩).isSome=true)(hf:∀j,W.frozen? ⟨b,j,none⟩=false) :
  ∃vs:List Value,∀ty:TypeId,(Builtin.clear_ #[35] ty #[.slice (some ⟨b,o,none⟩) n c]).run Tryz.prog W = .ok (.tuple #[]) (C2 W b o vs):=by
 obtain⟨i0,hi0,hz0,hz1,hz2⟩:=B9T A5y;obtain⟨h1,h2⟩:=B2E n;refine⟨(Builtin.zeroCells (Value.agg (qL 0).toArray).cells n).toList,λty=>?_⟩;have hst:=run_storeCells_cells (P:=Tryz.prog) b o _ 0 W (λj hj=>by rw[Nat.add_zero];exact hc j (by rw[<-h1];exact hj)) (λj _=>by rw[Nat.add_zero];exact hf _) h2;rw[Nat.add_zero,A9H]at hst;obtain⟨m,rfl⟩:∃m,n=m+1:=⟨n-1,by omega⟩
 have hzv:(zeroValue 48).run Tryz.prog W = .ok (.agg (qL 0).toArray) W:=by
  unfold zeroValue;simp only[Sem.run_bind,run_typeInfo W hi0,hz0,Result.andThen_ok];rfl
 simp[Builtin.clear_,run_underlying Tryz.underlying35,hzv,hst]
theorem B4A(a b:Rat)(h:qs a+qs b+1<=BIG)(w:World):Calls Tryz.prog 118 #[qV a,qV b] w λe w'=>e = .returned (.bool (decide (a=b)))/\A4 w w':=by
 have hcm:=λW=>W8 a b W (by omega);have hz:(E9 a b == 0)=decide (a=b):=by
  unfold E9;by_cases h1:a<b
  ·have:a≠b:=by grind
   simp[h1,this]
  ·by_cases h2:b<a
   ·have:a≠b:=by grind
    simp[h1,h2,this]
   ·have:a=b:=by grind
    simp[h1,h2,this]
 obtain⟨S,hS⟩:∃S,S=E9 a b:=⟨_,rfl⟩
 rw[<-hS]at hz;simp only[<-hS]at hcm;have Hcm:=B9I hcm;have Hz:=B9I hz;clear hcm hz hS h;go_enter Tryz.func118,Tryz.ntmps118;refine en2 ?_;intro u hG b3 b2 hB hF;refine B9D (rsE A8 [0,0,1,0,0] hB hG λL hL=>?_);refine gs ?_;refine gmw (C:=λv=>Hcm.out _) ?_;refine gs ?_;refine geT hL ?_;clear hB hG hL L;rintro u ⟨-,hB,hG,-⟩;refine rt Tryz.results118 ?_;exact⟨by rw[Hz.out],hG⟩
def P8(l:List Rat)(j:Nat):List Rat:=H4 l j++l.drop (H4 l j).length
theorem A7N{l:List Rat}{j:Nat}(h:j<=l.length):(P8 l j).length=l.length:=by
 unfold P8;have:=A6g l j;rw[List.length_append,B93];omega
theorem B3m{l:List Rat}{j t:Nat}(h:(H4 l j).length<=t):gq (P8 l j) t=gq l t:=by
 unfold P8 gq;rw[C0l h,List.getElem?_drop];rw[show(H4 l j).length+(t-(H4 l j).length)=t by omega]
theorem A6d{l:List Rat}:∀ {k:Nat},(∀i,i<k->O5 l i=true)->k<=l.length->H4 l k=l.take k
 | 0,_,_=>by unfold H4;simp
 | k+1,h,hk=>by
  rw[A4Z,if_pos (h k (by omega)),A6d (λi hi=>h i (by omega)) (by omega),List.take_add_one];unfold gq;rw[B9Y (by omega)];simp
theorem B16{l:List Rat}{k:Nat}(h:∀i,i<k->O5 l i=true)(hk:k<l.length)(h2:O5 l k=false):P8 l (k+1)=l/\(H4 l (k+1)).length=k:=by
 have e:H4 l (k+1)=l.take k:=by rw[A4Z,h2,if_neg (by simp),A6d h (by omega)]
 have e2:(l.take k).length=k:=by rw[List.length_take];omega
 refine⟨?_,by rw[e,e2]⟩;unfold P8;rw[e,e2,B83]
theorem B4g{l:List Rat}{j:Nat}(h:O5 l j=false):P8 l (j+1)=P8 l j/\(H4 l (j+1)).length=(H4 l j).length:=by
 have e:H4 l (j+1)=H4 l j:=by rw[A4Z,h,if_neg (by simp)]
 unfold P8;rw[e];exact⟨rfl,rfl⟩
theorem B3x{l:List Rat}{j:Nat}(h:O5 l j=true)(hj:j<l.length):(P8 l j).set (H4 l j).length (gq l j)=P8 l (j+1)/\(H4 l (j+1)).length=(H4 l j).length+1:=by
 have e:H4 l (j+1)=H4 l j++[gq l j]:=by rw[A4Z,if_pos h]
 have hl:=A6g l j;unfold P8;rw[e];refine⟨?_,by simp⟩;rw[List.set_append_right _ _ (B8s _),B9W,B97 (by omega),List.set_cons_zero];simp
theorem B4E{l:List Rat}:(P8 l l.length).take (H4 l l.length).length=H4 l l.length:=by
 unfold P8;simp
theorem B5S{l:List Rat}{i:Nat}(h:1<=i):O5 l i=decide (gq l i≠gq l (i-1)):=by
 unfold O5;rw[B92 (by omega:¬i=0),Bool.false_or]
theorem B1w{u:World}{B g cap n m:Nat}{l:List Rat}(h:u.ownsRow B 48 5 (.slice (some ⟨g,0,none⟩) n cap) n (l.flatMap qL))(hm:m<=n)(hl:l.length=n):u.ownsRow B 48 5 (.slice (some ⟨g,0,none⟩) m cap) m ((l.take m).flatMap qL):=by
 obtain⟨-,⟨e,-⟩|⟨g',cap',cur,e,hb,hh,hc,hmx,hz,ht⟩⟩:=h
 ·cases e
 ·cases e;have hlt:(l.take m).length=m:=by rw[List.length_take];omega
  refine⟨by rw[X8,hlt,B9j],.inr ⟨g,cap,cur,rfl,hb,hh,by omega,hmx,hz,?_⟩⟩;have e1:l.flatMap qL=(l.take m).flatMap qL++(l.drop m).flatMap qL:=by rw[<-C0v,B83]
  have e2:cur.toList.take (m*5)=(cur.toList.take (n*5)).take (m*5):=by rw[List.take_take,B9t (by omega)]
  rw[e2,ht,e1,List.take_append_of_le_length (by rw[X8,hlt];omega),B9k (by rw[X8,hlt];omega)]
theorem B2l{u:World}{B g cap n m o:Nat}{l:List Rat}{vs:List Value}(h:u.ownsRow B 48 5 (.slice (some ⟨g,0,none⟩) n cap) n (l.flatMap qL))(hm:m<=n)(hl:l.length=n)(ho:o=m*5):(C2 u g o vs).ownsRow B 48 5 (.slice (some ⟨g,0,none⟩) m cap) m ((l.take m).flatMap qL)/\u.grownBy (C2 u g o vs) (some g):=by
 have h1:=B1w h hm hl;refine⟨?_,V6 g vs o u⟩;have key:∀(vs:List Value) (o:Nat) (u:World),m*5<=o->u.ownsRow B 48 5 (.slice (some ⟨g,0,none⟩) m cap) m ((l.take m).flatMap qL)->(C2 u g o vs).ownsRow B 48 5 (.slice (some ⟨g,0,none⟩) m cap) m ((l.take m).flatMap qL):=by
  intro vs
  induction vs with
  | nil=>exact λo u _ h=>h
  | cons v vs ih =>
   intro o u hle h;refine ih (o+1) _ (by omega) ?_;obtain⟨h3,-⟩:=h.stored o v;have hl2:=h.1
   rwa [List.set_eq_of_length_le (by omega)]at h3
 exact key vs o u (by omega) h1
theorem B2c{P:Program}{ops:Array Oper}{rest:List Oper}{o:Oper}{a:Act}{w w':World}{Q:Exit->Act->World->Prop}{v x:Value}(hgd:o.guard=none)(s:Operand)(t:TypeId)
  (ho:o.op = .call { callee:=.builtin .clear,args:=#[s],argTypes:=#[t] }) (hs:a.eval s=x) (hr:(Builtin.clear_ #[t] o.type #[x]).run P w = .ok v w') (h:wpList P ops Q rest (a.put o.dst v) w'):wpList P ops Q (o::rest) a w:=by
 refine wpList_plain hgd λK hK=>?_;unfold Oper.wp execOp;simp only[ho,resolve,invoke,builtin,Sem.run_bind,Sem.run_pure,Result.andThen_ok,List.map_toArray,List.map_cons,List.map_nil,hs,hr];exact hK _ _ h
theorem A8Q(b o n c k:Nat)(hk:k<n)(hc:n<=c)(hn:n<=1048576)(W:World):(Instr.slice 35 (.slice (some ⟨b,o,none⟩) n c) (some (.int .i64 (k:Nat))) none none).run Tryz.prog W = .ok (.slice (some ⟨b,o+k*5,none⟩) (n-k) (c-k)) W:=by
 have h1:(k:Int)<=(n:Int):=by omega
 have h2:(n:Int)<=(c:Int):=by omega
 have h3:¬c=k:=by omega
 go_simp
theorem B36(b o n c k:Nat)(hk:k<=n)(hc:n<=c)(hn:n<=1048576)(W:World):(Instr.slice 35 (.slice (some ⟨b,o,none⟩) n c) none (some (.int .i64 (k:Nat))) none).run Tryz.prog W = .ok (.slice (some ⟨b,o,none⟩) k c) W:=by
 have h1:(k:Int)<=(c:Int):=by omega
 go_simp
theorem B5z {s B g cap n : Nat} (l : List Rat) (hn : l.length = n) (hn2 : 2 ≤ n) (hm : n ≤ 1000000) (hs : ∀ i, i < n → qs (gq l i) ≤ s) (hBz : 2 * s + 1 ≤ BIG) (w0 w : World) (hG0 : A4 w0 w) (hB0 : w0.heap.size ≤ B) (h : w.ownsRow B 48 5 (.slice (some ⟨g, 0, none⟩) n cap) n (l.flatMap qL)) :
    Calls Tryz.prog 117 #[.slice (some ⟨g,0,none⟩) n cap,.func (.func 118) #[] #[]] w λe w'=>e = .returned (.slice (some ⟨g,0,none⟩) (H4 l n).length cap)/\w'.ownsRow B 48 5 (.slice (some ⟨g,0,none⟩) (H4 l n).length cap) (H4 l n).length ((H4 l n).flatMap qL)/\w.grownBy w' (some g):=by
  have hBm:=J7;obtain⟨hcap,hcapm⟩:n<=cap/\cap<=maxLen:=by
    obtain⟨-,⟨e,-⟩|⟨g',cap',cur,e,hb,hh,hc,hmx,hz,ht⟩⟩:=h
    · cases e
    · cases e;exact⟨hc,hmx⟩
  have hd2:decide ((n:Int)<2)=false:=by simp;omega
  have hgb0:B<=g:=(h.lt g rfl).1;have hat:∀(j i:Nat),j<=n->(H4 l j).length<=i->i<n->∀W:World,W.ownsRow B 48 5 (.slice (some ⟨g,0,none⟩) n cap) n ((P8 l j).flatMap qL)->Cq W g (i*5) (gq l i):=λj i hj hi hin W ho=>by
    have hl:=A7N (l:=l) (j:=j) (by omega);obtain⟨A,c,e,-,-,hL,-⟩:=K8 ho;cases e;have:=hL.read (i:=i) (by omega);rw[B3m hi]at this
    simpa using this
  have hat0:∀i,i<n->∀W:World,W.ownsRow B 48 5 (.slice (some ⟨g,0,none⟩) n cap) n (l.flatMap qL)->Cq W g (i*5) (gq l i):=λi hin W ho=>by
    obtain⟨A,c,e,-,-,hL,-⟩:=K8 ho;cases e;have:=hL.read (i:=i) (by omega)
    simpa using this
  have hcl:∀i j,i<n->j<n->∀W,Calls Tryz.prog 118 #[qV (gq l i),qV (gq l j)] W λe w'=>e = .returned (.bool (decide (gq l i=gq l j)))/\A4 W w':=λi j hi hj W=>B4A _ _ (by have:=hs i hi;have:=hs j hj;omega) W;have hnw:∀i,1<=i->O5 l i = !decide (gq l i=gq l (i-1)):=λi hi=>by rw[B5S hi];simp
  have Hat:=B9I hat;have Hat0:=B9I hat0;have Hcl:=B9I hcl;have Hnw:=B9I hnw;have Ho:=B9I h;have HG0:=B9I hG0;have Hs:=B9I hs;have Hl:=B9I hn;clear hat hat0 hcl hnw h hG0 hs hn;go_enter Tryz.func117,Tryz.ntmps117;refine en0 ?_;intro u hG hB hF;refine B9D ?_;refine r0T ?_;refine B9J (rfl) ?_;refine B9K ?_;refine A6 ?_;refine B9D ?_;refine r0T ?_;have hgb:=F0 (A44 w (some g)) hG;have hG2:=HG0.out.trans hG;have ho:=C0 Ho.out hG;clear hG hF HG0 Ho;obtain⟨w1,rfl⟩:=exQ w;obtain⟨w,rfl⟩:=exQ w0;have hG:=hG2;clear hG2;refine B9l ?_;go_loopw [5] (λs0 wr=>∃i:Nat,i+1<=n/\s0 = .int .i64 ((i+1:Nat):Int)/\(∀j,j<i+1->O5 l j=true)/\wr.ownsRow B 48 5 (.slice (some ⟨g,0,none⟩) n cap) n (l.flatMap qL)/\A4 w wr/\w1.grownBy wr (some g)) (λs0 _=>n-(intOf s0).toNat)
  case atStart => exact ⟨0, by omega, rfl, fun j hj => by obtain rfl : j = 0 := by omega
                                                          rfl,ho,hG,hgb⟩
  case round =>
    clear hB hG ho hgb;obtain⟨i,hi,rfl,hall,ho,hG,hgb⟩:=hrel;obtain⟨u,rfl⟩:=exQ wr;have hB:=Bx.nil u;have hF:=Fr.nil w;have Ho:=B9I ho;have Hgb:=B9I hgb;have Hall:=B9I hall;clear hall ho hgb;obtain⟨i1,hi1⟩:∃k,k=i+1:=⟨_,rfl⟩
    rw[<-hi1]at hi Hall⊢;rcases B8t i1 n with hlt|hge
    · have hdec:decide ((i1:Int)<(n:Int))=true:=by simp;omega
      have hin:(i1:Int)<(n:Int):=by omega
      have hin0:(i:Int)<(n:Int):=by omega
      have fw:IntKind.i64.wrap ((i1:Int)-1)=(i:Int):=by rw[B9Z _ (by omega)];omega
      have hcl:=Hcl.out i1 i hlt (by omega);have hnw:=Hnw.out i1 (by omega);rw[show i1-1=i by omega]at hnw;have hrd:∀W:World,W.ownsRow B 48 5 (.slice (some ⟨g,0,none⟩) n cap) n (l.flatMap qL)->Cq W g (i1*5) (gq l i1)/\Cq W g (i*5) (gq l i):=λW ho=>⟨Hat0.out i1 hlt W ho,Hat0.out i (by omega) W ho⟩
      obtain⟨X,hX⟩:∃X,X=gq l i1:=⟨_,rfl⟩
      obtain⟨Y,hY⟩:∃X,X=gq l i:=⟨_,rfl⟩
      simp only[<-hX,<-hY]at hcl hnw hrd;have Hrd:=B9I hrd;have Hcx:=B9I hcl;have Hi1:=B9I hi1;clear hrd hcl hX hY hi1;obtain⟨b,hb⟩:∃b,b=decide (X=Y):=⟨_,rfl⟩
      rw[<-hb]at hnw Hcx;clear hb;rcases C1K b with rfl|rfl
      · obtain⟨hst,hct⟩:=B16 Hall.out (by rw[Hl.out];exact hlt) hnw
        have Hst:=B9I (And.intro hst hct);clear hnw hst hct;have hsl:=A8Q g 0 n cap i1 hlt hcap (by omega);rw[Nat.zero_add]at hsl;obtain⟨D,hD⟩:∃x,x=i1*5:=⟨_,rfl⟩
        obtain⟨n2,hn2e⟩:∃x,x=n-i1:=⟨_,rfl⟩
        obtain⟨c2,hc2e⟩:∃x,x=cap-i1:=⟨_,rfl⟩
        rw[<-hD,<-hn2e,<-hc2e]at hsl;have hnb:n2<=1000000:=by omega
        have HD:=B9I (And.intro hD (And.intro hn2e hc2e));clear hD hn2e hc2e;refine B9D ?_;refine r0T ?_;refine B9L (rfl) ?_;refine B9K ?_;refine A6 ?_;refine B9D ?_;refine B9l ?_;refine B9D ?_;refine A2I (w:=w) A8 10 [] [(0,0),(0,1),(0,2),(0,3),(0,4),(0,5),(0,6),(0,7),(0,8),(0,9)] (by kernel_rfl) (by kernel_rfl) (by simp only[List.drop_succ_cons,List.drop_zero];exact rfl) (λ_=>True) noG hB hG trivial ?_;intro K L hN hL;simp only[H3,List.getElem?_toArray,List.getElem?_cons_zero,List.getElem?_cons_succ]
        repeat first|refine gya ?_|refine gyr ?_|refine gna ?_|refine gyb (by(rintro v ⟨hgu,hB,hG,-⟩ N hN;have r:=hB.r;simp only[BxR]at r;obtain⟨⟨y1,y2,y3,y4,y5⟩,x1,x2,x3,x4,x5⟩:=Hrd.out v (C0 Ho.out hgu);go_simp;exact hN)) ?_
        refine I8 ?_;rintro v ⟨hgu,hB1,hG1,-⟩;have Ho2:=B9I (C0 Ho.out hgu);have Hgb2:=B9I (F0 Hgb.out hgu);clear Ho Hgb;have Ho:=Ho2;have Hgb:=Hgb2;clear Ho2 Hgb2;clear hB hG;have hB:=hB1;have hG:=hG1;clear hB1 hG1;refine hL _ _ ?_;clear hL L hgu;obtain⟨u,rfl⟩:=exQ v;go_wp2_with (go_at_call 118;refine(Hcx.out u).mono ?_;rintro e w2 ⟨rfl,hg2⟩);have Ho2:=B9I (C0 Ho.out hg2);have Hgb2:=B9I (F0 Hgb.out hg2);have hG2:=hG.trans hg2;clear Ho Hgb hG hB hg2;have Ho:=Ho2;have Hgb:=Hgb2;have hG:=hG2;have hB:=Bx.nil w2;clear Ho2 Hgb2 hG2;obtain⟨u,rfl⟩:=exQ w2;refine NoK.norm (hN _ _ ?_);clear hN K;refine A6 ?_;refine B9L (rfl) ?_;refine r0T ?_;refine B9D ?_;refine r0T ?_;refine B9l ?_;have hgb:=Hgb.out;have ho:=Ho.out;clear Ho Hgb;go_loopw [5,7] (λs0 s1 wr=>∃t c:Nat,i1+t+1<=n/\s0 = .int .i64 (c:Nat)/\s1 = .int .i64 ((t+1:Nat):Int)/\c=(H4 l (i1+t+1)).length/\c<=i1+t/\wr.ownsRow B 48 5 (.slice (some ⟨g,0,none⟩) n cap) n ((P8 l (i1+t+1)).flatMap qL)/\A4 w wr/\w1.grownBy wr (some g)) (λ_ s1 _=>n-(intOf s1).toNat)
        case atStart=>exact⟨0,i1,by omega,rfl,rfl,Hst.out.2.symm,by omega,by have:=Hst.out.1;rw[Nat.add_zero,this];exact ho,hG,hgb⟩
        case round =>
          clear hB hG ho hgb;obtain⟨t,c,ht,rfl,rfl,hc,hct,ho,hG,hgb⟩:=hrel;obtain⟨u,rfl⟩:=exQ wr;have hB:=Bx.nil u;have hF:=Fr.nil w;have Ho:=B9I ho;have Hgb:=B9I hgb;clear ho hgb;obtain⟨T1,hT1⟩:∃k,k=t+1:=⟨_,rfl⟩
          obtain⟨J,hJ⟩:∃k,k=i1+t+1:=⟨_,rfl⟩
          rw[<-hT1];rw[<-hJ]at ht hc Ho;have hRl:=A7N (l:=l) (j:=J) (by rw[Hl.out];exact ht);rw[Hl.out]at hRl;obtain⟨hD,hn2e,hc2e⟩:=HD.out;have hsc:=A8Q g 0 n cap c (by omega) hcap (by omega);rcases B8t J n with hlt2|hge2
          · have hdec2:decide ((T1:Int)<(n2:Int))=true:=by simp;omega
            have hin2:(T1:Int)<(n2:Int):=by omega
            have hin3:(t:Int)<(n2:Int):=by omega
            have hin4:(c:Int)<(n:Int):=by omega
            have fw2:IntKind.i64.wrap ((T1:Int)-1)=(t:Int):=by rw[B9Z _ (by omega)];omega
            have hcl:=Hcl.out J (i1+t) hlt2 (by omega);have hnw:=Hnw.out J (by omega);rw[show J-1=i1+t by omega]at hnw;have hrd:∀W:World,W.ownsRow B 48 5 (.slice (some ⟨g,0,none⟩) n cap) n ((P8 l J).flatMap qL)->Cq W g (D+T1*5) (gq l J)/\Cq W g (D+t*5) (gq l (i1+t)):=λW ho=>by
              have h1:=Hat.out J J (by omega) (by omega) hlt2 W ho;have h2:=Hat.out J (i1+t) (by omega) (by omega) (by omega) W ho;rw[show J*5=D+T1*5 by omega]at h1;rw[show(i1+t)*5=D+t*5 by omega]at h2;exact⟨h1,h2⟩
            have hpt:=λh=>B3x (l:=l) (j:=J) h (by rw[Hl.out];exact hlt2);have hsk:=λh=>B4g (l:=l) (j:=J) h;rw[<-hc]at hpt hsk;obtain⟨X,hX⟩:∃X,X=gq l J:=⟨_,rfl⟩
            obtain⟨Y,hY⟩:∃X,X=gq l (i1+t):=⟨_,rfl⟩
            simp only[<-hX,<-hY]at hcl hnw hrd hpt;have Hrd2:=B9I hrd;have Hcy:=B9I hcl;have HJ:=B9I (And.intro hJ hT1);obtain⟨R,hR⟩:∃R,R=P8 l J:=⟨_,rfl⟩
            rw[<-hR]at Ho Hrd2 hpt hsk hRl;clear hrd hcl hX hY hc hR;obtain⟨b,hb⟩:∃b,b=decide (X=Y):=⟨_,rfl⟩
            rw[<-hb]at hnw Hcy;clear hb;rcases C1K b with rfl|rfl
            · obtain⟨s1,s2⟩:=hsk hnw
              rw[<-s1]at Ho Hrd2;have Hs2:=B9I s2;clear hpt hsk hnw s1 s2 hRl hJ hT1 hD hn2e hc2e;refine B9D ?_;refine r0T ?_;refine B9L (rfl) ?_;refine B9K ?_;refine A6 ?_;refine B9D ?_;refine B9l ?_;refine B9D (rdC A8 [] [(0,0),(0,1),(0,2),(0,3),(0,4),(0,5),(0,6),(0,7),(0,8),(0,9),(1,10)] hB hG λK L hN hL=>?_)
              repeat first|refine gya ?_|refine gyr ?_|refine gna ?_|refine gyb (by(rintro v ⟨hgu,hB,hG,-⟩ N hN;have r:=hB.r;simp only[BxR]at r;obtain⟨⟨y1,y2,y3,y4,y5⟩,x1,x2,x3,x4,x5⟩:=Hrd2.out v (C0 Ho.out hgu);go_simp;exact hN)) ?_
              refine gmw (C:=λv=>Hcy.out _) ?_;refine geC hL ?_;clear hB hG hL L;rintro u ⟨hgu,hB,hG,-⟩;have Ho2:=B9I (C0 Ho.out hgu);have Hgb2:=B9I (F0 Hgb.out hgu);clear Ho Hgb;have Ho:=Ho2;have Hgb:=Hgb2;clear Ho2 Hgb2;clear hgu;refine gtT ?_;clear hN K;refine B9J (rfl) ?_;refine B9K ?_;refine C5 ?_;refine A6 ?_;refine r0E ?_;refine A6 ?_;go_roundw
              case rel=>exact⟨t+1,c,by have:=HJ.out;omega,rfl,by obtain⟨h1,h2⟩:=HJ.out;subst h2;go_num,by have:=HJ.out.1;rw[show i1+(t+1)+1=J+1 by omega];exact Hs2.out.symm,by omega,by have:=HJ.out.1;rw[show i1+(t+1)+1=J+1 by omega];exact Ho.out,hG,Hgb.out⟩
              case measure=>obtain⟨h1,h2⟩:=HJ.out;simp[intOf];omega
            · have Hpt:=B9I (hpt hnw)
              clear hpt hsk hnw hJ hT1 hD hn2e hc2e;refine B9D ?_;refine r0T ?_;refine B9L (rfl) ?_;refine B9K ?_;refine A6 ?_;refine B9D ?_;refine B9l ?_;refine B9D (rdC A8 [] [(0,0),(0,1),(0,2),(0,3),(0,4),(0,5),(0,6),(0,7),(0,8),(0,9),(1,10)] hB hG λK L hN hL=>?_)
              repeat first|refine gya ?_|refine gyr ?_|refine gna ?_|refine gyb (by(rintro v ⟨hgu,hB,hG,-⟩ N hN;have r:=hB.r;simp only[BxR]at r;obtain⟨⟨y1,y2,y3,y4,y5⟩,x1,x2,x3,x4,x5⟩:=Hrd2.out v (C0 Ho.out hgu);go_simp;exact hN)) ?_
              refine gmw (C:=λv=>Hcy.out _) ?_;refine geC hL ?_;clear hB hG hL L;rintro u ⟨hgu,hB,hG,-⟩;have Ho2:=B9I (C0 Ho.out hgu);have Hgb2:=B9I (F0 Hgb.out hgu);clear Ho Hgb;have Ho:=Ho2;have Hgb:=Hgb2;clear Ho2 Hgb2;clear hgu;refine gtT ?_;clear hN K;refine B9L (rfl) ?_;refine B9D ?_;obtain⟨⟨y1,y2,y3,y4,y5⟩,-⟩:=Hrd2.out u Ho.out;obtain⟨z0,z1,z2,z3,z4,o0,o1,o2,o3,o4,hfz⟩:=Z6 (enc:=qL) (λ_=>rfl) Ho.out hRl.symm c (by rw[hRl];omega);refine r0N ?_;clear y1 y2 y3 y4 y5 o0 o1 o2 o3 o4 hfz;generalize hu0:World.setCell (World.setCell (World.setCell (World.setCell (World.setCell u _ _) _ _) _ _) _ _) _ _=u0;have hu1:C2 u g (c*5) (qL X)=u0:=hu0;have hP:=R4 (enc:=qL) (size:=5) (ps:=R) (λ_=>rfl) Ho.out c X (by rw[hRl];omega);rw[Hpt.out.1,hu1]at hP;have hG2:=N4 (Ho.out.mono hB0) hG hP.2;have Hgb2:=B9I (A1r Hgb.out hP.2);have Ho2:=B9I hP.1;clear hG hB Ho Hgb hP hu1 hu0;have hG:=hG2;have Ho:=Ho2;have Hgb:=Hgb2;have hB:=Bx.nil u0;clear hG2 Ho2 Hgb2;obtain⟨u,rfl⟩:=exQ u0;refine r0E ?_;refine C5 ?_;refine A6 ?_;refine r0E ?_;refine A6 ?_;go_roundw
              case rel=>exact⟨t+1,c+1,by have:=HJ.out;omega,by go_num,by obtain⟨h1,h2⟩:=HJ.out;subst h2;go_num,by have:=HJ.out.1;rw[show i1+(t+1)+1=J+1 by omega];exact Hpt.out.2.symm,by omega,by have:=HJ.out.1;rw[show i1+(t+1)+1=J+1 by omega];exact Ho.out,hG,Hgb.out⟩
              case measure=>obtain⟨h1,h2⟩:=HJ.out;simp[intOf];omega
          · obtain rfl:n=J:=by omega
            have hdec2:decide ((T1:Int)<(n2:Int))=false:=by simp;omega
            have hdec3:decide (T1<n2)=false:=by simp;omega
            have e3:(P8 l n).take c=H4 l n:=by
              have:=B4E (l:=l);rw[Hl.out,<-hc]at this;exact this
            have He3:=B9I e3;have Hc:=B9I hc;clear e3 hc
            obtain⟨vs,hcr⟩:=B08 g (c*5) (n-c) (cap-c) (by omega) u (λj hj=>by
              have:=X6 (enc:=qL) (λ_=>rfl) Ho.out hRl.symm (c+j/5) (j%5) (by rw[hRl];omega) (by omega);rw[show(c+j/5)*5+j%5=c*5+j by omega]at this;rw[this,B9Y (by show j%5<5;omega)];rfl) (λj=>by
              obtain⟨z0,z1,z2,z3,z4,o0,o1,o2,o3,o4,hfz⟩:=Z6 (enc:=qL) (λ_=>rfl) Ho.out hRl.symm c (by rw[hRl];omega)
              exact hfz j)
            have hP:=B2l (vs:=vs) Ho.out (by omega:c<=n) hRl rfl;rw[He3.out]at hP;have hG2:=N4 (Ho.out.mono hB0) hG hP.2;have hgb2:=A1r Hgb.out hP.2;have hsr:=B36 g 0 n cap c (by omega) hcap (by omega);have HP:=B9I (And.intro hP.1 (And.intro hG2 hgb2));clear hP hG2 hgb2 hRl Ho Hgb;obtain⟨u2,hu2⟩:∃x,x=C2 u g (c*5) vs:=⟨_,rfl⟩
            rw[<-hu2]at hcr HP;clear hu2;rw[Nat.zero_add]at hsc;obtain⟨D2,hD2⟩:∃x,x=c*5:=⟨_,rfl⟩
            obtain⟨n3,hn3⟩:∃x,x=n-c:=⟨_,rfl⟩
            obtain⟨c3,hc3⟩:∃x,x=cap-c:=⟨_,rfl⟩
            rw[<-hD2,<-hn3,<-hc3]at hcr;simp only[<-hD2,<-hn3,<-hc3]at hsc;clear hD2 hn3 hc3 hD hn2e hc2e hT1 hJ;refine B9D ?_;refine r0T ?_;refine B9J (rfl) ?_;refine B9n ?_;refine B9 ?_;refine B9 ?_;refine E4 ?_;refine A6 ?_;refine B9D ?_;refine M6 ?_;intro K hN;go_wp2_with (at_builtin;refine B2c rfl (.tmp 61) 35 rfl rfl (hcr _) ?_);clear hB hG;have hG:=HP.out.2.1;have hB:=Bx.nil u2;obtain⟨u,rfl⟩:=exQ u2;refine NoK.norm (hN _ _ ?_);clear hN K;refine A6 ?_;refine r0T ?_;refine rt Tryz.results117 ?_;exact⟨by rw[<-Hc.out],by rw[<-Hc.out];exact HP.out.1,HP.out.2.2⟩
      · have Hnx := B9I (show ∀ j, j < i1 + 1 → O5 l j = true from fun j hj => by
          rcases B8t j i1 with h|h
          · exact Hall.out j h
          · obtain rfl:j=i1:=by omega
            exact hnw)
        clear hnw;refine B9D ?_;refine r0T ?_;refine B9L (rfl) ?_;refine B9K ?_;refine A6 ?_;refine B9D ?_;refine B9l ?_;refine B9D ?_;refine A2I (w:=w) A8 10 [] [(0,0),(0,1),(0,2),(0,3),(0,4),(0,5),(0,6),(0,7),(0,8),(0,9)] (by kernel_rfl) (by kernel_rfl) (by simp only[List.drop_succ_cons,List.drop_zero];exact rfl) (λ_=>True) noG hB hG trivial ?_;intro K L hN hL;simp only[H3,List.getElem?_toArray,List.getElem?_cons_zero,List.getElem?_cons_succ]
        repeat first|refine gya ?_|refine gyr ?_|refine gna ?_|refine gyb (by(rintro v ⟨hgu,hB,hG,-⟩ N hN;have r:=hB.r;simp only[BxR]at r;obtain⟨⟨y1,y2,y3,y4,y5⟩,x1,x2,x3,x4,x5⟩:=Hrd.out v (C0 Ho.out hgu);go_simp;exact hN)) ?_
        refine I8 ?_;rintro v ⟨hgu,hB1,hG1,-⟩;have Ho2:=B9I (C0 Ho.out hgu);have Hgb2:=B9I (F0 Hgb.out hgu);clear Ho Hgb;have Ho:=Ho2;have Hgb:=Hgb2;clear Ho2 Hgb2;clear hB hG;have hB:=hB1;have hG:=hG1;clear hB1 hG1;refine hL _ _ ?_;clear hL L hgu;obtain⟨u,rfl⟩:=exQ v;go_wp2_with (go_at_call 118;refine(Hcx.out u).mono ?_;rintro e w2 ⟨rfl,hg2⟩);have Ho2:=B9I (C0 Ho.out hg2);have Hgb2:=B9I (F0 Hgb.out hg2);have hG2:=hG.trans hg2;clear Ho Hgb hG hB hg2;have Ho:=Ho2;have Hgb:=Hgb2;have hG:=hG2;have hB:=Bx.nil w2;clear Ho2 Hgb2 hG2;obtain⟨u,rfl⟩:=exQ w2;refine NoK.norm (hN _ _ ?_);clear hN K;refine A6 ?_;refine B9J (rfl) ?_;refine B9K ?_;refine C5 ?_;refine A6 ?_;refine r0E ?_;refine A6 ?_;go_roundw
        case rel=>exact⟨i1,by omega,by go_num,Hnx.out,Ho.out,hG,Hgb.out⟩
        case measure=>simp[intOf];omega
    · obtain rfl:n=i1:=by omega
      have hdec:decide ((n:Int)<(n:Int))=false:=by simp
      have e1:H4 l n=l:=by
        have:=A6d (l:=l) (k:=n) Hall.out (by rw[Hl.out];exact B8s _);rw[this,<-Hl.out,C0h]
      have HE:=B9I e1;clear e1 hi1;refine B9D ?_;refine r0T ?_;refine B9J (rfl) ?_;refine B9n ?_;refine B9 ?_;refine B9 ?_;refine E4 ?_;refine A6 ?_;refine r0T ?_;refine rt Tryz.results117 ?_;exact⟨by rw[HE.out,Hl.out],by rw[HE.out,Hl.out];exact Ho.out,Hgb.out⟩
end Go.Proofs.YtgpglgbcobeogaaGreatDoor
