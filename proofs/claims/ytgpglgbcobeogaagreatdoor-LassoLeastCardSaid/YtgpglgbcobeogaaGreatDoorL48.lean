import Derived.Test.YtgpglgbcobeogaaGreatDoorL46
set_option linter.unusedSimpArgs false
set_option linter.unusedVariables false
set_option maxHeartbeats 16000000
set_option maxRecDepth 100000
namespace Go.Proofs.YtgpglgbcobeogaaGreatDoor
open Go Go.RowKit
theorem A02{P:Program}{ops:Array Oper}{o:Oper}{a:Act}{K:Act->World->Prop}{Q:Exit->Act->World->Prop}{E:Prop}{w w':World}{v x y:Value}(hgd:o.guard=none)(s z:Operand)(t:TypeId)
  (ho:o.op = .call { callee:=.builtin .append,args:=#[s,z],argTypes:=#[t,t] }) (hs:a.eval s=x) (hz:a.eval z=y) (hr:(Builtin.append_ #[t,t] o.type #[x,y]).run P w = .ok v w') (h:K (a.put o.dst v) w') :
  if Region.wanted o (yielded ops a.tmps)=true then Oper.wp P o a w K Q else E:=by
 have hw:Region.wanted o (yielded ops a.tmps)=true:=by simp[Region.wanted,hgd]
 rw[if_pos hw];unfold Oper.wp execOp;simp only[ho,resolve,invoke,builtin,Sem.run_bind,Sem.run_pure,Result.andThen_ok,List.map_toArray,List.map_cons,List.map_nil,hs,hz,hr];exact h
theorem A2n{T e:TypeId}{size bytes:Nat}(hE:EI T e size bytes)(B:Nat)(u:World)(v:Value)(n:Nat)(xs:List Value)(b:Nat)(ys:List Value)(hy:ys.length=size)(h1:(ys.all λy=>y.oneCell')=true)(hblk:Blk u b e ys.toArray)
  (hown:u.ownsRow B e size v n xs) (hl:n+1<=1099511627776) (hl2:(n+1)*bytes<=140737488355328) (hB:B<=u.heap.size) :
  ∃v' w',(Builtin.append_ #[T,T] T #[v,.slice (some ⟨b,0,none⟩) 1 1]).run Tryz.prog u = .ok v' w'/\w'.ownsRow B e size v' (n+1) (xs++ys)/\u.grownBy w' v.ownBlock:=by
 obtain⟨hund,⟨i0,z0,hi0,hz0,hz1,hz2,hz3⟩,hpos⟩:=hE
 obtain⟨v',w',hr,ho,hg,-,-⟩:=run_append_own_at (P:=Tryz.prog) (w:=u) B T T e i0 z0 size bytes hund hi0 hz0 hz1 hz2 hz3 hpos v n xs hown ⟨b,0,none⟩ 1 1 ys (by rw[hy];omega) (by
  intro j y hj;rw[B8l,Nat.zero_add,Blk.cell hblk j,List.getElem?_toArray]
  exact hj) (λy hy=>List.all_eq_true.1 h1 y hy) (by unfold maxLen;omega) hl2 hB
 exact⟨v',w',hr,ho,hg⟩
theorem B4T(f:Nat->Rat)(n:Nat):G8 n=K7 f n 0:=by rw[A2E];rfl
theorem B7E(A Y:Option Addr)(rs:List Rq)(y:List Rat)(m c d:Nat)(hn:rs.length=m)(hm1:1<=m)(hm2:m<=19)(hrl:∀r∈rs,r.2.2.length=m)(hy:y.length=m)(s:Nat)(hs1:1<=s)(hs:∀i,i<m->∀j,j<m->qs (gq (B6 (rs.map (·.2.2)) i) j)<=s)(hys:∀i,i<m->qs (gq y i)<=s)(hBz:30*(s*10^(m+1))<=BIG)
  (hfull:(C0 m (m+1) (D7 (aug (rs.map (·.2.2)) y m),[]) (m+1)).2=List.range m) (w:World) (h:Lrz w A rs) (h2:Lz w Y y) :
  Calls Tryz.prog 135 #[.slice A m c,.slice Y m d] w (E9 (λx:Nat=>.tuple #[.slice (some ⟨x,0,none⟩) m m,.bool true]) (λx W=>ZW w.heap.size x m m ((List.range m).map λi=>(C0 m (m+1) (D7 (aug (rs.map (·.2.2)) y m),[]) (m+1)).1 i m) W) w):=by
 have hBm:=I6;obtain⟨bb,ob,P0,eA,hP0,hl0⟩:=A0i hn hrl h (i:=0) (by omega);have hr0:=λW hg=>(hP0 W hg).1;simp only[Nat.add_zero]at hr0;obtain⟨by0,oy,eY⟩:=h2.addr (by omega);subst eY;obtain⟨X,hX⟩:∃X,X=rs.map (·.2.2):=⟨_,rfl⟩
 obtain⟨R,hR⟩:∃R:Nat->List Rat,R=λi=>B6 X i++[gq y i]:=⟨_,rfl⟩
 have hRa:aug X y m=(List.range m).map R:=by rw[hR];rfl
 have hXl:∀i,i<m->(B6 X i).length=m:=λi hi=>by
  obtain⟨_,_,_,_,_,h⟩:=A0i hn hrl h hi;rw[hX];exact h
 have hRl:∀i,i<m->(R i).length=m+1:=λi hi=>by rw[hR];simp[hXl i hi]
 have hat:∀i,i<m->∃(ba oa ca:Nat) (pz:Az),∀W,A4 w W->(W.cell? ⟨bb,ob+i,none⟩=some (.slice (some ⟨ba,oa,none⟩) m ca)/\Rz W pz (gq y i)/\Cz W by0 (oy+i*3) pz (gq y i))/\∀b,∃(x:Ax) (w':World),(Builtin.append_ #[25,25] 25 #[.slice (some ⟨b,0,none⟩) 0 0,.slice (some ⟨ba,oa,none⟩) m ca]).run Tryz.prog W = .ok (.slice x.1 m x.2) w'/\(∃ps:List Zr,ps.map (·.2)=B6 X i/\E6 w' ps/\w'.ownsRow W.heap.size 33 3 (.slice x.1 m x.2) m (ps.flatMap zrL))/\A4 W w':=λi hi=>by
  obtain⟨b',o',⟨P1,P2⟩,e,hP,hl⟩:=A0i hn hrl h hi;rw[eA]at e;cases e;obtain⟨h1,h3⟩:=hP w (A4.refl w);obtain⟨ba,oa,e1⟩:=h3.addr (by omega);simp only at e1;subst e1;obtain⟨pz,hpz⟩:=h2.read (i:=i) (by omega);refine⟨ba,oa,P2,pz,λW hg=>⟨⟨(hP W hg).1,hpz W hg⟩,λb=>?_⟩⟩;rw[hX];exact B0Z b _ m P2 ba oa hl (by omega) (by omega) W (hP W hg).2
 have hsz:∀i,i<m->∀j,j<m+1->qs (gq (B6 (aug X y m) i) j)<=s:=λi hi j hj=>by
  rw[show B6 (aug X y m) i=B6 X i++[gq y i]from A1c hi];unfold gq;rcases B73 j m with h|h
  ·rw[B9u (by rw[hXl i hi];exact h)];rw[hX];exact hs i hi j h
  ·have e:j=m:=by omega
   rw[B9v (by rw[hXl i hi];omega),hXl i hi,e,B8g];exact hys i hi
 rw[<-hX]at hfull⊢;have hred:=λ(ps:List Ax) (W:World) (A2:Option Addr) (c2:Nat) (hL:Lrz W A2 (V8 ps R m))=>A7Y A2 (V8 ps R m) m (m+1) c2 (A8M ps R m) hm1 (by omega) (by omega) (by omega) (A7l hRl) s hs1 (by rw[A6r,<-hRa];exact hsz) hBz W hL;simp only[A6r,<-hRa]at hred;obtain⟨G,hG0⟩:∃G,G=C0 m (m+1) (D7 (aug X y m),[]) (m+1):=⟨_,rfl⟩
 rw[<-hG0]at hfull⊢;simp only[<-hG0,hfull,List.length_range]at hred;have hzo:=λW=>B4i m (by omega) W;rw[B4T (λi=>G.1 i m)]at hzo;have hni:(0:Int)<(m:Int):=by omega
 have hnp:0<m:=by omega
 subst eA;have Hat:=B8S hat;have Hr0:=B8S hr0;have Hred:=B8S hred;have Hzo:=B8S hzo;have HRl:=B8S hRl;have HR0:=B8S hR;obtain⟨m1,hm1e⟩:∃x,x=m+1:=⟨_,rfl⟩
 rw[<-hm1e]at Hred HRl;have Hm1:=B8S hm1e;have hm1b:m1<=20:=by omega
 have hmm:m<m1:=by omega
 clear hat hP0 hl0 hr0 hred hzo hRl hR hXl hRa hsz hs hys hs1 h h2 hrl hn hy hX hBz hfull hG0 hm1e;go_enter Tryz.func135,Tryz.ntmps135;refine en0 ?_;intro u hG hB hF;refine r0T ?_;refine B8N ?_;refine r0T ?_;refine B8v ?_;clear hB hF;go_loopw [7,6] (λs0 s1 wr=>∃(i:Nat) (ps:List Ax) (kv:Value),i<=m/\s0 = .int .i64 i/\kv=s1/\ps.length=i/\RdL w.heap.size m1 kv ps R wr/\A4 w wr) (λs0 _ _=>m-(intOf s0).toNat)
 case atStart=>exact⟨0,[],_,B8k _,rfl,rfl,rfl,RdL.start _ _ _ _,hG⟩
 case round =>
  clear hG;obtain⟨i,ps,kv,hi,rfl,rfl,hpl,hR,hG⟩:=hrel;obtain⟨u,rfl⟩:=exQ wr;have hB:=Bx.nil u;have hF:=Fr.nil w;have HR:=B8S hR;have Hpl:=B8S hpl;have ho:=hR.hd;rw[hpl]at ho;have Ho:=B8S ho;clear hR hpl ho;rcases B73 i m with hlt|hge
  ·have hdec:decide ((i:Int)<(m:Int))=true:=by simp;omega
   have hin:(i:Int)<(m:Int):=by omega
   obtain⟨ba,oa,ca,pz,hrd⟩:=Hat.out i hlt;obtain⟨Yi,hYi⟩:∃x,x=gq y i:=⟨_,rfl⟩
   have hRi:R i=B6 X i++[Yi]:=by rw[HR0.out,hYi]
   rw[<-hYi]at hrd;obtain⟨u5,hu5⟩:=exQ u;have hg5:A4 u5 u:=hu5 ▸ A4.refl u;have hB9:w.heap.size<=u5.heap.size:=hu5 ▸ hG.sz;rw[<-hu5]at HR Ho;have Hrd:=B8S hrd;have HRi:=B8S hRi;clear hrd hRi hYi hu5;refine B8N ?_;refine r0T ?_;refine B8V (rfl) ?_;refine B8U ?_;refine A6 ?_;refine B8N ?_;refine B8v ?_;generalize hA:({ tmps:=_,defers:=_ }:Act)=A0;have hmono:∀ {Q Q':Exit->Act->World->Prop} {c:Code} {a:Act} {w:World},c.wp Tryz.prog Q a w->(∀x a w,Q x a w->Q' x a w)->c.wp Tryz.prog Q' a w:=λh hm=>B8A (λx a w h=>hm x a w h) h;refine hmono (Q:=λx a' w'=>x = .normal/\∃(z19 z20 z21 z22 z23 z24 z25 z26 z27 z28 z29 z30 z31 z32 v:Value) (gr cr:Nat),a'=((((((((((((((((A0.put (some 19) z19).put (some 20) z20).put (some 21) z21).put (some 22) z22).put (some 23) z23).put (some 24) z24).put (some 25) z25).put (some 26) z26).put (some 27) z27).put (some 28) z28).put (some 29) z29).put (some 30) z30).put (some 31) z31).put (some 32) z32).put (some 33) v).put (some 6) v)/\RdL w.heap.size m1 v (ps++[(some ⟨gr,0,none⟩,cr)]) R w'/\A4 w w') ?_ ?_
   ·subst hA;refine B8A NoP.up ?_;refine wp_region_held_drew (S:=λW=>A4 w W) (by kernel_rfl) (hG.trans (A4.drew u)) (λhHeld=>?_);clear hHeld;have hS:=A4.drew u;obtain⟨v0,hv0⟩:=exQ u.drew;rw[<-hv0]at hS⊢;clear hv0;refine C0H (i:=0) (v:=?_) rfl (by kernel_rfl) (by kernel_rfl) (by kernel_rfl) (λ_ _ _ h=>h) (Or.inl ⟨by rfl,?_⟩) (hG.trans hS) ?_
    rotate_left
    ·(intro W hSw;go_simp;(try with_reducible rfl))
    (try simp only[Act.put,List.setIfInBounds_toArray,List.set_cons_zero,List.set_cons_succ])
    refine C0H (i:=2) (v:=?_) rfl (by kernel_rfl) (by kernel_rfl) (by kernel_rfl) (λ_ _ _ h=>h) (Or.inl ⟨by rfl,?_⟩) (hG.trans hS) ?_
    rotate_left
    ·(intro W hSw;go_simp;(try with_reducible rfl))
    (try simp only[Act.put,List.setIfInBounds_toArray,List.set_cons_zero,List.set_cons_succ])
    refine C0H (i:=3) (v:=?_) rfl (by kernel_rfl) (by kernel_rfl) (by kernel_rfl) (λ_ _ _ h=>h) (Or.inl ⟨by rfl,?_⟩) (hG.trans hS) ?_
    rotate_left
    ·(intro W hSw;go_simp;(try with_reducible rfl))
    (try simp only[Act.put,List.setIfInBounds_toArray,List.set_cons_zero,List.set_cons_succ])
    refine C0H (i:=4) (v:=?_) rfl (by kernel_rfl) (by kernel_rfl) (by kernel_rfl) (λ_ _ _ h=>h) (Or.inl ⟨by rfl,?_⟩) (hG.trans hS) ?_
    rotate_left
    ·(intro W hSw;go_simp;(try with_reducible rfl))
    (try simp only[Act.put,List.setIfInBounds_toArray,List.set_cons_zero,List.set_cons_succ])
    refine C0H (i:=5) (v:=?_) rfl (by kernel_rfl) (by kernel_rfl) (by kernel_rfl) (λ_ _ _ h=>h) (Or.inl ⟨by rfl,?_⟩) (hG.trans hS) ?_
    rotate_left
    ·(intro W hSw;obtain⟨q0,-,z1,z2,z3⟩:=(Hrd.out W hSw).1;go_simp;(try with_reducible rfl))
    (try simp only[Act.put,List.setIfInBounds_toArray,List.set_cons_zero,List.set_cons_succ])
    refine C0H (i:=7) (v:=?_) rfl (by kernel_rfl) (by kernel_rfl) (by kernel_rfl) (λ_ _ _ h=>h) (Or.inl ⟨by rfl,?_⟩) (hG.trans hS) ?_
    rotate_left
    ·(intro W hSw;go_simp;(try with_reducible rfl))
    (try simp only[Act.put,List.setIfInBounds_toArray,List.set_cons_zero,List.set_cons_succ])
    refine C0H (i:=8) (v:=?_) rfl (by kernel_rfl) (by kernel_rfl) (by kernel_rfl) (λ_ _ _ h=>h) (Or.inl ⟨by rfl,?_⟩) (hG.trans hS) ?_
    rotate_left
    ·(intro W hSw;go_simp;(try with_reducible rfl))
    (try simp only[Act.put,List.setIfInBounds_toArray,List.set_cons_zero,List.set_cons_succ])
    refine C0H (i:=9) (v:=?_) rfl (by kernel_rfl) (by kernel_rfl) (by kernel_rfl) (λ_ _ _ h=>h) (Or.inl ⟨by rfl,?_⟩) (hG.trans hS) ?_
    rotate_left
    ·(intro W hSw;go_simp;(try with_reducible rfl))
    (try simp only[Act.put,List.setIfInBounds_toArray,List.set_cons_zero,List.set_cons_succ])
    refine C0H (i:=10) (v:=?_) rfl (by kernel_rfl) (by kernel_rfl) (by kernel_rfl) (λ_ _ _ h=>h) (Or.inl ⟨by rfl,?_⟩) (hG.trans hS) ?_
    rotate_left
    ·(intro W hSw;obtain⟨q0,-,z1,z2,z3⟩:=(Hrd.out W hSw).1;go_simp;(try with_reducible rfl))
    (try simp only[Act.put,List.setIfInBounds_toArray,List.set_cons_zero,List.set_cons_succ])
    refine wpAnyH_ready (rs:=[1,11]) (by kernel_rfl) (by simp) (AllReadyH.cons rfl (λK hK=>?_) (AllReadyH.cons rfl (λK hK=>?_) AllReadyH.nil))
    ·go_simp;refine hK.out _ _ (hG.trans (hS.trans (A4.alloc _ _))) (λhHeld=>?_);clear hK K hHeld
     (try simp only[Act.put,List.setIfInBounds_toArray,List.set_cons_zero,List.set_cons_succ])
     generalize hv1:World.alloc v0 _=v1;have hgc:A4 v0 v1:=hv1 ▸ A4.alloc v0 _;generalize v0.heap.size=c20;replace hS:=hS.trans hgc;clear hv1;refine wpAnyH_ready (rs:=[6,11]) (by kernel_rfl) (by simp) (AllReadyH.cons rfl (λK hK=>?_) (AllReadyH.cons rfl (λK hK=>?_) AllReadyH.nil))
     ·obtain⟨x25,v2,hr25,⟨PS,k1,k2,k3⟩,hgc⟩:=(Hrd.out v1 (hG.trans hS)).2 c20;refine A02 (by rfl) _ _ _ (by rfl) (by rfl) (by rfl) hr25 ?_;refine hK.out _ _ (hG.trans (hS.trans hgc)) (λhHeld=>?_);clear hK K hHeld hr25
      (try simp only[Act.put,List.setIfInBounds_toArray,List.set_cons_zero,List.set_cons_succ])
      replace k3:=k3.mono hS.sz;replace hS:=hS.trans hgc;refine wpAnyH_ready (rs:=[11]) (by kernel_rfl) (by simp) (AllReadyH.cons rfl (λK hK=>?_) AllReadyH.nil);go_simp;refine hK.out _ _ (hG.trans (hS.trans (A4.alloc _ _))) (λhHeld=>?_);clear hK K hHeld
      (try simp only[Act.put,List.setIfInBounds_toArray,List.set_cons_zero,List.set_cons_succ])
      generalize hv3:World.alloc v2 _=v3;have h30:Blk v3 v2.heap.size 33 (zL pz Yi).toArray:=by rw[<-hv3];exact Blk.new v2 33 _
      have hgc:A4 v2 v3:=hv3 ▸ A4.alloc v2 _;generalize v2.heap.size=c30 at h30⊢;replace hS:=hS.trans hgc;clear hv3;replace k2:=k2.grow hgc;replace k3:=C5 k3 hgc;refine wpAnyH_ready (rs:=[12]) (by kernel_rfl) (by simp) (AllReadyH.cons rfl (λK hK=>?_) AllReadyH.nil);obtain⟨v31,v4,hr31,g1,g2⟩:=A2n X4 u.heap.size v3 (.slice x25.1 m x25.2) m (PS.flatMap zrL) c30 (zL pz Yi) rfl rfl h30 k3 (by omega) (by omega) hS.size;refine A02 (by rfl) _ _ _ (by rfl) (by rfl) (by rfl) hr31 ?_;obtain⟨gr,cr,rfl,-,-⟩:=N0 g1 (by omega);have hS9:A4 u v4:=hS.grown g2 (λk hk=>(k3.lt k hk).1);refine hK.out _ _ (hG.trans hS9) (λhHeld=>?_);clear hK K hHeld hr31
      (try simp only[Act.put,List.setIfInBounds_toArray,List.set_cons_zero,List.set_cons_succ])
      have hA9:E6 v4 (PS++[(pz,Yi)]):=A2j (λr hr=>by
       rcases List.mem_append.1 hr with hr|hr
       ·exact k2 r hr
       ·rw[List.mem_singleton]at hr;rw[hr]
        exact(Hrd.out v3 (hG.trans hS)).1.2.1) k3 (by decide) g2
      obtain⟨A9,c9,e9,-,-,hL9,-⟩:=A1N (ps:=PS++[(pz,Yi)]) (by rw[B97];simpa [zrL]using g1) hA9;cases e9;rw[List.map_append,k1]at hL9;have Ho3:=C5 Ho.out (hg5.trans hS9);have HR3:=HR.out.grow (hg5.trans hS9);have hGw:A4 w v4:=hG.trans hS9;refine wpAnyH_ready (rs:=[13]) (by kernel_rfl) (by simp) (AllReadyH.cons rfl (λK hK=>?_) AllReadyH.nil);go_simp;refine hK.out _ _ (hGw.trans (A4.alloc _ _)) (λhHeld=>?_);clear hK K hHeld
      (try simp only[Act.put,List.setIfInBounds_toArray,List.set_cons_zero,List.set_cons_succ])
      generalize hv5:World.alloc v4 _=v5;have h32:Blk v5 v4.heap.size 25 #[.slice (some ⟨gr,0,none⟩) (m+1) cr]:=by rw[<-hv5];exact Blk.new v4 25 _
      have hgb:A4 v4 v5:=hv5 ▸ A4.alloc v4 _;generalize v4.heap.size=c32 at h32⊢;refine wpAnyH_ready (rs:=[14]) (by kernel_rfl) (by simp) (AllReadyH.cons rfl (λK hK=>?_) AllReadyH.nil);obtain⟨v33,v6,hr33,k4,k5⟩:=A2n A3O w.heap.size v5 _ _ _ c32 [.slice (some ⟨gr,0,none⟩) (m+1) cr] rfl rfl h32 (C5 Ho3 hgb) (by omega) (by omega) (hGw.trans hgb).size;refine A02 (by rfl) _ _ _ (by rfl) (by rfl) (by rfl) hr33 ?_;rw[<-hv5]at k5;have hGn:=K3 Ho3 hGw k5;refine hK.out _ _ hGn (λhHeld=>?_);clear hK K hHeld hr33
      (try simp only[Act.put,List.setIfInBounds_toArray,List.set_cons_zero,List.set_cons_succ])
      have HR2:=RdL.add (P:=(some ⟨gr,0,none⟩,cr)) HR3 (by rw[Hpl.out,HRi.out];exact hL9) (by rw[Hpl.out];rw[<-Hm1.out]at k4;exact k4) k5;refine C0H (i:=15) (v:=?_) rfl (by kernel_rfl) (by kernel_rfl) (by kernel_rfl) (λ_ _ _ h=>h) (Or.inl ⟨by rfl,?_⟩) hGn ?_
      rotate_left
      ·(intro W hSw;go_simp;(try with_reducible rfl))
      (try simp only[Act.put,List.setIfInBounds_toArray,List.set_cons_zero,List.set_cons_succ])
      refine wpAnyH_done (by kernel_rfl) ?_ _;refine NoP.norm ?_;exact⟨rfl,_,_,_,_,_,_,_,_,_,_,_,_,_,_,v33,gr,cr,rfl,HR2,hGn⟩
     ·go_simp;refine hK.out _ _ (hG.trans (hS.trans (A4.alloc _ _))) (λhHeld=>?_);clear hK K hHeld
      (try simp only[Act.put,List.setIfInBounds_toArray,List.set_cons_zero,List.set_cons_succ])
      generalize hv2:World.alloc v1 _=v2;have h30:Blk v2 v1.heap.size 33 (zL pz Yi).toArray:=by rw[<-hv2];exact Blk.new v1 33 _
      have hgc:A4 v1 v2:=hv2 ▸ A4.alloc v1 _;generalize v1.heap.size=c30 at h30⊢;replace hS:=hS.trans hgc;clear hv2;refine wpAnyH_ready (rs:=[6]) (by kernel_rfl) (by simp) (AllReadyH.cons rfl (λK hK=>?_) AllReadyH.nil);obtain⟨x25,v3,hr25,⟨PS,k1,k2,k3⟩,hgc⟩:=(Hrd.out v2 (hG.trans hS)).2 c20;refine A02 (by rfl) _ _ _ (by rfl) (by rfl) (by rfl) hr25 ?_;refine hK.out _ _ (hG.trans (hS.trans hgc)) (λhHeld=>?_);clear hK K hHeld hr25
      (try simp only[Act.put,List.setIfInBounds_toArray,List.set_cons_zero,List.set_cons_succ])
      replace k3:=k3.mono hS.sz;replace hS:=hS.trans hgc;replace h30:=h30.grow hgc;refine wpAnyH_ready (rs:=[12]) (by kernel_rfl) (by simp) (AllReadyH.cons rfl (λK hK=>?_) AllReadyH.nil);obtain⟨v31,v4,hr31,g1,g2⟩:=A2n X4 u.heap.size v3 (.slice x25.1 m x25.2) m (PS.flatMap zrL) c30 (zL pz Yi) rfl rfl h30 k3 (by omega) (by omega) hS.size;refine A02 (by rfl) _ _ _ (by rfl) (by rfl) (by rfl) hr31 ?_;obtain⟨gr,cr,rfl,-,-⟩:=N0 g1 (by omega);have hS9:A4 u v4:=hS.grown g2 (λk hk=>(k3.lt k hk).1);refine hK.out _ _ (hG.trans hS9) (λhHeld=>?_);clear hK K hHeld hr31
      (try simp only[Act.put,List.setIfInBounds_toArray,List.set_cons_zero,List.set_cons_succ])
      have hA9:E6 v4 (PS++[(pz,Yi)]):=A2j (λr hr=>by
       rcases List.mem_append.1 hr with hr|hr
       ·exact k2 r hr
       ·rw[List.mem_singleton]at hr;rw[hr]
        exact(Hrd.out v3 (hG.trans hS)).1.2.1) k3 (by decide) g2
      obtain⟨A9,c9,e9,-,-,hL9,-⟩:=A1N (ps:=PS++[(pz,Yi)]) (by rw[B97];simpa [zrL]using g1) hA9;cases e9;rw[List.map_append,k1]at hL9;have Ho3:=C5 Ho.out (hg5.trans hS9);have HR3:=HR.out.grow (hg5.trans hS9);have hGw:A4 w v4:=hG.trans hS9;refine wpAnyH_ready (rs:=[13]) (by kernel_rfl) (by simp) (AllReadyH.cons rfl (λK hK=>?_) AllReadyH.nil);go_simp;refine hK.out _ _ (hGw.trans (A4.alloc _ _)) (λhHeld=>?_);clear hK K hHeld
      (try simp only[Act.put,List.setIfInBounds_toArray,List.set_cons_zero,List.set_cons_succ])
      generalize hv5:World.alloc v4 _=v5;have h32:Blk v5 v4.heap.size 25 #[.slice (some ⟨gr,0,none⟩) (m+1) cr]:=by rw[<-hv5];exact Blk.new v4 25 _
      have hgb:A4 v4 v5:=hv5 ▸ A4.alloc v4 _;generalize v4.heap.size=c32 at h32⊢;refine wpAnyH_ready (rs:=[14]) (by kernel_rfl) (by simp) (AllReadyH.cons rfl (λK hK=>?_) AllReadyH.nil);obtain⟨v33,v6,hr33,k4,k5⟩:=A2n A3O w.heap.size v5 _ _ _ c32 [.slice (some ⟨gr,0,none⟩) (m+1) cr] rfl rfl h32 (C5 Ho3 hgb) (by omega) (by omega) (hGw.trans hgb).size;refine A02 (by rfl) _ _ _ (by rfl) (by rfl) (by rfl) hr33 ?_;rw[<-hv5]at k5;have hGn:=K3 Ho3 hGw k5;refine hK.out _ _ hGn (λhHeld=>?_);clear hK K hHeld hr33
      (try simp only[Act.put,List.setIfInBounds_toArray,List.set_cons_zero,List.set_cons_succ])
      have HR2:=RdL.add (P:=(some ⟨gr,0,none⟩,cr)) HR3 (by rw[Hpl.out,HRi.out];exact hL9) (by rw[Hpl.out];rw[<-Hm1.out]at k4;exact k4) k5;refine C0H (i:=15) (v:=?_) rfl (by kernel_rfl) (by kernel_rfl) (by kernel_rfl) (λ_ _ _ h=>h) (Or.inl ⟨by rfl,?_⟩) hGn ?_
      rotate_left
      ·(intro W hSw;go_simp;(try with_reducible rfl))
      (try simp only[Act.put,List.setIfInBounds_toArray,List.set_cons_zero,List.set_cons_succ])
      refine wpAnyH_done (by kernel_rfl) ?_ _;refine NoP.norm ?_;exact⟨rfl,_,_,_,_,_,_,_,_,_,_,_,_,_,_,v33,gr,cr,rfl,HR2,hGn⟩
    ·go_simp;refine hK.out _ _ (hG.trans (hS.trans (A4.alloc _ _))) (λhHeld=>?_);clear hK K hHeld
     (try simp only[Act.put,List.setIfInBounds_toArray,List.set_cons_zero,List.set_cons_succ])
     generalize hv1:World.alloc v0 _=v1;have h30:Blk v1 v0.heap.size 33 (zL pz Yi).toArray:=by rw[<-hv1];exact Blk.new v0 33 _
     have hgc:A4 v0 v1:=hv1 ▸ A4.alloc v0 _;generalize v0.heap.size=c30 at h30⊢;replace hS:=hS.trans hgc;clear hv1;refine wpAnyH_ready (rs:=[1]) (by kernel_rfl) (by simp) (AllReadyH.cons rfl (λK hK=>?_) AllReadyH.nil);go_simp;refine hK.out _ _ (hG.trans (hS.trans (A4.alloc _ _))) (λhHeld=>?_);clear hK K hHeld
     (try simp only[Act.put,List.setIfInBounds_toArray,List.set_cons_zero,List.set_cons_succ])
     generalize hv2:World.alloc v1 _=v2;have hgc:A4 v1 v2:=hv2 ▸ A4.alloc v1 _;generalize v1.heap.size=c20;replace hS:=hS.trans hgc;clear hv2;replace h30:=h30.grow hgc;refine wpAnyH_ready (rs:=[6]) (by kernel_rfl) (by simp) (AllReadyH.cons rfl (λK hK=>?_) AllReadyH.nil);obtain⟨x25,v3,hr25,⟨PS,k1,k2,k3⟩,hgc⟩:=(Hrd.out v2 (hG.trans hS)).2 c20;refine A02 (by rfl) _ _ _ (by rfl) (by rfl) (by rfl) hr25 ?_;refine hK.out _ _ (hG.trans (hS.trans hgc)) (λhHeld=>?_);clear hK K hHeld hr25
     (try simp only[Act.put,List.setIfInBounds_toArray,List.set_cons_zero,List.set_cons_succ])
     replace k3:=k3.mono hS.sz;replace hS:=hS.trans hgc;replace h30:=h30.grow hgc;refine wpAnyH_ready (rs:=[12]) (by kernel_rfl) (by simp) (AllReadyH.cons rfl (λK hK=>?_) AllReadyH.nil);obtain⟨v31,v4,hr31,g1,g2⟩:=A2n X4 u.heap.size v3 (.slice x25.1 m x25.2) m (PS.flatMap zrL) c30 (zL pz Yi) rfl rfl h30 k3 (by omega) (by omega) hS.size;refine A02 (by rfl) _ _ _ (by rfl) (by rfl) (by rfl) hr31 ?_;obtain⟨gr,cr,rfl,-,-⟩:=N0 g1 (by omega);have hS9:A4 u v4:=hS.grown g2 (λk hk=>(k3.lt k hk).1);refine hK.out _ _ (hG.trans hS9) (λhHeld=>?_);clear hK K hHeld hr31
     (try simp only[Act.put,List.setIfInBounds_toArray,List.set_cons_zero,List.set_cons_succ])
     have hA9:E6 v4 (PS++[(pz,Yi)]):=A2j (λr hr=>by
      rcases List.mem_append.1 hr with hr|hr
      ·exact k2 r hr
      ·rw[List.mem_singleton]at hr;rw[hr]
       exact(Hrd.out v3 (hG.trans hS)).1.2.1) k3 (by decide) g2
     obtain⟨A9,c9,e9,-,-,hL9,-⟩:=A1N (ps:=PS++[(pz,Yi)]) (by rw[B97];simpa [zrL]using g1) hA9;cases e9;rw[List.map_append,k1]at hL9;have Ho3:=C5 Ho.out (hg5.trans hS9);have HR3:=HR.out.grow (hg5.trans hS9);have hGw:A4 w v4:=hG.trans hS9;refine wpAnyH_ready (rs:=[13]) (by kernel_rfl) (by simp) (AllReadyH.cons rfl (λK hK=>?_) AllReadyH.nil);go_simp;refine hK.out _ _ (hGw.trans (A4.alloc _ _)) (λhHeld=>?_);clear hK K hHeld
     (try simp only[Act.put,List.setIfInBounds_toArray,List.set_cons_zero,List.set_cons_succ])
     generalize hv5:World.alloc v4 _=v5;have h32:Blk v5 v4.heap.size 25 #[.slice (some ⟨gr,0,none⟩) (m+1) cr]:=by rw[<-hv5];exact Blk.new v4 25 _
     have hgb:A4 v4 v5:=hv5 ▸ A4.alloc v4 _;generalize v4.heap.size=c32 at h32⊢;refine wpAnyH_ready (rs:=[14]) (by kernel_rfl) (by simp) (AllReadyH.cons rfl (λK hK=>?_) AllReadyH.nil);obtain⟨v33,v6,hr33,k4,k5⟩:=A2n A3O w.heap.size v5 _ _ _ c32 [.slice (some ⟨gr,0,none⟩) (m+1) cr] rfl rfl h32 (C5 Ho3 hgb) (by omega) (by omega) (hGw.trans hgb).size;refine A02 (by rfl) _ _ _ (by rfl) (by rfl) (by rfl) hr33 ?_;rw[<-hv5]at k5;have hGn:=K3 Ho3 hGw k5;refine hK.out _ _ hGn (λhHeld=>?_);clear hK K hHeld hr33
     (try simp only[Act.put,List.setIfInBounds_toArray,List.set_cons_zero,List.set_cons_succ])
     have HR2:=RdL.add (P:=(some ⟨gr,0,none⟩,cr)) HR3 (by rw[Hpl.out,HRi.out];exact hL9) (by rw[Hpl.out];rw[<-Hm1.out]at k4;exact k4) k5;refine C0H (i:=15) (v:=?_) rfl (by kernel_rfl) (by kernel_rfl) (by kernel_rfl) (λ_ _ _ h=>h) (Or.inl ⟨by rfl,?_⟩) hGn ?_
     rotate_left
     ·(intro W hSw;go_simp;(try with_reducible rfl))
     (try simp only[Act.put,List.setIfInBounds_toArray,List.set_cons_zero,List.set_cons_succ])
     refine wpAnyH_done (by kernel_rfl) ?_ _;refine NoP.norm ?_;exact⟨rfl,_,_,_,_,_,_,_,_,_,_,_,_,_,_,v33,gr,cr,rfl,HR2,hGn⟩
   rintro x a' v5 ⟨rfl,z19,z20,z21,z22,z23,z24,z25,z26,z27,z28,z29,z30,z31,z32,v33,gr,cr,rfl,hRd,hGv⟩;subst hA;simp only[Act.put,List.setIfInBounds_toArray,List.set_cons_zero,List.set_cons_succ];have hRd2:=B8S hRd;clear HR Ho hB hG hg5 hRd hmono;have HR:=hRd2;have hB:=Bx.nil v5;have hG:=hGv;clear hRd2 hGv;obtain⟨u,rfl⟩:=exQ v5;refine C8 ?_;refine A6 ?_;refine r0E ?_;refine A6 ?_;go_roundw
   case rel=>exact⟨i+1,ps++[(some ⟨gr,0,none⟩,cr)],_,by omega,by go_num,rfl,by rw[List.length_append,Hpl.out];rfl,HR.out,hG⟩
   case measure=>simp[intOf];omega
  ·obtain rfl:m=i:=by omega
   have hdec:decide ((m:Int)<(m:Int))=false:=by simp
   obtain⟨g,c0,rfl,-,hc0⟩:=N0 Ho.out (by omega);clear Ho;have hlr:=HR.out.lrz Hpl.out (K2 _) HRl.out;have HLr:=B8S hlr;clear hlr HR Hpl;refine B8N ?_;refine r0T ?_;refine B8T (rfl) ?_;refine B8x ?_;refine B7 ?_;refine B7 ?_;refine D0 ?_;refine A6 ?_;refine B8N ?_
   (first|have q0:=Hr0.out u hG|skip)
   refine r0N ?_;refine B8N (rsE A8 [0,1,0,0,0,0,0] hB hG λL hL=>?_);refine gs ?_;refine gxd (X:=(Nat×Nat×Ax×List Ax)) (λx:Nat×Nat×Ax×List Ax=>.tuple #[.slice (some ⟨x.1,0,none⟩) m x.2.1,.slice x.2.2.1.1 m x.2.2.1.2]) (λx W=>Lrz W (some ⟨x.1,0,none⟩) (V8 x.2.2.2 (C9 G.1 m1) m)/\Li W x.2.2.1.1 (I2 (List.range m))) (λx u u' hg h=>⟨h.1.grow hg,h.2.grow hg⟩) (λx40=>?_) (C:=by(rintro v ⟨hgu,hB,hG,-⟩;exact Hred.out ps _ _ c0 (HLr.out.grow hgu)));refine gs ?_;refine geT hL ?_;clear hB hG hL L;rintro u ⟨⟨hgu,hB,hG,-⟩,hx40⟩;obtain⟨xr,xc,⟨xl,xlc⟩,xps⟩:=x40;have HX:=B8S (show Lrz u (some ⟨xr,0,none⟩) (V8 xps (C9 G.1 m1) m)/\Li u xl (I2 (List.range m))from hx40);clear hx40 HLr;clear hgu;have HG0:=B8S hG;clear hB hF hG;obtain⟨w0,rfl⟩:=exQ w;obtain⟨w,hwu⟩:=exQ u;rw[<-hwu]at HG0 HX;have hB:=Bx.nil u;have hF:=Fr.nil w;have hG:A4 w u:=hwu ▸ A4.refl u;clear hwu;have hat2:∀i,i<m->∃(bl ol br or cr:Nat) (p:Az),xl=some ⟨bl,ol,none⟩/\∀W,A4 w W->W.cell? ⟨bl,ol+i,none⟩=some (.int .i64 (i:Nat))/\W.cell? ⟨xr,i,none⟩=some (.slice (some ⟨br,or,none⟩) m1 cr)/\Rz W p (G.1 i m)/\Cz W br (or+m*3) p (G.1 i m):=λi hi=>by
    obtain⟨bl,ol,e1,hl⟩:=A2v HX.out.2 (i:=i) (by simp;exact hi);rw[A26 hi]at hl;obtain⟨b',o',⟨P1,P2⟩,e2,hP,hln⟩:=A0i (A8M _ _ _) (A7l λi _=>P4 _ _ _) HX.out.1 hi;cases e2;have e3:B6 ((V8 xps (C9 G.1 m1) m).map (·.2.2)) i=C9 G.1 m1 i:=by rw[A6r];exact A1c hi
    rw[e3]at hP;obtain⟨h1,h3⟩:=hP w (A4.refl w);obtain⟨br,or,e4⟩:=h3.addr (by rw[P4];omega);simp only at e4;subst e4;obtain⟨p,hp⟩:=h3.read (i:=m) (by rw[P4];exact hmm);rw[A1E hmm]at hp;exact⟨bl,ol,br,or,P2,p,e1,λW hg=>⟨hl W hg,by have:=(hP W hg).1;rw[Nat.zero_add]at this;exact this,hp W hg⟩⟩
   have Hat2:=B8S hat2;clear hat2 HX;refine B8N (rsE A8 [0,1,0] hB hG λL hL=>?_);refine gs ?_;refine gxd (X:=Nat) (λx:Nat=>.slice (some ⟨x,0,none⟩) m m) (λx W=>ZW w.heap.size x m m (K7 (λi=>G.1 i m) m 0) W) (λx u u' hg h=>h.grow hg) (λx44=>?_) (C:=by(rintro v ⟨hgu,hB,hG,-⟩;exact(Hzo.out _).mono λe W ⟨x,g1,g2,g3⟩=>⟨x,g1,g2.mono hG.size,g3⟩));refine gs ?_;refine geT hL ?_;clear hB hG hL L;rintro u ⟨⟨hgu,hB,hG,-⟩,hx44⟩;have HZ:=B8S hx44;clear hx44;clear hgu;refine B8N ?_;refine r0T ?_;refine B8v ?_;clear hB hF;go_loopw [12] (λs0 wr=>∃(i:Nat),i<=m/\s0 = .int .i64 i/\ZW w.heap.size x44 m m (K7 (λi=>G.1 i m) m i) wr/\A4 w wr) (λs0 _=>m-(intOf s0).toNat)
   case atStart=>exact⟨0,B8k _,rfl,HZ.out,hG⟩
   case round =>
    clear hG HZ;obtain⟨i,hi,rfl,hZ,hG⟩:=hrel;obtain⟨u,rfl⟩:=exQ wr;have hB:=Bx.nil u;have hF:=Fr.nil w;have HZ:=B8S hZ;clear hZ;rcases B73 i m with hlt|hge
    ·have hdec:decide ((i:Int)<(m:Int))=true:=by simp;omega
     have hin:(i:Int)<(m:Int):=by omega
     have fim:((i:Int) == (m:Int))=false:=by simp;omega
     have hmi:(m:Int)<(m1:Int):=by omega
     obtain⟨bl,ol,br,or,cr,p,rfl,hrd⟩:=Hat2.out i hlt;have hst:=A1j (f:=λi=>G.1 i m) hlt;obtain⟨E,hE⟩:∃x,x=G.1 i m:=⟨_,rfl⟩
     rw[<-hE]at hrd;simp only[<-hE]at hst;have Hrd:=B8S hrd;have Hst:=B8S hst;clear hrd hst hE;refine B8N ?_;refine r0T ?_;refine B8V (rfl) ?_;refine B8U ?_;refine A6 ?_;refine B8N ?_;refine B8v ?_;refine B8N ?_;refine B8N ?_;obtain⟨q0,q1,-,z1,z2,z3⟩:=Hrd.out u hG;refine r0N ?_;refine B8T (rfl) ?_;refine B8U ?_;refine A6 ?_;refine rdC A8 [] [(0,0),(0,1),(0,2),(0,3),(0,4),(0,5),(0,6),(0,7),(0,8),(0,9),(0,10),(0,11),(0,12)] hB hG λK L hN hL=>?_
     repeat first|refine gya ?_|refine gyr ?_|refine gna ?_|refine gyb (by(rintro v ⟨hgu,hB,hG,-⟩ N hN;have r:=hB.r;simp only[BxR]at r;obtain⟨q0,q1,-,z1,z2,z3⟩:=Hrd.out v hG;go_simp;exact hN)) ?_
     refine geC hL ?_;clear hB hG hL L;rintro u ⟨hgu,hB,hG,-⟩;have HZ2:=B8S (HZ.out.grow hgu);clear HZ;have HZ:=HZ2;clear HZ2;obtain⟨y0,y1,y2,o0,o1,o2,hfz⟩:=HZ.out.spot hlt;clear hgu;refine gt ?_;clear hN K;clear o0 o1 o2 hfz;generalize hu0:World.setCell (World.setCell (World.setCell u _ _) _ _) _ _=u0;have hu1:C7 u x44 (i*3) (zL p E)=u0:=hu0;have hP:=HZ.out.put hlt (Hrd.out u hG).2.2.1 hu1;rw[Hst.out]at hP
     have hG2:A4 w u0:=hG.grown hP.2 (λk hk=>by
      have e:=B78 hk;have:=HZ.out.lt.1
      omega)
     have HZ2:=B8S hP.1;clear hG hB HZ hP hu1 hu0;have hG:=hG2;have hB:=Bx.nil u0;have HZ:=HZ2;clear hG2 HZ2;obtain⟨u,rfl⟩:=exQ u0;refine C8 ?_;refine A6 ?_;refine r0E ?_;refine A6 ?_;go_roundw
     case rel=>exact⟨i+1,by omega,by go_num,HZ.out,hG⟩
     case measure=>simp[intOf];omega
    ·obtain rfl:m=i:=by omega
     have hdec:decide ((m:Int)<(m:Int))=false:=by simp
     refine B8N ?_;refine r0T ?_;refine B8T (rfl) ?_;refine B8x ?_;refine B7 ?_;refine B7 ?_;refine D0 ?_;refine A6 ?_;refine r0T ?_;refine rt Tryz.results135 ?_;exact⟨x44,rfl,by have h:=HZ.out;rw[A1m]at h;exact h.mono HG0.out.size,HG0.out.trans hG⟩
abbrev Or:=Ax×List Zr
def orV(x:Or):Value:=.slice x.1.1 x.2.length x.1.2
def orE(x:Or):List Value:=[orV x]
def orQ(x:Or):List Rat:=x.2.map (·.2)
def orR(x:Or):Rq:=(x.1.1,x.1.2,orQ x)
theorem B1U(x:Or):(orQ x).length=x.2.length:=List.length_map _
structure OA(B:Nat)(L:List Or)(W:World):Prop where
 own:∀x∈L,W.ownsRow B 33 3 (orV x) x.2.length (x.2.flatMap zrL)
 z:∀x∈L,E6 W x.2
 ap:L.Pairwise λx y=>O2 (orV x) (orV y)
section
variable {B B2 size n g c:Nat} {e:TypeId} {v:Value} {xs:List Value} {L L1 L2:List Or} {x x':Or} {u w':World} {o:Obj}
theorem OA.nil(B:Nat)(W:World):OA B [] W:=⟨λx hx=>(by cases hx),λx hx=>(by cases hx),List.Pairwise.nil⟩
theorem OA.grow(h:OA B L u)(hg:A4 u w'):OA B L w':=⟨λx hx=>C5 (h.own x hx) hg,λx hx=>(h.z x hx).grow hg,h.ap⟩
theorem OA.perm(h:OA B L u)(hp:L.Perm L1):OA B L1 u :=
 ⟨λx hx=>h.own x (hp.mem_iff.2 hx),λx hx=>h.z x (hp.mem_iff.2 hx),(hp.pairwise_iff (λh=>h.symm)).1 h.ap⟩
theorem OA.head(h:OA B (x::L) u):(u.ownsRow B 33 3 (orV x) x.2.length (x.2.flatMap zrL)/\E6 u x.2)/\(∀y∈L,O2 (orV x) (orV y))/\OA B L u:=by
 obtain⟨h1,h2⟩:=List.pairwise_cons.1 h.ap;exact⟨⟨h.own x (List.mem_cons_self ..),h.z x (List.mem_cons_self ..)⟩,h1,λy hy=>h.own y (B74 _ hy),λy hy=>h.z y (B74 _ hy),h2⟩
theorem OA.cons(h:OA B L u)(h1:u.ownsRow B 33 3 (orV x) x.2.length (x.2.flatMap zrL))(h2:E6 u x.2)(h3:∀y∈L,O2 (orV x) (orV y)):OA B (x::L) u :=
 ⟨λy hy=>(List.mem_cons.1 hy).elim (λe=>e ▸ h1) (h.own y),λy hy=>(List.mem_cons.1 hy).elim (λe=>e ▸ h2) (h.z y),List.pairwise_cons.2 ⟨h3,h.ap⟩⟩
theorem OA.start(h:OA B L u):OA B (((none,0),[])::L) u:=h.cons (B9x _ _ _ _) (E6.nil _) λy hy g h1=>(by cases h1)
theorem OA.tail(h:OA B (x::L) u):OA B L u:=h.head.2.2
theorem OA.app(h:OA B (x::L) u)(hx:w'.ownsRow B 33 3 (orV x') x'.2.length (x'.2.flatMap zrL))(hz:E6 u x'.2)(hg:(u.alloc o).grownBy w' (orV x).ownBlock)(hb:(orV x').ownBlock=(orV x).ownBlock\/(orV x').ownBlock=some (u.heap.size+1)):OA B (x'::L) w':=by
 obtain⟨⟨h1,h2⟩,h3,h4⟩:=h.head;exact OA.cons ⟨λy hy=>X5 (h4.own y hy) (h3 y hy) hg,λy hy=>(h4.z y hy).own h1 (by decide) hg,h4.ap⟩ hx (hz.own h1 (by decide) hg) λy hy=>A3E (h4.own y hy) (h3 y hy) hb (by omega)
theorem OA.other(h:OA B L u)(h2:u.ownsRow B2 e size v n xs)(he:e≠33)(he2:e≠193)(hg:(u.alloc o).grownBy w' v.ownBlock):OA B L w' :=
 ⟨λx hx=>X5 (h.own x hx) (O0 h2 (h.own x hx) he) hg,λx hx=>(h.z x hx).own h2 he2 hg,h.ap⟩
theorem OA.stays(h:OA B (x::L) u)(h2:u.ownsRow B2 e size v n xs)(he:33≠e)(hg:(u.alloc o).grownBy w' (orV x).ownBlock):w'.ownsRow B2 e size v n xs :=
 X5 h2 (O0 h.head.1.1 h2 he) hg
theorem OA.put{ps:List Zr}(h:OA B (((some ⟨g,0,none⟩,c),ps)::L) u){j:Nat}(hj:j<ps.length){p:Az}{q:Rat}(hp:Rz u p q)(hu:C7 u g (j*3) (zL p q)=w'):OA B (((some ⟨g,0,none⟩,c),ps.set j (p,q))::L) w'/\u.grownBy w' (some g):=by
 obtain⟨⟨h1,h2⟩,h3,h4⟩:=h.head;have h1':u.ownsRow B 33 3 (.slice (some ⟨g,0,none⟩) ps.length c) ps.length (ps.flatMap zrL):=h1;have hP:=P6 (enc:=zrL) (size:=3) (ps:=ps) (λ_=>rfl) h1' j (p,q) hj;rw[show C7 u g (j*3) (zrL (p,q))=w' from hu]at hP;have hA:E6 u (ps.set j (p,q)):=λr hr=>by
  rcases List.mem_or_eq_of_mem_set hr with hr|hr
  ·exact h2 r hr
  ·rw[hr];exact hp
 have hl:(ps.set j (p,q)).length=ps.length:=B8r;refine⟨OA.cons ⟨λy hy=>(h4.own y hy).kept hP.2 ?_,λy hy=>A2j (h4.z y hy) h1' (by decide) hP.2,h4.ap⟩ ?_ (A2j hA h1' (by decide) hP.2) λy hy=>?_,hP.2⟩
 ·cases hb:(orV y).ownBlock with
  | none=>exact .inl rfl
  | some g2=>exact .inr λe=>h3 y hy g2 (by rw[e];rfl) hb
 ·show w'.ownsRow B 33 3 (.slice (some ⟨g,0,none⟩) (ps.set j (p,q)).length c) (ps.set j (p,q)).length _;rw[hl];exact hP.1
 ·intro k e1 e2;exact h3 y hy k (by rw[<-e1];rfl) e2
theorem OA.new(h:OA B L u)(hB:B<=u.heap.size)(hg:A4 u w'){l:List Rat}{N:Nat}(hz:ZW u.heap.size g c N l w'):∃ps:List Zr,ps.map (·.2)=l/\ps.length=N/\OA B (((some ⟨g,0,none⟩,c),ps)::L) w':=by
 obtain⟨ps,h1,h2,h3⟩:=hz;obtain⟨A,c',e,-,-,-,hk⟩:=Y6 h3 h2;subst hk;refine⟨ps,h1,rfl,(h.grow hg).cons (h3.mono hB) h2 λy hy k e1 e2=>?_⟩;have h5:=((h.own y hy).lt k e2).2;have h6:=(h3.lt k e1).1;omega
theorem OA.lz(h:OA B L u)(hx:x∈L):Lz u x.1.1 (orQ x):=by
 obtain⟨A,c',e,-,-,h4,-⟩:=Y6 (h.own x hx) (h.z x hx);unfold orV at e;injection e with e1 _ _;rw[e1];exact h4
theorem OA.lzt(h:OA B L u)(hx:x∈L):Lzt u x.1.1 (orQ x):=by
 obtain⟨A,c',e,-,-,h4,-⟩:=A1N (h.own x hx) (h.z x hx);unfold orV at e;injection e with e1 _ _;rw[e1];exact h4
theorem OA.lrz{G:List Or}{k:Nat}(h:OA B L u)(hs:∀x∈G,x∈L)(h2:u.ownsRow B2 25 1 (.slice (some ⟨g,0,none⟩) k c) k (G.flatMap orE))(hk:G.length=k):Lrz u (some ⟨g,0,none⟩) (G.map orR):=λhne=>by
 refine⟨g,0,rfl,(h2.lt g rfl).2,λi r hi=>?_⟩;rw[List.getElem?_map]at hi;obtain⟨x,hx,rfl⟩:=Option.map_eq_some_iff.1 hi;obtain⟨hin,e⟩:=List.getElem?_eq_some_iff.1 hx;have h1:=V6 (enc:=orE) (size:=1) (λ_=>rfl) h2 hk.symm i 0 hin (by omega);rw[B9P,Nat.add_zero,e]at h1;rw[Nat.zero_add,h1];refine⟨?_,h.lz (hs x (B8J hx))⟩;show some (orV x)=some (.slice x.1.1 (orQ x).length x.1.2);rw[B1U];rfl
end
section
variable {B D g c N n k:Nat} {a a':Ax} {z:List Zr} {p:Az} {q:Rat} {L:List Or} {u w w':World} {o:Obj} {l:List Rat}
theorem OA.ownA(h:OA B ((a,z)::L) u)(hk:z.length=k):u.ownsRow B 33 3 (.slice a.1 k a.2) k (z.flatMap zrL):=by
 subst hk;exact h.head.1.1
theorem OA.appA(h:OA B ((a,z)::L) u)(hk:z.length=k)(hx:w'.ownsRow B 33 3 (.slice a'.1 (k+1) a'.2) (k+1) (z.flatMap zrL++zL p q))(h1:Rn u p.1 q.num.natAbs)(h2:Rn u p.2 q.den)(hg:(u.alloc o).grownBy w' (Value.slice a.1 k a.2).ownBlock)(hb:(Value.slice a'.1 (k+1) a'.2).ownBlock=(Value.slice a.1 k a.2).ownBlock\/(Value.slice a'.1 (k+1) a'.2).ownBlock=some (u.heap.size+1)):OA B ((a',z++[(p,q)])::L) w':=by
 subst hk;refine h.app (x':=(a',z++[(p,q)])) ?_ (h.head.1.2.snoc h1 h2) hg ?_
 ·unfold orV;simp only[List.length_append,List.length_singleton,B97,List.flatMap_cons,List.flatMap_nil,List.append_nil];exact hx
 ·unfold orV;simp only[List.length_append,List.length_singleton];exact hb
theorem OA.staysA{B2 size m:Nat}{e:TypeId}{v:Value}{xs:List Value}(h:OA B ((a,z)::L) u)(hk:z.length=k)(h2:u.ownsRow B2 e size v m xs)(he:33≠e)(hg:(u.alloc o).grownBy w' (Value.slice a.1 k a.2).ownBlock):w'.ownsRow B2 e size v m xs:=by
 subst hk;exact h.stays h2 he hg
theorem OA.swap{x y:Or}(h:OA B (x::y::L) u):OA B (y::x::L) u:=h.perm (List.Perm.swap _ _ _)
theorem OA.last{x:Or}(h:OA B (x::L) u):OA B (L++[x]) u:=h.perm ((List.perm_append_singleton x L).symm)
theorem OA.lts(h:OA B L u):∀y∈L,∀k,(orV y).ownBlock=some k->k<u.heap.size:=λy hy k hk=>((h.own y hy).lt k hk).2
theorem OA.add(h:OA B L u)(hD:∀y∈L,∀k,(orV y).ownBlock=some k->k<D)(hB:B<=D)(hz:ZW D g c N l u):∃ps:List Zr,ps.map (·.2)=l/\ps.length=N/\OA B (((some ⟨g,0,none⟩,c),ps)::L) u:=by
 obtain⟨ps,h1,h2,h3⟩:=hz;obtain⟨A,c',e,-,-,-,hk⟩:=Y6 h3 h2;subst hk;refine⟨ps,h1,rfl,h.cons (h3.mono hB) h2 λy hy k e1 e2=>?_⟩;have h5:=hD y hy k e2;have h6:=(h3.lt k e1).1;omega
theorem OA.putG{z:List Zr}(h:OA w.heap.size (((some ⟨g,0,none⟩,c),z)::L) u)(hG:A4 w u){j:Nat}(hj:j<z.length)(hp:Rz u p q)(hu:C7 u g (j*3) (zL p q)=w'):OA w.heap.size (((some ⟨g,0,none⟩,c),z.set j (p,q))::L) w'/\A4 w w':=by
 obtain⟨h1,h2⟩:=h.put hj hp hu;exact⟨h1,hG.grown h2 λk hk=>(h.head.1.1.lt k hk).1⟩
theorem OA.spot(h:OA B (((some ⟨g,0,none⟩,c),z)::L) u){j:Nat}(hj:j<z.length):∃y0 y1 y2,u.cell? ⟨g,j*3,none⟩=some y0/\u.cell? ⟨g,j*3+1,none⟩=some y1/\u.cell? ⟨g,j*3+2,none⟩=some y2/\∀j,u.frozen? ⟨g,j,none⟩=false :=
 A4y (enc:=zrL) (λ_=>rfl) h.head.1.1 rfl j hj
end
theorem B4D(G:List Or):(G.map orR).map (·.2.2)=G.map orQ:=by
 rw[List.map_map];rfl
theorem B7S(X:List (List Rat))(y:List Rat)(N L:Nat):P8 X y (G8 L) N L=I1 X y N L:=by
 refine A6u (n:=L) (A53 _ _ _ _ _) (by unfold I1;simp) λj hj=>?_;rw[A5S X y (G8 L) N L hj];have:E0 (J7 X N j) (gq (G8 L)) L=0:=A0j λi _=>by rw[A5U];grind
 rw[this];grind
theorem B5Y(F G:List Rat)(n:Nat)(a:Rat):A1b F G (K4 a) n=M6 F G n a:=by
 unfold A1b M6 G0 C3 K4 G9;refine B96 λi _=>?_;grind
section
variable {X:List (List Rat)} {N L:Nat}
theorem A9t(y:List Rat)(a:Rat)(k:Nat):(I9 X y N L a k).length=L:=by unfold I9 M6;simp
theorem B6S(hF:A1T X N L)(y:List Rat){a:Rat}(ha:0<=a){k:Nat}(h:M9 X y (I9 X y N L a k) N L a=L):I9 X y N L a k=V7 X y N L a :=
 A6u (A9t y a k) (A6V X y N L a) λi hi=>B46 hF y ha (A8V.1 h) i hi
theorem B1Z(hF:A1T X N L)(y:List Rat){a:Rat}(ha:0<=a):∃k,k<3^L/\M9 X y (I9 X y N L a k) N L a=L :=
 ⟨U6 X y N L a,(A6K hF y a).1,A8V.2 (A8Z hF y ha)⟩
end
theorem B5B{X:List (List Rat)}{N L:Nat}(hF:A1T X N L)(y:List Rat){a:Rat}(ha:0<=a):∃K,K<3^L/\M9 X y (I9 X y N L a K) N L a=L/\I9 X y N L a K=V7 X y N L a/\∀j,j<K->M9 X y (I9 X y N L a j) N L a≠L:=by
 obtain⟨k,hk,he⟩:=B1Z hF y ha;obtain⟨-,q2,q3,q4⟩:=A16 (λk=>!decide (M9 X y (I9 X y N L a k) N L a=L)) (3^L) 0;obtain⟨K,hK⟩:∃K,K=X6 (λk=>!decide (M9 X y (I9 X y N L a k) N L a=L)) (3^L) 0:=⟨_,rfl⟩
 rw[<-hK]at q2 q3 q4;have hlt:K<3^L:=by
  rcases B73 K (3^L)with h|h
  ·exact h
  ·have:=q3 k (B8k _) (by omega);simp[he]at this
 have h4:=q4 (by omega);simp only[Bool.not_eq_false',decide_eq_true_eq]at h4
 exact⟨K,hlt,h4,B6S hF y ha h4,λj hj=>by
  have:=q3 j (B8k _) hj
  simpa using this⟩
theorem B4N{W:World}{p:Az}{q:Rat}(h:Rz W p q):Rz W p (K4 q):=by
 obtain⟨h1,h2⟩:=h;unfold K4;exact⟨by rw[Rat.neg_num,B9T];exact h1,by rw[Rat.neg_den];exact h2⟩
theorem B0x{X:List (List Rat)}{N L:Nat}{U:List Nat}(hU:∀x∈U,x<L):M8 (J3 X N L) U=U.map λi=>U.map λj=>E7 (G1 X i N) (G1 X j N) N:=by
 unfold M8;refine B96 λi hi=>B96 λj hj=>?_;exact A1r (hU i hi) (hU j hj)
end Go.Proofs.YtgpglgbcobeogaaGreatDoor
