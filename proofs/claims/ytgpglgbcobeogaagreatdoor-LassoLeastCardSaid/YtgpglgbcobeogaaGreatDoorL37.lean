import Derived.Test.YtgpglgbcobeogaaGreatDoorL36
set_option linter.unusedSimpArgs false
set_option linter.unusedVariables false
set_option maxHeartbeats 4000000
set_option maxRecDepth 100000
namespace Go.Proofs.YtgpglgbcobeogaaGreatDoor
open Go Go.RowKit
theorem A45{B b:Nat}{w W:World}{o:Obj}(h:Below B w W)(hb:B<=b):Below B w (W.putObj b o) :=
 ⟨h.os,h.tape,h.output,by rw[C0J];exact h.size,λk hk=>(C0K (by omega)).trans (h.block k hk)⟩
def A7C(D:Nat)(J:Nat->Prop)(Ix:World->Prop)(i:Nat)(W:World):Exit->Act->World->Prop
 | .normal,_,W'=>A4 W W'/\J (i+1)
 | .ret,_,W'=>Ix W'/\W'.heap[D]?=W.heap[D]?/\W'.heap[D+1]?=W.heap[D+1]?
 | _,_,_=>False
theorem B1t{P:Program}{g:Operand}{p0:Tmp}{assign body:Code}{Q:Exit->Act->World->Prop}{a:Act}{wE:World}{gf:Nat}{lb:Array Value}(hg:a.eval g = .func (.func gf) #[] lb)(eg:∀args w,(callFunc gf args).run P w = .ok (.enter gf args) w)
  (N:Nat) (C:Nat->Value->World->Prop) (J:Nat->Prop) (Ix:World->Prop) (a₁:Value->Act)
  (it:∀(l:Nat) (Rd:Nat->World->Prop) (Rx:World->Prop) (W:World),A4 wE W->wE.heap.size+2<=W.heap.size->(∀i u v,A4 u v->Rd i u->Rd i v)->(∀u v,A4 u v->Rx u->Rx v) ->
   (∀i v W1,i<N->A4 wE W1->Rd i W1->C i v W1->YieldAt Fence.wide 0 P l #[v] W1 λe W'=>(e = .returned (.bool true)/\A4 W1 W'/\Rd (i+1) W')\/(e = .returned (.bool false)/\Rx W')) ->
   Rd 0 W->CallsIn Fence.wide 0 P gf (#[.func (.yield l) #[] #[]]++lb) W λe W'=>(∃v,e = .returned v)/\((A4 wE W'/\Rd N W')\/Rx W'))
  (hC:∀i v W o,C i v W->C i v (W.putObj (wE.heap.size+1) o)) (hIx:∀W o b,b=wE.heap.size\/b=wE.heap.size+1->Ix W->Ix (W.putObj b o)) (hIg:∀u v,A4 u v->Ix u->Ix v) (h0:J 0)
  (hassign:∀(l:Nat) (v:Value) (W:World) (K:Act->World->Prop),K (a₁ v) W->assign.wpIn (Fence.wide.inRound l) 0 P (Exit.then K (λ_ _ _=>False)) { tmps:=((#[p0]:Array Tmp).zip #[v]).foldl (λt (p,v)=>t.setIfInBounds p v) a.tmps,defers:=[] } W)
  (hbody:∀(l i:Nat) (v:Value) (W:World),i<N->J i->A4 wE W->wE.heap.size+2<=W.heap.size->C i v W->body.wpIn (Fence.wide.inRound l) 0 P (A7C wE.heap.size J Ix i W) (a₁ v) W)
  (hdone:∀W,A4 wE W->J N->W.heap[wE.heap.size]?=some (.deferred (some []))->Q .normal { a with defers:={ target:=.collected wE.heap.size,args:=#[] }::a.defers } W)
  (hstop:∀W,Ix W->W.heap[wE.heap.size]?=some (.deferred (some []))->Code.ret.wpIn Fence.wide 0 P Q { a with defers:={ target:=.collected wE.heap.size,args:=#[] }::a.defers } W) :
  (Code.rangeFunc g #[p0] assign body).wpIn Fence.wide 0 P Q a wE:=by
 refine wpIn_rangeFunc ?_;intro fn hfn;obtain⟨rec,hrec⟩:∃rec:LoopState->Option Code->Loop,rec=λst pe=>{ state:=st,pending:=pe,fn,tmps:=a.tmps,params:=#[p0],assign,body,defers:=wE.heap.size }:=⟨_,rfl⟩
 obtain⟨W1,hW1⟩:∃W1,(wE.alloc (.deferred (some []))).alloc (.loop (rec .ready none))=W1:=⟨_,rfl⟩
 have hL1:W1.heap[wE.heap.size+1]?=some (.loop (rec .ready none)):=by
  rw[<-hW1];have:=World.alloc_heap_new (wE.alloc (.deferred (some []))) (.loop (rec .ready none));rwa [World.size_alloc]at this
 have hK1:W1.heap[wE.heap.size]?=some (.deferred (some [])):=by
  rw[<-hW1];exact(Below.heap_alloc _ _ _ (by simp)).trans (World.alloc_heap_new wE _)
 have hG1:A4 wE W1:=by rw[<-hW1];exact(A4.alloc _ _).trans (A4.alloc _ _)
 have hS1:wE.heap.size+2<=W1.heap.size:=by rw[<-hW1];simp
 have keep:∀ {u v:World} {k:Nat} {o:Obj},A4 u v->u.heap[k]?=some o->v.heap[k]?=some o:=λhg h=>(hg.block _ (Array.getElem?_eq_some_iff.1 h).1).trans h
 refine⟨wE.heap.size+1,[{ target:=.collected wE.heap.size,args:=#[] }],W1,{ target:=.fn (.func gf) lb,args:=#[.func (.yield (wE.heap.size+1)) #[] #[]] },W1,gf,
  #[.func (.yield (wE.heap.size+1)) #[] #[]]++lb,W1,?_,?_,λ_ _=>trivial,?_,λh=>(by cases h),?_⟩
 ·rw[<-hW1,hrec];exact run_enterLoop_outer _ _ _ _ _
 ·simp only[resolve,hg];simp[go_sem]
 ·simp[invoke,go_sem,eg]
 ·refine(it (wE.heap.size+1)
   (λi W=>J i/\W.heap[wE.heap.size+1]?=some (.loop (rec .ready none))/\W.heap[wE.heap.size]?=some (.deferred (some [])))
   (λW=>Ix W/\W.heap[wE.heap.size+1]?=some (.loop (rec .done (some .ret)))/\W.heap[wE.heap.size]?=some (.deferred (some [])))
   W1 hG1 hS1 (λi u v hg h=>⟨h.1,keep hg h.2.1,keep hg h.2.2⟩) (λu v hg h=>⟨hIg _ _ hg h.1,keep hg h.2.1,keep hg h.2.2⟩) ?_ ⟨h0,hL1,hK1⟩).mono ?_
  ·rintro i v W hi hGW ⟨hj,hl,hk⟩ hc;have hlt:wE.heap.size+1<W.heap.size:=(Array.getElem?_eq_some_iff.1 hl).1;have hy:=run_yield (P:=P) (args:=#[v]) hl (by rw[hrec];rfl);rw[hrec]at hy;refine⟨fn,_,assign,body,hy,roundIn_of_wpIn hfn (hassign _ v W _ ⟨_,run_beginRound hl (by rw[hrec]),?_⟩)⟩;obtain⟨Wb,hWb⟩:∃Wb,Wb=W.putObj (wE.heap.size+1) (.loop { rec .ready none with state:=.busy }):=⟨_,rfl⟩
   have hl2:Wb.heap[wE.heap.size+1]?=some (.loop { rec .ready none with state:=.busy }):=by rw[hWb];exact C0L hlt
   have hk2:Wb.heap[wE.heap.size]?=some (.deferred (some [])):=by rw[hWb];exact(C0K (by omega)).trans hk
   have hg2:A4 wE Wb:=by rw[hWb];exact A45 hGW (by omega)
   have hc2:C i v Wb:=by rw[hWb];exact hC i v W _ hc
   have hs2:Wb.heap.size=W.heap.size:=by rw[hWb];exact C0J
   rw[<-hWb];refine wpIn_mono (hbody _ i v Wb hi hj hg2 (by omega) hc2) ?_;rintro e a3 W3 hp
   cases e with
   | normal =>
    obtain⟨hk3,hj3⟩:=hp;have hl3:=keep hk3 hl2;have hr:=run_endRound (P:=P) none hl3;have hlt3:=(Array.getElem?_eq_some_iff.1 hl3).1;have e1:(W3.putObj (wE.heap.size+1) (.loop { rec .ready none with state:=.ready,pending:=none })).heap[wE.heap.size+1]?=some (.loop (rec .ready none)):=by
     rw[C0L hlt3,hrec]
    refine⟨_,_,hr,.inl ⟨rfl,⟨?_,?_,?_,?_,λk hk=>?_⟩,hj3,e1,(C0K (by omega)).trans (keep hk3 hk2)⟩⟩
    ·exact hk3.os.trans (by rw[hWb];rfl)
    ·exact hk3.tape.trans (by rw[hWb];rfl)
    ·exact hk3.output.trans (by rw[hWb];rfl)
    ·rw[C0J];have:=hk3.size;omega
    ·by_cases hkk:k=wE.heap.size+1
     ·rw[hkk];exact e1.trans hl.symm
     ·refine(C0K hkk).trans ((hk3.block k (by omega)).trans ?_);rw[hWb];exact C0K hkk
   | ret =>
    obtain⟨hi3,hd3,hl3⟩:=hp;have hl3:=hl3.trans hl2;have hr:=run_endRound (P:=P) (some .ret) hl3;have hlt3:=(Array.getElem?_eq_some_iff.1 hl3).1;refine⟨_,_,hr,.inr ⟨rfl,hIx _ _ _ (.inr rfl) hi3,?_,(C0K (by omega)).trans (hd3.trans hk2)⟩⟩;rw[C0L hlt3,hrec];rfl
   | exit id=>exact hp.elim
   | goto t=>exact hp.elim
   | panic ch=>exact hp.elim
   | outgrown=>exact hp.elim
  ·rintro e W2 ⟨⟨v,rfl⟩,(⟨hg2,hj2,hl,hk⟩|⟨hx,hl,hk⟩)⟩
   ·refine⟨none,_,by have:=run_endLoop (P:=P) hl (by rw[hrec];simp);rw[hrec]at this;exact this,hdone _ (A45 hg2 (by omega)) hj2 ((C0K (by omega)).trans hk)⟩
   ·refine⟨some .ret,_,by have:=run_endLoop (P:=P) hl (by rw[hrec];simp);rw[hrec]at this;exact this,hstop _ (hIx _ _ _ (.inr rfl) hx) ((C0K (by omega)).trans hk)⟩
end Go.Proofs.YtgpglgbcobeogaaGreatDoor
namespace Go.Proofs.YtgpglgbcobeogaaGreatDoor
open Go Go.RowKit Go.Shelf
attribute [local go_sem] Oper.semAt_some
def sgI(c t:Nat):Int:=((c/3^t%3:Nat):Int)-1
def F6(n c:Nat):List Int:=(List.range n).map (sgI c)
def A0a(f:Nat->Int)(n i:Nat):List Int:=(List.range n).map λj=>if j<i then f j else 0
theorem B3p(f:Nat->Int)(n i:Nat):(A0a f n i).length=n:=by unfold A0a;simp
theorem B1n(f:Nat->Int)(n:Nat):A0a f n 0=List.replicate n 0:=by
 unfold A0a;apply B8I
 ·simp
 ·intro i h1 h2;simp
theorem B6n(f:Nat->Int)(n:Nat):A0a f n n=(List.range n).map f:=by
 unfold A0a;refine B96 λj hj=>?_;rw[if_pos (List.mem_range.1 hj)]
theorem B44{f:Nat->Int}{n i:Nat}(h:i<n):(A0a f n i).set i (f i)=A0a f n (i+1):=by
 unfold A0a;apply B8I
 ·simp
 ·intro j h1 h2;rw[B95];simp only[List.getElem_map,List.getElem_range];by_cases e:i=j
  ·subst e;simp
  ·rw[if_neg e];by_cases hj:j<i
   ·rw[if_pos hj,if_pos (by omega)]
   ·rw[if_neg hj,if_neg (by omega)]
def A7N(B n:Nat)(i:Nat)(v:Value)(W:World):Prop:=∃b,v = .slice (some ⟨b,0,none⟩) n n/\B<=b/\Blk W b 3 (T9 (F6 n i))
theorem B7U(n b1:Nat)(hn:n<=6)(wE:World)(hb:Blk wE b1 3 #[.int .i64 (n:Nat)])(l:Nat)(Rd:Nat->World->Prop)(Rx:World->Prop)(W:World)(hGW:A4 wE W)(hsz:wE.heap.size+2<=W.heap.size)(hRd:∀i u v,A4 u v->Rd i u->Rd i v)(hRx:∀u v,A4 u v->Rx u->Rx v)
  (hY:∀i v W1,i<3^n->A4 wE W1->Rd i W1->A7N (wE.heap.size+2) n i v W1->YieldAt Fence.wide 0 Tryz.prog l #[v] W1 λe W'=>(e = .returned (.bool true)/\A4 W1 W'/\Rd (i+1) W')\/(e = .returned (.bool false)/\Rx W')) (h0:Rd 0 W) :
  CallsIn Fence.wide 0 Tryz.prog 127 (#[.func (.yield l) #[] #[]]++#[.pointer (some ⟨b1,0,none⟩)]) W λe W'=>(∃v,e = .returned v)/\((A4 wE W'/\Rd (3^n) W')\/Rx W'):=by
 refine callsIn_wide.2 (callsIn_wide (n:=1).1 ?_);refine callsIn_of_wp Tryz.func127 rfl trivial ?_ rfl;have hpw:∀i,i<=n->3^i<=729:=λi hi=>B8K (B8Z (by omega) (B8K hi hn)) (by decide);have hmk:=B2g n (by omega) (n:Int) rfl;have Hmk:=B8S hmk;have Hpw:=B8S hpw;have HY:=B8S hY;have hbl:∀V,A4 wE V->V.cell? ⟨b1,0,none⟩=some (.int .i64 (n:Nat))/\V.frozen? ⟨b1,0,none⟩=false:=λV hg=>⟨by rw[(hb.grow hg).cell 0];rfl,(hb.grow hg).frozen 0⟩
 have Hbl:=B8S hbl;clear hY hb hmk hpw hbl;simp only[Tryz.ntmps127,List.size_toArray,List.length_cons,List.length_nil,Nat.reduceAdd,Nat.reduceSub,Array.replicate_succ,Array.replicate_zero,List.push_toArray,List.append_toArray,List.nil_append,List.cons_append];obtain⟨q0,q1⟩:=Hbl.out W hGW;gi_wp2;gi_loopw [9,3] (λs0 s1 wr=>wr=W/\∃i:Nat,i<=n/\s0 = .int .i64 i/\s1 = .int .i64 (3^i:Nat)) (λs0 _ _=>n-(intOf s0).toNat)
 case atStart=>exact⟨rfl,0,B8k _,rfl,rfl⟩
 case round =>
  obtain⟨rfl,i,hi,rfl,rfl⟩:=hrel;have hT:=Hpw.out i hi;obtain⟨T,hTe⟩:∃T,T=3^i:=⟨_,rfl⟩
  rw[<-hTe]at hT;simp only[<-hTe];rcases B73 i n with hlt|hge
  ·have hdec:decide ((i:Int)<(n:Int))=true:=by simp;omega
   have hw1:IntKind.i64.wrap ((T:Int)*3)=((3^(i+1):Nat):Int):=by
    rw[B8j _ (by omega),Nat.pow_succ,<-hTe];omega
   have hw2:IntKind.i64.wrap ((i:Int)+1)=((i+1:Nat):Int):=by rw[B8j _ (by omega)];omega
   clear hTe;gi_wp2;go_roundw
   case rel=>exact⟨(by first|trivial|rfl),i+1,by omega,rfl,rfl⟩
   case measure=>simp[intOf];omega
  ·obtain rfl:n=i:=by omega
   have hdec:decide ((n:Int)<(n:Int))=false:=by simp
   have Hte:=B8S hTe;clear hTe q0 q1;gi_wp2;gi_loopw [15] (λs0 wr=>∃c:Nat,c<=T/\s0 = .int .i64 c/\A4 wE wr/\Rd c wr/\wE.heap.size+2<=wr.heap.size) (λs0 _=>T-(intOf s0).toNat)
   case atStart=>exact⟨0,B8k _,rfl,hGW,h0,hsz⟩
   case round =>
    clear hGW hsz h0;obtain⟨c,hc,rfl,hGW,h0,hsz⟩:=hrel;obtain⟨u,rfl⟩:=exQ wr;obtain⟨q0,q1⟩:=Hbl.out u hGW;rcases B73 c T with hlt|hge2
    ·have hdec2:decide ((c:Int)<(T:Int))=true:=by simp;omega
     have hw3:IntKind.i64.wrap ((c:Int)+1)=((c+1:Nat):Int):=by rw[B8j _ (by omega)];omega
     have hmk:=Hmk.out;gi_wp2;clear hmk;generalize hv:World.alloc u _=v;have hbk:Blk v u.heap.size 3 (T9 (A0a (sgI c) n 0)):=by rw[<-hv,B1n];exact Blk.new u 3 _
     have hgv:A4 u v:=hv ▸ A4.alloc u _;have hbz:wE.heap.size+2<=u.heap.size:=hsz;clear hv;generalize hbe:u.heap.size=b at hbk hbz⊢;gi_loopw [6,7] (λs0 s1 wr=>∃j R:Nat,j<=n/\s0 = .int .i64 j/\s1 = .int .i64 R/\R=c/3^j/\A4 u wr/\Blk wr b 3 (T9 (A0a (sgI c) n j))) (λs0 _ _=>n-(intOf s0).toNat)
     case atStart=>exact⟨0,c,B8k _,rfl,rfl,by simp,hgv,hbk⟩
     case round =>
      clear hbk hgv;obtain⟨j,R,hj,rfl,rfl,hR,hgv,hbk⟩:=hrel;obtain⟨p0,p1⟩:=Hbl.out wr (hGW.trans hgv);have hRle:R<=c:=by rw[hR];exact B8P _ _
      rcases B73 j n with hltj|hgej
      ·have hdec3:decide ((j:Int)<(n:Int))=true:=by simp;omega
       have hjn:(j:Int)<(n:Int):=by omega
       have hw4:IntKind.i64.wrap ((j:Int)+1)=((j+1:Nat):Int):=by rw[B8j _ (by omega)];omega
       have hm:(R:Int).tmod 3=((R%3:Nat):Int):=by rw[B8R (by omega)];omega
       have hd:(R:Int).tdiv 3=((R/3:Nat):Int):=by rw[B8Q (by omega)];omega
       have hm3:R%3<3:=B8b _ (by omega);have hd3:R/3=c/3^(j+1):=by rw[hR,Nat.pow_succ,B8W]
       have hsg:sgI c j=((R%3:Nat):Int)-1:=by unfold sgI;rw[<-hR]
       obtain⟨m,hme⟩:∃m,m=R%3:=⟨_,rfl⟩
       obtain⟨d,hde⟩:∃d,d=R/3:=⟨_,rfl⟩
       rw[<-hme]at hm hm3 hsg;rw[<-hde]at hd hd3;have hdl:d<=R:=by rw[hde];exact B8P _ _
       have hw5:IntKind.i64.wrap (m:Int)=(m:Int):=B8j _ (by omega);have hw6:IntKind.i64.wrap (d:Int)=(d:Int):=B8j _ (by omega);have hw7:IntKind.i64.wrap ((m:Int)-1)=(m:Int)-1:=B8j _ (by omega);have hst:=B44 (f:=sgI c) hltj;rw[hsg]at hst;have hcl:=hbk.cell j;rw[A5k,B8i (by rw[B3p];exact hltj)]at hcl;simp only[Option.map_some]at hcl;have hfz:=hbk.frozen j;have hbk2:=hbk.set_ j (.int .i64 ((m:Int)-1));rw[B0E,hst]at hbk2;have hg2:A4 u (wr.setCell ⟨b,j,none⟩ (.int .i64 ((m:Int)-1))):=A4.put (B84 hbe) [.int .i64 ((m:Int)-1)] j wr hgv;have Hd3:=B8S hd3;clear hme hde hR hst hbk hsg hd3;gi_wp2;go_roundw
       case rel=>exact⟨j+1,d,by omega,rfl,rfl,Hd3.out,hg2,hbk2⟩
       case measure=>simp[intOf];omega
      ·obtain rfl:n=j:=by omega
       have hdec3:decide ((n:Int)<(n:Int))=false:=by simp
       rw[B6n]at hbk;have hg3:=hGW.trans hgv;obtain⟨fn,tmps,assign,body,hy,hRd3⟩:=HY.out c _ wr (by rw[<-Hte.out];exact hlt) hg3 (hRd _ _ _ hgv h0) ⟨b,rfl,hbz,hbk⟩;clear hR hbk;gi_wp2;refine hRd3.mono ?_;rintro e W3 (⟨rfl,hg4,hrd⟩|⟨rfl,hx⟩)
       ·gi_wp2;go_roundw
        case rel=>exact⟨c+1,by omega,rfl,hg3.trans hg4,hrd,B8K hsz (hgv.trans hg4).size⟩
        case measure=>simp[intOf];omega
       ·gi_wp2;refine B8L (results_none rfl _ _ _) rfl ?_;exact⟨⟨_,rfl⟩,.inr hx⟩
    ·obtain rfl:T=c:=by omega
     have hdec2:decide ((T:Int)<(T:Int))=false:=by simp
     gi_wp2;go_end0;exact⟨⟨_,rfl⟩,.inl ⟨hGW,by rw[<-Hte.out];exact h0⟩⟩
end Go.Proofs.YtgpglgbcobeogaaGreatDoor
namespace Go.Proofs.YtgpglgbcobeogaaGreatDoor
open Go Go.RowKit
theorem B7D{P:Program}{o:Oper}{a:Act}{w:World}{N N' K:Act->World->Prop}{l0:Nat}(hd:∀c,o.op ≠ .defer c)(hN:∀a w,N a w->N' a w)(h:o.wp P a w N (NoK K)):o.wpIn (Fence.wide.inRound l0) 0 P a w N' (NoK K):=by
 refine⟨λ_ _=>trivial,?_⟩;rw[show(Fence.wide.inRound l0).round=some l0 from rfl,Oper.semAt_some l0 _ _ hd];unfold Oper.wp at h;revert h;generalize (execOp a.eval o).run P w=res;intro h
 cases res with
 | ok n w' =>
  cases n with
  | value v=>exact hN _ _ h
  | skip=>exact hN _ _ h
  | defer d=>exact hN _ _ h
  | enter g args =>
   refine⟨λe=>(by cases e),CallsIn.inRound l0 (callsIn_wide.2 (Calls.mono h λe w'' he=>?_))⟩
   cases e with
   | returned v=>exact hN _ _ he
   | panicked ch=>exact he
   | outgrown=>exact he
  | row r args =>
   exact⟨λe=>(by cases e),λc cs _=>let ⟨v,w',r,s⟩:=(h:Rows P r args w' _) c cs;⟨v,w',hN _ _ r,stepsIn_wide.2 s⟩⟩
  | _=>exact(h:False).elim
 | halt x w' =>
  cases x with
  | panic v=>exact h
  | _=>exact(h:False).elim
theorem B0K{P:Program}{ops:Array Oper}{K:Act->World->Prop}{l0:Nat}:∀(l:List Oper) (a:Act) (w:World),(∀o∈l,∀c,o.op ≠ .defer c)->wpList P ops (NoK K) l a w->wpListIn (Fence.wide.inRound l0) 0 P ops (NoK K) l a w
 | [],_,_,_,h=>h
 | o::l,a,w,hd,h=>by
  unfold wpList at h;unfold wpListIn;have ih:=λa w (h:wpList P ops (NoK K) l a w)=>B0K (l0:=l0) l a w (λx hx=>hd x (B74 _ hx)) h;split at h
  ·rename_i hw;rw[if_pos hw];rcases h with h|⟨_,h⟩
   ·exact B7D (hd o (by simp)) ih h
   ·exact absurd h (by
     intro h;unfold LetsOut at h;obtain⟨_,_,h⟩:=h
     exact h)
  ·rename_i hw;rw[if_neg hw];exact⟨λ_ _=>trivial,ih _ _ h⟩
def A4b(l:List Oper):Bool:=l.all λo=>match o.op with
 | .defer _=>false
 | _=>true
theorem B3M{l:List Oper}(h:A4b l=true):∀o∈l,∀c,o.op ≠ .defer c:=λo ho c e=>by
 have:=List.all_eq_true.1 h o ho;rw[e]at this;cases this
section
variable {P:Program} {Q:Exit->Act->World->Prop} {a:Act} {w u:World} {id l0:Nat} {l tl:List Oper} {ts:List TypeId} {bl:List (Nat×TypeId×Array Value)} {s:List (Nat×Oper)}
theorem A9o(hts:∀t∈ts,R0 P t)(n:Nat)(ks:List Nat)(hB:A0X ts l n ks=true)(htl:l.drop n=tl)
  (hb:Bx u bl) (hG:A4 w u)
  (h:∀K L:Act->World->Prop,(∀a w,Q .normal a w->K a w)->(∀a' w',wpList P l.toArray (NoK K) tl a' w'->L a' w')->OKs P l.toArray L u.heap.size (ks.zip l) [] a (λv=>A4 u v/\Bx v bl/\A4 w v/\True)) (hd:A4b l=true:=by kernel_rfl):(Code.region id l.toArray false).wpIn (Fence.wide.inRound l0) 0 P Q a u:=by
 replace h:=h (Q .normal) (λa' w'=>wpList P l.toArray (NoK (Q .normal)) (l.drop n) a' w') (λ_ _ h=>h) (λ_ _ h=>by rw[htl];exact h);simp only[A0X,Bool.and_eq_true,decide_eq_true_eq]at hB;obtain⟨⟨hlen,hn⟩,hall⟩:=hB;refine wpIn_mono (Q:=NoP Q) (wpIn_region_lit ?_) NoP.up;rw[NoK.eq];refine B0K l a u (B3M hd) ?_;rw[<-NoK.eq]at h⊢;have hz:ks.zip l=ks.zip (l.take n):=by
  rw[<-hlen];clear hlen hn hall h htl hd
  induction ks generalizing l with
  | nil=>simp
  | cons k ks ih=>cases l with
   | nil=>simp
   | cons o l=>simp only[List.length_cons,List.take_succ_cons,List.zip_cons_cons];rw[ih]
 rw[hz]at h;have H:=OKs.seq (Q:=Q) (B:=u.heap.size) (tl:=l.drop n) (ks.zip (l.take n)) [] a (λv=>A4 u v/\Bx v bl/\A4 w v/\True) u (λe he hk=>?_) (λu u' hu hh=>⟨hh.1.trans hu,hh.2.1.grow hu,hh.2.2.1.trans hu,trivial⟩) ⟨A4.refl u,hb,hG,trivial⟩ (λu hu=>⟨hu.1.size,λb hb=>by cases hb⟩) h
 ·rw[A5W ks (l.take n) (by simp;omega),B8D]at H;exact H
 ·obtain⟨i,hi,hie⟩:=List.mem_iff_getElem.1 he;simp only[List.length_zip,List.length_take]at hi;have h2:e=(ks[i]'(by omega),l[i]'(by omega)):=by rw[<-hie];simp
  have h3:(ks[i]'(by omega),i)∈ks.zip (List.range n):=List.mem_iff_getElem.2 ⟨i,by simp;omega,by simp⟩;have hk':2<=ks[i]'(by omega):=by rw[h2]at hk;exact hk
  have h4:=A47 (P:=P) hts hall _ h3 hk' (l[i]'(by omega)) (by simp);rw[h2];exact h4
theorem A8j(hts:∀t∈ts,R0 P t)(ks:List Nat)(hB:Bx u bl)(hG:A4 w u)(h:∀L:Act->World->Prop,(∀a w,Q .normal a w->L a w)->OKs P l.toArray L u.heap.size s [] a (λv=>A4 u v/\Bx v bl/\A4 w v/\True))
  (hs:A0X ts l ks.length ks=true:=by kernel_rfl) (hd:l.drop ks.length=[]:=by(simp only[List.length_cons,List.length_nil,Nat.zero_add,Nat.reduceAdd,List.drop_succ_cons,List.drop_zero,List.drop_nil])) (hz:ks.zip l=s:=by(simp only[List.zip_cons_cons,List.zip_nil_left];exact rfl)) (hf:A4b l=true:=by kernel_rfl):(Code.region id l.toArray false).wpIn (Fence.wide.inRound l0) 0 P Q a u:=by
 subst hz;exact A9o hts ks.length ks hs hd hB hG (λK L hN hL=>h L λa w hq=>hL a w (wpList_nil (NoK.norm (hN a w hq)))) hf
theorem A6T(hts:∀t∈ts,R0 P t)(ks:List Nat)(hB:Bx u bl)(hG:A4 w u)(h:∀K L:Act->World->Prop,(∀a w,Q .normal a w->K a w)->(∀a' w',wpList P l.toArray (NoK K) tl a' w'->L a' w')->OKs P l.toArray L u.heap.size s [] a (λv=>A4 u v/\Bx v bl/\A4 w v/\True))
  (hs:A0X ts l ks.length ks=true:=by kernel_rfl) (hd:l.drop ks.length=tl:=by(simp only[List.length_cons,List.length_nil,Nat.zero_add,Nat.reduceAdd,List.drop_succ_cons,List.drop_zero,List.drop_nil];exact rfl)) (hz:ks.zip l=s:=by(simp only[List.zip_cons_cons,List.zip_nil_left];exact rfl)) (hf:A4b l=true:=by kernel_rfl):(Code.region id l.toArray false).wpIn (Fence.wide.inRound l0) 0 P Q a u:=by
 subst hz;exact A9o hts ks.length ks hs hd hB hG h hf
end
end Go.Proofs.YtgpglgbcobeogaaGreatDoor
