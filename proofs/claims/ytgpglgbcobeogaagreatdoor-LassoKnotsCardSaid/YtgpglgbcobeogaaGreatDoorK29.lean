import Derived.Test.YtgpglgbcobeogaaGreatDoorK1
set_option linter.unusedSimpArgs false
set_option linter.unusedVariables false
namespace Go.Proofs.YtgpglgbcobeogaaGreatDoor
open Go
theorem A7U{α:Type}:∀(k:Ask α) (w:World),w.drawn<=(w.ask k).2.drawn
 | .done a,w=>K2 _
 | .ask what range k,w=>by
  unfold World.ask;simp only;split
  ·exact A7U (k 0) w
  ·exact Nat.le_of_succ_le (A7U (k ((Question.extern what range).cut (w.tape w.drawn (Question.extern what range)))) { w with drawn:=w.drawn+1 })
theorem A6V(w:World)(c:Sys):w.drawn<=(w.sys c).2.drawn:=by
 unfold World.sys;have h:=A7U (Kernel.perform c w.os) w;split
 ·exact K2 _
 ·rename_i r os w' e;rw[e]at h;exact h
theorem A9D{P:Program}{w w':World}{a:Addr}{v:Value}{b:Bool}{l:List Addr}(h:w.farStore P a v b = .ok (w',l)):w'.drawn=w.drawn:=by
 unfold World.farStore at h;split at h
 ·split at h
  ·rename_i r e;cases h;unfold World.viewStore at e;simp only[bind,Except.bind,pure,Except.pure,throw,throwThe,MonadExceptOf.throw]at e
   repeat' split at e
   all_goals first|cases e|skip
   all_goals rfl
  ·cases h
 ·cases h
theorem B1G(w:World)(a:Addr)(n:Nat):(w.freeze a n).drawn=w.drawn:=by
 unfold World.freeze;split<;>rfl
def rw'{α:Type}:Result α->World
 | .ok _ w=>w
 | .halt _ w=>w
theorem B1P{α:Type}(P:Program)(s:Sem α):∀w:World,w.drawn<=(rw' (s.run P w)).drawn:=by
 induction s with
 | pure a=>intro w;exact K2 _
 | load m a k ih =>
  intro w;unfold Sem.run;split
  ·exact ih _ w
  ·split
   ·exact ih _ w
   ·exact K2 _
 | store m a v k ih =>
  intro w
  have key:w.drawn<=(rw' (match w.cell? a with
   | some _ => if w.frozen? a then .halt (.unsupported (.unsafePointer "a write to bytes that a string shares")) w else k.run P (w.setCell a v)
   | none=>match w.farStore P a v (m == .atomic)with
    | .ok (w,_)=>k.run P w
    | .error h=>.halt h w)).drawn:=by
   split
   ·split
    ·exact K2 _
    ·exact ih (w.setCell a v)
   ·split
    ·rename_i w' l e;exact B9l (C0V (A9D e).symm) (ih _)
    ·exact K2 _
  cases v<;>first|exact K2 _|exact key
 | new o k ih=>intro w;exact ih _ { w with heap:=w.heap.push o }
 | shape r k ih=>intro w;exact ih _ w
 | freeze a n k ih=>intro w;exact B9l (C0V (B1G w a n).symm) (ih _)
 | frozen a k ih=>intro w;exact ih _ w
 | getObj r k ih =>
  intro w;unfold Sem.run;split<;>first|exact K2 _|exact ih _ w
 | setObj r o k ih =>
  intro w;unfold Sem.run;split<;>first|exact K2 _|exact ih { w with heap:=w.heap.setIfInBounds r o }
 | choose q k ih =>
  intro w;unfold Sem.run;split
  ·exact ih _ w
  ·exact Nat.le_of_succ_le (ih _ { w with drawn:=w.drawn+1 })
 | sys c k ih=>intro w;exact B9l (A6V w c) (ih _ _)
 | program k ih=>intro w;exact ih _ w
 | mark m k ih=>intro w;exact ih w
 | halt h=>intro w;exact K2 _
theorem A39{α:Type}(P:Program)(s:Sem α):∀(w:World) (es:Array Event),w.drawn<=(rw' (s.runT P w es).1).drawn:=by
 induction s with
 | pure a=>intro w es;exact K2 _
 | load m a k ih =>
  intro w es;unfold Sem.runT;split
  ·exact ih _ w _
  ·split
   ·exact ih _ w _
   ·exact K2 _
 | store m a v k ih =>
  intro w es
  have key:w.drawn<=(rw' (match w.cell? a with
   | some _ => if w.frozen? a then ((.halt (.unsupported (.unsafePointer "a write to bytes that a string shares")) w, es) : Result _ × Array Event) else k.runT P (w.setCell a v) (es.push (⟨.cell a, true, m == Mode.atomic⟩ : Event))
   | none=>match w.farStore P a v (m == Mode.atomic)with
    | .ok (w,touched)=>k.runT P w (es++touched.toArray.map λx=>(⟨.cell x,true,m == Mode.atomic⟩:Event))
    | .error h=>(.halt h w,es)).1).drawn:=by
   split
   ·split
    ·exact K2 _
    ·exact ih (w.setCell a v) _
   ·split
    ·rename_i w' l e;exact B9l (C0V (A9D e).symm) (ih _ _)
    ·exact K2 _
  cases v<;>first|exact K2 _|exact key
 | new o k ih=>intro w es;exact ih _ { w with heap:=w.heap.push o } _
 | shape r k ih=>intro w es;exact ih _ w _
 | freeze a n k ih=>intro w es;exact B9l (C0V (B1G w a n).symm) (ih _ _)
 | frozen a k ih=>intro w es;exact ih _ w _
 | getObj r k ih =>
  intro w es;unfold Sem.runT;split<;>first|exact K2 _|exact ih _ w _
 | setObj r o k ih =>
  intro w es;unfold Sem.runT;split<;>first|exact K2 _|exact ih { w with heap:=w.heap.setIfInBounds r o } _
 | choose q k ih =>
  intro w es;unfold Sem.runT;split
  ·exact ih _ w _
  ·exact Nat.le_of_succ_le (ih _ { w with drawn:=w.drawn+1 } _)
 | sys c k ih=>intro w es;exact B9l (A6V w c) (ih _ _ _)
 | program k ih=>intro w es;exact ih _ w _
 | mark m k ih=>intro w es;exact ih w _
 | halt h=>intro w es;exact K2 _
def gw:GStep->World
 | .go _ w _ | .comm _ _ _ _ w _ | .spawn _ _ w _ | .count _ w _ | .timer _ _ w _ | .alone _ _ w _ | .newcoro _ _ _ w _ | .coroswitch _ _ _ w _ | .collect _ w _ | .watch _ w _ | .ended _ w _=>w
theorem A1w(es:Array Event)(s:GStep):gw (GStep.after es s)=gw s:=by
 cases s<;>rfl
theorem T7{α:Type}{P:Program}{s:Sem α}{w:World}{x:Result α}(h:s.run P w=x):w.drawn<=(rw' x).drawn:=h ▸ B1P P s w
theorem A32{α:Type}{P:Program}{s:Sem α}{w:World}{es:Array Event}{x:Result α×Array Event}(h:s.runT P w es=x):w.drawn<=(rw' x.1).drawn:=h ▸ A39 P s w es
theorem A68(p:Program)(main:Bool)(fr:Frame)(cs:List Frame)(d:Option Dying)(v:Value)(w:World):gw (doReturn p main fr cs d v w)=w:=by
 unfold doReturn
 repeat' split
 all_goals rfl
theorem B9B(w:World)(fd:Nat)(t:ByteArray)(o:Outcome):w.drawn<=(gw (endWith w fd t o)).drawn:=by
 unfold endWith;have h:=A6V w (.write fd t);generalize w.sys (.write fd t)=x at h⊢;obtain⟨r,w'⟩:=x;simp only at h⊢;cases r<;>simp only<;>(repeat' split)<;>exact h
theorem A8N(p:Program)(fr:Frame)(v:Value)(w:World):gw (endPrinting p fr v w)=w:=by
 unfold endPrinting;simp only;split<;>rfl
theorem A73(p:Program)(fr:Frame)(cs:List Frame)(d:Option Dying)(m:String)(w:World):w.drawn<=(gw (endFatal p fr cs d m w)).drawn:=by
 unfold endFatal;simp only;split
 all_goals
  rename_i e;exact T7 e
theorem B2A(p:Program)(fr:Frame)(d:Dying)(f:Fatal)(w:World):w.drawn<=(gw (writeOn p fr d f w)).drawn:=by
 unfold writeOn;simp only;split
 ·exact K2 _
 ·split
  all_goals
   rename_i e;exact A32 e
theorem B1h(p:Program)(fr:Frame)(d:Dying)(w:World):w.drawn<=(gw (die p fr d w)).drawn:=by
 unfold die;split
 ·exact B2A _ _ _ _ _
 ·split
  ·split
   ·exact K2 _
   ·exact B9B _ _ _ _
  ·simp only;split
   ·exact K2 _
   ·split
    all_goals
     rename_i e;exact T7 e
   ·rename_i t recv name _;generalize hx:Sem.runT p _ w _=x;have h:=A32 hx;obtain⟨r,es⟩:=x;simp only at h⊢;rw[A1w];split
    all_goals first|exact K2 _|exact h|(rw[A8N];exact h)
   ·exact K2 _
theorem A2e{c:Prop}[Decidable c]{a b:GStep}{n:Nat}(ha:n<=(gw a).drawn)(hb:n<=(gw b).drawn):n<=(gw (if c then a else b)).drawn:=by
 split
 ·exact ha
 ·exact hb
theorem B6g(p:Program)(fr:Frame)(cs:List Frame)(dy:Option Dying)(d:Deferred)(w:World):w.drawn<=(gw (callDeferred p fr cs dy d w)).drawn:=by
 unfold callDeferred;refine A2e (K2 _) ?_
 ·generalize hx:Sem.runT p _ w _=x;have h:=A32 hx;obtain⟨r,es⟩:=x;simp only at h⊢;rw[A1w]
  repeat' split
  all_goals first|exact h|exact B9l h (A73 _ _ _ _ _ _)|skip
theorem B2c(p:Program)(main:Bool)(fr:Frame)(cs:List Frame)(dy:Option Dying)(w:World):w.drawn<=(gw (unwind p main fr cs dy w)).drawn:=by
 unfold unwind;split
 ·generalize hx:Sem.runT p _ w _=x;have h:=A32 hx;obtain⟨r,es⟩:=x;simp only at h⊢;rw[A1w];split<;>exact h
 ·exact B6g _ _ _ _ _ _
 ·split
  ·exact K2 _
  ·split
   ·exact K2 _
   ·split
    ·exact K2 _
    ·split
     ·split
      ·exact K2 _
      ·split
       all_goals
        rename_i e;exact T7 e
     ·split
      ·rw[A8N];exact K2 _
      ·exact K2 _
  ·split
   ·rw[A68];exact K2 _
   ·generalize hx:Sem.runT p _ w _=x;have h:=A32 hx;obtain⟨r,es⟩:=x;simp only at h⊢;rw[A1w];split
    ·rw[A68];exact h
    ·exact h
    ·exact h
theorem B2i(p:Program)(fr:Frame)(cs:List Frame)(dy:Option Dying)(g:Nat)(w:World):w.drawn<=(gw (early p fr cs dy g w)).drawn:=by
 have hn:∀w:World,w.drawn<=(gw (match w.heap[g]? with
  | some (.pending c elem)=>GStep.go { frame:=fr,callers:=cs,status:=.running,dying:=dy } { w with heap:=w.heap.setIfInBounds g (.cells c elem) }
  | _ => .ended (.stuck "early: the variable does not wait" (fr.pos p)) w)).drawn := fun w => by
  split<;>exact K2 _
 unfold early;simp only
 repeat' split
 all_goals first|exact K2 _|exact hn w|exact T7 ‹Sem.run p (choose (Question.early g)) w=_›
theorem A5Y(p:Program)(main listen:Bool)(fr:Frame)(cs:List Frame)(dy:Option Dying)(s:Sem Next)(w:World):w.drawn<=(gw (stepG.apply p listen fr cs dy s w)).drawn:=by
 unfold stepG.apply;simp only;have h:w.drawn<=(rw' (if listen=true then s.runT p w #[]else(s.run p w,#[])).1).drawn:=by
  split
  ·exact A39 p s w #[]
  ·exact B1P p s w
 generalize (if listen=true then s.runT p w #[]else(s.run p w,#[]))=x at h⊢;obtain⟨r,es⟩:=x;simp only at h⊢;rw[A1w]
 repeat' split
 all_goals first|exact h|exact B9l h (A73 _ _ _ _ _ _)|exact B9l h (B2i _ _ _ _ _ _)|skip
theorem B1e(p:Program)(main listen:Bool)(fr:Frame)(cs:List Frame)(dy:Option Dying)(w:World):w.drawn<=(gw (stepG.oper p listen fr cs dy w)).drawn:=by
 unfold stepG.oper;split
 ·exact K2 _
 ·split<;>exact A5Y _ true _ _ _ _ _ _
theorem B7Z(p:Program)(main listen:Bool)(fr:Frame)(cs:List Frame)(dy:Option Dying)(w:World):w.drawn<=(gw (stepG.exec p main listen fr cs dy w)).drawn:=by
  have hr : ∀ (l : Nat) (jump : Option Code) (why : String), w.drawn ≤ (gw (GStep.after (seen p fr.fn (Sem.runT p (Instr.endRound l jump) w #[]).snd) (match (Sem.runT p (Instr.endRound l jump) w #[]).fst with
        | .ok v w=>doReturn p main fr cs dy v w
        | .halt _ w=>.ended (.stuck why (fr.pos p)) w))).drawn:=λl jump why=>by
    have h:=A39 p (Instr.endRound l jump) w #[];rw[A1w];split
    · rename_i e;rw[e]at h;rw[A68];exact h
    · rename_i e;rw[e]at h;exact h
  unfold stepG.exec;simp only;split
  case h_1=>split;exact A2e (K2 _) (K2 _);exact hr _ _ _
  case h_2=>split;exact A2e (K2 _) (K2 _);exact hr _ _ _
  case h_13 =>
    cases exitTo _ _
    · simp only[Option.elim];split;exact A2e (K2 _) (K2 _);exact hr _ _ _
    · exact K2 _
  case h_14 =>
    cases gotoIn _ _
    · simp only[Option.elim];split;exact A2e (K2 _) (K2 _);exact hr _ _ _
    · exact K2 _
  all_goals first|exact K2 _|(with_reducible exact A5Y _ true _ _ _ _ _ _)|(with_reducible exact B1e _ true _ _ _ _ _)|skip
  case h_8=>split<;>exact K2 _
  case h_15 =>
    rename_i params assign body k _;have h:=A39 p (Instr.enterLoop fr.fn fr.tmps params assign body fr.roundOf) w #[];rw[A1w];split
    · rename_i e;rw[e]at h;exact B9l h (A5Y _ true _ _ _ _ _ _)
    · rename_i e;rw[e]at h;exact h
  case h_18 =>
    rename_i l k _;have h:=A39 p (Instr.endLoop l) w #[];rw[A1w];split
    all_goals
      rename_i e;rw[e]at h;exact h
  case h_21 =>
    rename_i row _ _ _;cases Extern.next row
    · exact K2 _
    · exact A5Y _ true _ _ _ _ _ _
  case h_22 =>
    refine A2e (K2 _) ?_;split
    all_goals
      rename_i e;exact T7 e
  case h_24=>split;exact B1e _ true _ _ _ _ _;exact K2 _
theorem B6Z(p:Program)(main:Bool)(g:Goroutine)(w:World)(listen:Bool):w.drawn<=(gw (stepG p main g w listen)).drawn:=by
 unfold stepG;split;split
 ·exact B1h _ _ _ _
 ·exact B7Z _ _ _ _ _ _ _
 ·exact B2c _ _ _ _ _ _
def Nd(n:Nat):Stepped->Prop
 | .next m=>n<=m.world.drawn
 | _=>True
theorem Nd.weak{n k:Nat}(h:n<=k):∀ {s:Stepped},Nd k s->Nd n s
 | .next _,e=>B9l h e
 | .ended _ _,_=>trivial
theorem A7e(p:Program)(gs:Array Goroutine)(rest:Rest)(w:World):Nd w.drawn (look p gs rest w):=by
 unfold look;split
 ·simp only;split
  ·exact trivial
  ·split
   ·exact trivial
   ·split
    ·rename_i e;exact T7 e
    all_goals exact trivial
 ·exact trivial
theorem B3W(p:Program)(m:Machine)(k:Nat):Nd m.world.drawn (serve p m k):=by
 unfold serve;split
 ·exact trivial
 ·exact K2 _
 ·simp only;split
  ·exact trivial
  ·exact K2 _
theorem B5L{rest:Rest}{cases:Array CommCase}{w w':World}(h:waitingAt rest cases w=some w'):w'.drawn=w.drawn:=by
 unfold waitingAt at h;split at h
 ·split at h
  ·cases h;rfl
  ·cases h
 ·cases h;rfl
theorem B9C(w:World)(c:Nat):(drain w c).2.drawn=w.drawn:=by
 unfold drain;split<;>rfl
theorem B1N(m:Machine)(k:Nat)(t:Timer)(a b:Nat):(retime m k t a b).2.world.drawn=m.world.drawn:=by
 unfold retime;split;rename_i e;split at e
 ·have h:=B9C m.world ‹Nat›
  rw[e]at h;exact h
 ·cases e;rfl
theorem B3a(p:Program)(rest:Rest)(gs:Array Goroutine)(i:Nat)(g:Goroutine)(cases:Array CommCase)(blocking:Bool)(shape:CommShape)(w:World):Nd w.drawn (communicate p rest gs i g cases blocking shape w).1:=by
 unfold communicate;simp only;split
 ·exact trivial
 ·split
  ·split
   ·split
    ·rename_i e;exact C0V (B5L e).symm
    ·exact trivial
   ·exact K2 _
  ·split
   ·exact trivial
   ·rename_i e;have h:=T7 e;clear e;split
    ·split
     ·rename_i e;exact B9l h (T7 e)
     ·exact trivial
    ·exact h
    ·exact h
    ·split
     ·exact h
     ·split
      ·rename_i e;exact B9l h (T7 e)
      ·exact trivial
    ·exact h
    ·exact h
    ·exact trivial
theorem A9R{m:Machine}{var:Addr}{f:Nat->Timer->Value×Machine}(hf:∀k t,(f k t).2.world.drawn=m.world.drawn){v:Value}{m':Machine}(m0:Machine)(h:timerOp.named m0 var f = .ok (v,m')):m'.world.drawn=m.world.drawn:=by
 unfold timerOp.named at h;split at h
 ·injection h with h;have:=hf ‹Nat› (m0.rest.timers.getD ‹Nat› default);rw[h]at this;exact this
 ·cases h
theorem B6Q{m m':Machine}{var:Addr}(h:timerOp.opened m var=some m'):m'.world.drawn=m.world.drawn:=by
 unfold timerOp.opened at h;split at h
 ·split at h
  ·cases h;rfl
  ·cases h
 ·cases h;rfl
theorem B8k{m m':Machine}{op:TimerOp}{v:Value}(h:timerOp m op = .ok (v,m')):m'.world.drawn=m.world.drawn:=by
 unfold timerOp at h;split at h
 ·split at h
  ·cases h;rfl
  ·split at h
   ·split at h
    ·cases h
    ·cases h;rfl
   ·cases h
 ·exact A9R (m:=m) (λk t=>B1N _ _ _ _ _) _ h
 ·split at h
  ·rename_i m1 e;exact(A9R (m:=m1) (λk t=>B1N _ _ _ _ _) _ h).trans (B6Q e)
  ·cases h
 ·cases h;rfl
theorem B0v{fr:Frame}{s:String}{w w':World}{g:Goroutine}{es:Array Event}(h:endThrow fr s w = .go g w' es):w'.drawn=w.drawn:=by
 cases h;rfl
theorem B7w(p:Program)(m:Machine)(i:Nat)(listen:Bool):Nd m.world.drawn (Go.runT p m i listen).1:=by
 unfold Go.runT;simp only;have hs:∀(g:Goroutine) (s:GStep),stepG p (i == 0) g m.world listen=s->m.world.drawn<=(gw s).drawn:=λg s e=>e ▸ B6Z p (i == 0) g m.world listen;split
 all_goals
  rename_i e;have h:=hs _ _ e;clear hs e
 ·exact trivial
 ·exact Nd.weak h (B3a _ _ _ _ _ _ _ _ _)
 ·exact h
 ·exact h
 ·simp only;split
  ·exact trivial
  ·exact h
 ·exact h
 ·exact Nd.weak h (A7e _ _ _ _)
 ·exact h
 ·exact h
 ·simp only;split
  ·exact h
  ·split
   ·rename_i e2;exact B9l h (C0V (B0v e2).symm)
   ·exact trivial
  ·exact trivial
 ·simp only;split
  ·rename_i e;exact B9l h (C0V (B8k e).symm)
  ·split
   ·rename_i e2;exact B9l h (C0V (B0v e2).symm)
   ·exact trivial
  ·exact trivial
  ·exact trivial
def Md(n:Nat):_root_.Go.Move->Prop
 | .goroutine m _=>n<=m.world.drawn
 | .machine s _=>Nd n s
theorem Md.weak{n k:Nat}(h:n<=k):∀ {s:_root_.Go.Move},Md k s->Md n s
 | .goroutine _ _,e=>B9l h e
 | .machine _ _,e=>Nd.weak h e
theorem A7R(p:Program)(m:Machine):Md m.world.drawn (askOn p m):=by
  unfold askOn;simp only;split
  · exact trivial
  · rename_i k w e
    have h:=T7 e;split
    · exact Nd.weak h (B3W _ _ _)
    · split
      · split
        · exact h
        · split
          · exact h
          · repeat' split
            all_goals exact trivial
      · have K8 : ∀ m' : Machine, m.world.drawn ≤ m'.world.drawn → Md m.world.drawn (match (choose (.sched (runnable m.gs m.world.os.mono).length)).run p m'.world with
            | .halt _ w => .machine (.ended (.stuck "sched" "") w)
            | .ok k world =>
              if (runnable m.gs m.world.os.mono).length<=1 then .goroutine { m' with world } ((runnable m.gs m.world.os.mono).getD k 0)else
              match (choose (.extern "sched.slice" 65536)).run p world with
              | .halt _ w => .machine (.ended (.stuck "sched.slice" "") w)
              | .ok n world=>.goroutine { m' with world,rest:={ m'.rest with slice:=if n=0 then none else some ((runnable m.gs m.world.os.mono).getD k 0,n) } } ((runnable m.gs m.world.os.mono).getD k 0)):=λm' hm=>by
          split
          · exact trivial
          · rename_i e1
            have h1:=B9l hm (T7 e1);split
            · exact h1
            · split
              · exact trivial
              · rename_i e2
                exact B9l h1 (T7 e2)
        split
        · exact K8 { m with world:=w } h
        · split
          · exact trivial
          · rename_i e1
            have h1:=B9l h (T7 e1);exact K8 { m with world:=‹World› } h1
          · rename_i e1
            exact B9l h (T7 e1)
          · rename_i e1
            have h1:=B9l h (T7 e1);exact K8 _ h1
theorem B1D(p:Program)(m:Machine):Md m.world.drawn (Go.ask p m):=by
 unfold Go.ask;split
 ·split
  ·exact trivial
  ·rename_i e;have h:=T7 e;have hl:=A7e p m.gs m.rest ‹World›
   split
   ·rename_i e2;rw[e2]at hl;exact Md.weak (B9l h hl) (A7R _ _)
   ·exact Nd.weak h hl
  ·rename_i e;exact Md.weak (T7 e) (A7R _ _)
 ·exact A7R _ _
theorem B8C(p:Program)(m:Machine):Md m.world.drawn (Go.move p m):=by
 unfold Go.move;split
 ·split
  ·exact K2 _
  ·exact trivial
 ·split
  ·split
   ·exact K2 _
   ·exact B1D _ _
  ·exact B1D _ _
theorem B4T(p:Program)(m:Machine):Nd m.world.drawn (Go.step p m):=by
 unfold Go.step stepT;have h:=B8C p m;split
 ·rename_i e;rw[e]at h;exact Nd.weak h (B7w _ _ _ _)
 ·rename_i e;rw[e]at h;exact h
theorem B0l(p:Program):∀(n:Nat) (m:Machine),Nd m.world.drawn (runN p n m)
 | 0,m=>K2 _
 | n+1,m=>by
  unfold runN;have h:=B4T p m;split
  ·rename_i e;rw[e]at h;exact Nd.weak h (B0l p n _)
  ·exact h
theorem A7o{P:Program}{m m':Machine}(h:Steps P m m'):m.world.drawn<=m'.world.drawn:=by
 obtain⟨n,e⟩:=h;have:=B0l P n m;rw[e]at this;exact this
theorem B7R{P:Program}{m m':Machine}{e:Ending}(h:Comes P m m' e)(he:e ≠ .outgrown):m.world.drawn<=m'.world.drawn:=by
 cases e with
 | returned v=>exact A7o h
 | panicked chain=>exact A7o h
 | outgrown=>exact absurd rfl he
theorem B7B{P:Program}{f:FuncId}{args:Array Value}{w:World}{R:Ending->World->Prop}(h:Calls P f args w R) :
  Calls P f args w λe w'=>R e w'/\(e ≠ .outgrown->w.drawn<=w'.drawn) :=
 λcs=>let ⟨e,w',fr,r,hc,rest⟩:=h cs;⟨e,w',fr,⟨r,λhe=>B7R hc he⟩,hc,rest⟩
open Go.RowKit
theorem B5k{W w':World}(h:A4 W w')(hd:W.drawn<=w'.drawn):∃q os,w'=Go.Sort.grow (W.drewN q) os:=by
 refine⟨w'.drawn-W.drawn,w'.heap.extract W.heap.size w'.heap.size,?_⟩;have hh:w'.heap=W.heap++w'.heap.extract W.heap.size w'.heap.size:=by
  apply Array.ext_getElem?;intro i;rw[Array.getElem?_append];split
  ·rename_i hi;exact h.block i hi
  ·rename_i hi;rw[Array.getElem?_extract];split
   ·rw[show W.heap.size+(i-W.heap.size)=i by omega]
   ·rename_i hj;rw[Array.getElem?_eq_none];have:=h.size;omega
 have e1:=h.os;have e2:=h.tape;have e3:=h.output;cases W;cases w';simp only at *;subst e1 e2 e3;simp only[Go.Sort.grow,World.drewN,World.mk.injEq,true_and,and_true];exact⟨hh,by omega⟩
theorem B1u{P:Program}{f:FuncId}{args:Array Value}{w:World}{v:Value}(h:Calls P f args w λe w'=>e = .returned v/\A4 w w') :
  Calls P f args w λe w'=>e = .returned v/\∃q os,w'=Go.Sort.grow (w.drewN q) os :=
 (B7B h).mono λe w' ⟨⟨he,hg⟩,hd⟩=>⟨he,B5k hg (hd (by rw[he];intro h;cases h))⟩
end Go.Proofs.YtgpglgbcobeogaaGreatDoor
