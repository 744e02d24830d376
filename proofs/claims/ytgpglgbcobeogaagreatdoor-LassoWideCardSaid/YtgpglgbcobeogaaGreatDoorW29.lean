import Derived.Test.YtgpglgbcobeogaaGreatDoorW1
set_option linter.unusedSimpArgs false
set_option linter.unusedVariables false
namespace Go.Proofs.YtgpglgbcobeogaaGreatDoor
open Go
theorem A6a{α:Type}:∀(k:Ask α) (w:World),w.drawn≤(w.ask k).2.drawn
 | .done a,w=>B9G _
 | .ask what range k,w=>by
  unfold World.ask;simp only;split
  ·exact A6a (k 0) w
  ·exact Nat.le_of_succ_le (A6a (k ((Question.extern what range).cut (w.tape w.drawn (Question.extern what range)))) { w with drawn:=w.drawn+1 })
theorem A6o(w:World)(c:Sys):w.drawn≤(w.sys c).2.drawn:=by
 unfold World.sys;have h:=A6a (Kernel.perform c w.os) w;split
 ·exact B9G _
 ·rename_i r os w' e;rw[e]at h;exact h
theorem A9i{P:Program}{w w':World}{a:Addr}{v:Value}{b:Bool}{l:List Addr}(h:w.farStore P a v b = .ok (w',l)):w'.drawn=w.drawn:=by
 unfold World.farStore at h;split at h
 ·split at h
  ·rename_i r e;cases h;unfold World.viewStore at e;simp only[bind,Except.bind,pure,Except.pure,throw,throwThe,MonadExceptOf.throw]at e
   repeat' split at e
   all_goals first|cases e|skip
   all_goals rfl
  ·cases h
 ·cases h
theorem A84(w:World)(a:Addr)(n:Nat):(w.freeze a n).drawn=w.drawn:=by
 unfold World.freeze;split<;>rfl
def rw'{α:Type}:Result α→World
 | .ok _ w=>w
 | .halt _ w=>w
theorem A7i{α:Type}(P:Program)(s:Sem α):∀w:World,w.drawn≤(rw' (s.run P w)).drawn:=by
 induction s with
 | pure a=>intro w;exact B9G _
 | load m a k ih =>
  intro w;unfold Sem.run;split
  ·exact ih _ w
  ·split
   ·exact ih _ w
   ·exact B9G _
 | store m a v k ih =>
  intro w
  have key:w.drawn≤(rw' (match w.cell? a with
   | some _ => if w.frozen? a then .halt (.unsupported (.unsafePointer "a write to bytes that a string shares")) w else k.run P (w.setCell a v)
   | none=>match w.farStore P a v (m == .atomic)with
    | .ok (w,_)=>k.run P w
    | .error h=>.halt h w)).drawn:=by
   split
   ·split
    ·exact B9G _
    ·exact ih (w.setCell a v)
   ·split
    ·rename_i w' l e;exact B9Y (C0I (A9i e).symm) (ih _)
    ·exact B9G _
  cases v<;>first|exact B9G _|exact key
 | new o k ih=>intro w;exact ih _ { w with heap:=w.heap.push o }
 | shape r k ih=>intro w;exact ih _ w
 | freeze a n k ih=>intro w;exact B9Y (C0I (A84 w a n).symm) (ih _)
 | frozen a k ih=>intro w;exact ih _ w
 | getObj r k ih =>
  intro w;unfold Sem.run;split<;>first|exact B9G _|exact ih _ w
 | setObj r o k ih =>
  intro w;unfold Sem.run;split<;>first|exact B9G _|exact ih { w with heap:=w.heap.setIfInBounds r o }
 | choose q k ih =>
  intro w;unfold Sem.run;split
  ·exact ih _ w
  ·exact Nat.le_of_succ_le (ih _ { w with drawn:=w.drawn+1 })
 | sys c k ih=>intro w;exact B9Y (A6o w c) (ih _ _)
 | program k ih=>intro w;exact ih _ w
 | mark m k ih=>intro w;exact ih w
 | halt h=>intro w;exact B9G _
theorem A3J{α:Type}(P:Program)(s:Sem α):∀(w:World) (es:Array Event),w.drawn≤(rw' (s.runT P w es).1).drawn:=by
 induction s with
 | pure a=>intro w es;exact B9G _
 | load m a k ih =>
  intro w es;unfold Sem.runT;split
  ·exact ih _ w _
  ·split
   ·exact ih _ w _
   ·exact B9G _
 | store m a v k ih =>
  intro w es
  have key:w.drawn≤(rw' (match w.cell? a with
   | some _ => if w.frozen? a then ((.halt (.unsupported (.unsafePointer "a write to bytes that a string shares")) w, es) : Result _ × Array Event) else k.runT P (w.setCell a v) (es.push (⟨.cell a, true, m == Mode.atomic⟩ : Event))
   | none=>match w.farStore P a v (m == Mode.atomic)with
    | .ok (w,touched)=>k.runT P w (es++touched.toArray.map fun x=>(⟨.cell x,true,m == Mode.atomic⟩:Event))
    | .error h=>(.halt h w,es)).1).drawn:=by
   split
   ·split
    ·exact B9G _
    ·exact ih (w.setCell a v) _
   ·split
    ·rename_i w' l e;exact B9Y (C0I (A9i e).symm) (ih _ _)
    ·exact B9G _
  cases v<;>first|exact B9G _|exact key
 | new o k ih=>intro w es;exact ih _ { w with heap:=w.heap.push o } _
 | shape r k ih=>intro w es;exact ih _ w _
 | freeze a n k ih=>intro w es;exact B9Y (C0I (A84 w a n).symm) (ih _ _)
 | frozen a k ih=>intro w es;exact ih _ w _
 | getObj r k ih =>
  intro w es;unfold Sem.runT;split<;>first|exact B9G _|exact ih _ w _
 | setObj r o k ih =>
  intro w es;unfold Sem.runT;split<;>first|exact B9G _|exact ih { w with heap:=w.heap.setIfInBounds r o } _
 | choose q k ih =>
  intro w es;unfold Sem.runT;split
  ·exact ih _ w _
  ·exact Nat.le_of_succ_le (ih _ { w with drawn:=w.drawn+1 } _)
 | sys c k ih=>intro w es;exact B9Y (A6o w c) (ih _ _ _)
 | program k ih=>intro w es;exact ih _ w _
 | mark m k ih=>intro w es;exact ih w _
 | halt h=>intro w es;exact B9G _
def gw:GStep→World
 | .go _ w _ | .comm _ _ _ _ w _ | .spawn _ _ w _ | .count _ w _ | .timer _ _ w _ | .alone _ _ w _ | .newcoro _ _ _ w _ | .coroswitch _ _ _ w _ | .collect _ w _ | .watch _ w _ | .ended _ w _=>w
theorem A1Y(es:Array Event)(s:GStep):gw (GStep.after es s)=gw s:=by
 cases s<;>rfl
theorem T2{α:Type}{P:Program}{s:Sem α}{w:World}{x:Result α}(h:s.run P w=x):w.drawn≤(rw' x).drawn:=h ▸ A7i P s w
theorem A3H{α:Type}{P:Program}{s:Sem α}{w:World}{es:Array Event}{x:Result α×Array Event}(h:s.runT P w es=x):w.drawn≤(rw' x.1).drawn:=h ▸ A3J P s w es
theorem A5a(p:Program)(main:Bool)(fr:Frame)(cs:List Frame)(d:Option Dying)(v:Value)(w:World):gw (doReturn p main fr cs d v w)=w:=by
 unfold doReturn
 repeat' split
 all_goals rfl
theorem B27(w:World)(fd:Nat)(t:ByteArray)(o:Outcome):w.drawn≤(gw (endWith w fd t o)).drawn:=by
 unfold endWith;have h:=A6o w (.write fd t);generalize w.sys (.write fd t)=x at h⊢;obtain⟨r,w'⟩:=x;simp only at h⊢;cases r<;>simp only<;>(repeat' split)<;>exact h
theorem A8f(p:Program)(fr:Frame)(v:Value)(w:World):gw (endPrinting p fr v w)=w:=by
 unfold endPrinting;simp only;split<;>rfl
theorem A94(p:Program)(fr:Frame)(cs:List Frame)(d:Option Dying)(m:String)(w:World):w.drawn≤(gw (endFatal p fr cs d m w)).drawn:=by
 unfold endFatal;simp only;split
 all_goals
  rename_i e;exact T2 e
theorem B7Z(p:Program)(fr:Frame)(d:Dying)(f:Fatal)(w:World):w.drawn≤(gw (writeOn p fr d f w)).drawn:=by
 unfold writeOn;simp only;split
 ·exact B9G _
 ·split
  all_goals
   rename_i e;exact A3H e
theorem B4y(p:Program)(fr:Frame)(d:Dying)(w:World):w.drawn≤(gw (die p fr d w)).drawn:=by
 unfold die;split
 ·exact B7Z _ _ _ _ _
 ·split
  ·split
   ·exact B9G _
   ·exact B27 _ _ _ _
  ·simp only;split
   ·exact B9G _
   ·split
    all_goals
     rename_i e;exact T2 e
   ·rename_i t recv name _;generalize hx:Sem.runT p _ w _=x;have h:=A3H hx;obtain⟨r,es⟩:=x;simp only at h⊢;rw[A1Y];split
    all_goals first|exact B9G _|exact h|(rw[A8f];exact h)
   ·exact B9G _
theorem A2S{c:Prop}[Decidable c]{a b:GStep}{n:Nat}(ha:n≤(gw a).drawn)(hb:n≤(gw b).drawn):n≤(gw (if c then a else b)).drawn:=by
 split
 ·exact ha
 ·exact hb
theorem B1p(p:Program)(fr:Frame)(cs:List Frame)(dy:Option Dying)(d:Deferred)(w:World):w.drawn≤(gw (callDeferred p fr cs dy d w)).drawn:=by
 unfold callDeferred;refine A2S (B9G _) ?_
 ·generalize hx:Sem.runT p _ w _=x;have h:=A3H hx;obtain⟨r,es⟩:=x;simp only at h⊢;rw[A1Y]
  repeat' split
  all_goals first|exact h|exact B9Y h (A94 _ _ _ _ _ _)|skip
theorem B1u(p:Program)(main:Bool)(fr:Frame)(cs:List Frame)(dy:Option Dying)(w:World):w.drawn≤(gw (unwind p main fr cs dy w)).drawn:=by
 unfold unwind;split
 ·generalize hx:Sem.runT p _ w _=x;have h:=A3H hx;obtain⟨r,es⟩:=x;simp only at h⊢;rw[A1Y];split<;>exact h
 ·exact B1p _ _ _ _ _ _
 ·split
  ·exact B9G _
  ·split
   ·exact B9G _
   ·split
    ·exact B9G _
    ·split
     ·split
      ·exact B9G _
      ·split
       all_goals
        rename_i e;exact T2 e
     ·split
      ·rw[A8f];exact B9G _
      ·exact B9G _
  ·split
   ·rw[A5a];exact B9G _
   ·generalize hx:Sem.runT p _ w _=x;have h:=A3H hx;obtain⟨r,es⟩:=x;simp only at h⊢;rw[A1Y];split
    ·rw[A5a];exact h
    ·exact h
    ·exact h
theorem B4z(p:Program)(fr:Frame)(cs:List Frame)(dy:Option Dying)(g:Nat)(w:World):w.drawn≤(gw (early p fr cs dy g w)).drawn:=by
 have hn:∀w:World,w.drawn≤(gw (match w.heap[g]? with
  | some (.pending c elem)=>GStep.go { frame:=fr,callers:=cs,status:=.running,dying:=dy } { w with heap:=w.heap.setIfInBounds g (.cells c elem) }
  | _ => .ended (.stuck "early: the variable does not wait" (fr.pos p)) w)).drawn := fun w => by
  split<;>exact B9G _
 unfold early;simp only
 repeat' split
 all_goals first|exact B9G _|exact hn w|exact T2 ‹Sem.run p (choose (Question.early g)) w=_›
theorem A47(p:Program)(main listen:Bool)(fr:Frame)(cs:List Frame)(dy:Option Dying)(s:Sem Next)(w:World):w.drawn≤(gw (stepG.apply p listen fr cs dy s w)).drawn:=by
 unfold stepG.apply;simp only;have h:w.drawn≤(rw' (if listen=true then s.runT p w #[]else(s.run p w,#[])).1).drawn:=by
  split
  ·exact A3J p s w #[]
  ·exact A7i p s w
 generalize (if listen=true then s.runT p w #[]else(s.run p w,#[]))=x at h⊢;obtain⟨r,es⟩:=x;simp only at h⊢;rw[A1Y]
 repeat' split
 all_goals first|exact h|exact B9Y h (A94 _ _ _ _ _ _)|exact B9Y h (B4z _ _ _ _ _ _)|skip
theorem A8u(p:Program)(main listen:Bool)(fr:Frame)(cs:List Frame)(dy:Option Dying)(w:World):w.drawn≤(gw (stepG.oper p listen fr cs dy w)).drawn:=by
 unfold stepG.oper;split
 ·exact B9G _
 ·split<;>exact A47 _ true _ _ _ _ _ _
theorem B8F(p:Program)(main listen:Bool)(fr:Frame)(cs:List Frame)(dy:Option Dying)(w:World):w.drawn≤(gw (stepG.exec p main listen fr cs dy w)).drawn:=by
  have hr : ∀ (l : Nat) (jump : Option Code) (why : String), w.drawn ≤ (gw (GStep.after (seen p fr.fn (Sem.runT p (Instr.endRound l jump) w #[]).snd) (match (Sem.runT p (Instr.endRound l jump) w #[]).fst with
        | .ok v w=>doReturn p main fr cs dy v w
        | .halt _ w=>.ended (.stuck why (fr.pos p)) w))).drawn:=fun l jump why=>by
    have h:=A3J p (Instr.endRound l jump) w #[];rw[A1Y];split
    · rename_i e;rw[e]at h;rw[A5a];exact h
    · rename_i e;rw[e]at h;exact h
  unfold stepG.exec;simp only;split
  case h_1=>split;exact A2S (B9G _) (B9G _);exact hr _ _ _
  case h_2=>split;exact A2S (B9G _) (B9G _);exact hr _ _ _
  case h_13 =>
    cases exitTo _ _
    · simp only[Option.elim];split;exact A2S (B9G _) (B9G _);exact hr _ _ _
    · exact B9G _
  case h_14 =>
    cases gotoIn _ _
    · simp only[Option.elim];split;exact A2S (B9G _) (B9G _);exact hr _ _ _
    · exact B9G _
  all_goals first|exact B9G _|(with_reducible exact A47 _ true _ _ _ _ _ _)|(with_reducible exact A8u _ true _ _ _ _ _)|skip
  case h_8=>split<;>exact B9G _
  case h_15 =>
    rename_i params assign body k _;have h:=A3J p (Instr.enterLoop fr.fn fr.tmps params assign body fr.roundOf) w #[];rw[A1Y];split
    · rename_i e;rw[e]at h;exact B9Y h (A47 _ true _ _ _ _ _ _)
    · rename_i e;rw[e]at h;exact h
  case h_18 =>
    rename_i l k _;have h:=A3J p (Instr.endLoop l) w #[];rw[A1Y];split
    all_goals
      rename_i e;rw[e]at h;exact h
  case h_21 =>
    rename_i row _ _ _;cases Extern.next row
    · exact B9G _
    · exact A47 _ true _ _ _ _ _ _
  case h_22 =>
    refine A2S (B9G _) ?_;split
    all_goals
      rename_i e;exact T2 e
  case h_24=>split;exact A8u _ true _ _ _ _ _;exact B9G _
theorem B4P(p:Program)(main:Bool)(g:Goroutine)(w:World)(listen:Bool):w.drawn≤(gw (stepG p main g w listen)).drawn:=by
 unfold stepG;split;split
 ·exact B4y _ _ _ _
 ·exact B8F _ _ _ _ _ _ _
 ·exact B1u _ _ _ _ _ _
def Nd(n:Nat):Stepped→Prop
 | .next m=>n≤m.world.drawn
 | _=>True
theorem Nd.weak{n k:Nat}(h:n≤k):∀ {s:Stepped},Nd k s→Nd n s
 | .next _,e=>B9Y h e
 | .ended _ _,_=>trivial
theorem A8m(p:Program)(gs:Array Goroutine)(rest:Rest)(w:World):Nd w.drawn (look p gs rest w):=by
 unfold look;split
 ·simp only;split
  ·exact trivial
  ·split
   ·exact trivial
   ·split
    ·rename_i e;exact T2 e
    all_goals exact trivial
 ·exact trivial
theorem B38(p:Program)(m:Machine)(k:Nat):Nd m.world.drawn (serve p m k):=by
 unfold serve;split
 ·exact trivial
 ·exact B9G _
 ·simp only;split
  ·exact trivial
  ·exact B9G _
theorem B6V{rest:Rest}{cases:Array CommCase}{w w':World}(h:waitingAt rest cases w=some w'):w'.drawn=w.drawn:=by
 unfold waitingAt at h;split at h
 ·split at h
  ·cases h;rfl
  ·cases h
 ·cases h;rfl
theorem B6r(w:World)(c:Nat):(drain w c).2.drawn=w.drawn:=by
 unfold drain;split<;>rfl
theorem A9d(m:Machine)(k:Nat)(t:Timer)(a b:Nat):(retime m k t a b).2.world.drawn=m.world.drawn:=by
 unfold retime;split;rename_i e;split at e
 ·have h:=B6r m.world ‹Nat›
  rw[e]at h;exact h
 ·cases e;rfl
theorem B4e(p:Program)(rest:Rest)(gs:Array Goroutine)(i:Nat)(g:Goroutine)(cases:Array CommCase)(blocking:Bool)(shape:CommShape)(w:World):Nd w.drawn (communicate p rest gs i g cases blocking shape w).1:=by
 unfold communicate;simp only;split
 ·exact trivial
 ·split
  ·split
   ·split
    ·rename_i e;exact C0I (B6V e).symm
    ·exact trivial
   ·exact B9G _
  ·split
   ·exact trivial
   ·rename_i e;have h:=T2 e;clear e;split
    ·split
     ·rename_i e;exact B9Y h (T2 e)
     ·exact trivial
    ·exact h
    ·exact h
    ·split
     ·exact h
     ·split
      ·rename_i e;exact B9Y h (T2 e)
      ·exact trivial
    ·exact h
    ·exact h
    ·exact trivial
theorem B0C{m:Machine}{var:Addr}{f:Nat→Timer→Value×Machine}(hf:∀k t,(f k t).2.world.drawn=m.world.drawn){v:Value}{m':Machine}(m0:Machine)(h:timerOp.named m0 var f = .ok (v,m')):m'.world.drawn=m.world.drawn:=by
 unfold timerOp.named at h;split at h
 ·injection h with h;have:=hf ‹Nat› (m0.rest.timers.getD ‹Nat› default);rw[h]at this;exact this
 ·cases h
theorem B3Z{m m':Machine}{var:Addr}(h:timerOp.opened m var=some m'):m'.world.drawn=m.world.drawn:=by
 unfold timerOp.opened at h;split at h
 ·split at h
  ·cases h;rfl
  ·cases h
 ·cases h;rfl
theorem B45{m m':Machine}{op:TimerOp}{v:Value}(h:timerOp m op = .ok (v,m')):m'.world.drawn=m.world.drawn:=by
 unfold timerOp at h;split at h
 ·split at h
  ·cases h;rfl
  ·split at h
   ·split at h
    ·cases h
    ·cases h;rfl
   ·cases h
 ·exact B0C (m:=m) (fun k t=>A9d _ _ _ _ _) _ h
 ·split at h
  ·rename_i m1 e;exact(B0C (m:=m1) (fun k t=>A9d _ _ _ _ _) _ h).trans (B3Z e)
  ·cases h
 ·cases h;rfl
theorem A9z{fr:Frame}{s:String}{w w':World}{g:Goroutine}{es:Array Event}(h:endThrow fr s w = .go g w' es):w'.drawn=w.drawn:=by
 cases h;rfl
theorem B2r(p:Program)(m:Machine)(i:Nat)(listen:Bool):Nd m.world.drawn (Go.runT p m i listen).1:=by
 unfold Go.runT;simp only;have hs:∀(g:Goroutine) (s:GStep),stepG p (i == 0) g m.world listen=s→m.world.drawn≤(gw s).drawn:=fun g s e=>e ▸ B4P p (i == 0) g m.world listen;split
 all_goals
  rename_i e;have h:=hs _ _ e;clear hs e
 ·exact trivial
 ·exact Nd.weak h (B4e _ _ _ _ _ _ _ _ _)
 ·exact h
 ·exact h
 ·simp only;split
  ·exact trivial
  ·exact h
 ·exact h
 ·exact Nd.weak h (A8m _ _ _ _)
 ·exact h
 ·exact h
 ·simp only;split
  ·exact h
  ·split
   ·rename_i e2;exact B9Y h (C0I (A9z e2).symm)
   ·exact trivial
  ·exact trivial
 ·simp only;split
  ·rename_i e;exact B9Y h (C0I (B45 e).symm)
  ·split
   ·rename_i e2;exact B9Y h (C0I (A9z e2).symm)
   ·exact trivial
  ·exact trivial
  ·exact trivial
def Md(n:Nat):_root_.Go.Move→Prop
 | .goroutine m _=>n≤m.world.drawn
 | .machine s _=>Nd n s
theorem Md.weak{n k:Nat}(h:n≤k):∀ {s:_root_.Go.Move},Md k s→Md n s
 | .goroutine _ _,e=>B9Y h e
 | .machine _ _,e=>Nd.weak h e
theorem A6P(p:Program)(m:Machine):Md m.world.drawn (askOn p m):=by
  unfold askOn;simp only;split
  · exact trivial
  · rename_i k w e
    have h:=T2 e;split
    · exact Nd.weak h (B38 _ _ _)
    · split
      · split
        · exact h
        · split
          · exact h
          · repeat' split
            all_goals exact trivial
      · have N5 : ∀ m' : Machine, m.world.drawn ≤ m'.world.drawn → Md m.world.drawn (match (choose (.sched (runnable m.gs m.world.os.mono).length)).run p m'.world with
            | .halt _ w => .machine (.ended (.stuck "sched" "") w)
            | .ok k world =>
              if (runnable m.gs m.world.os.mono).length≤1 then .goroutine { m' with world } ((runnable m.gs m.world.os.mono).getD k 0)else
              match (choose (.extern "sched.slice" 65536)).run p world with
              | .halt _ w => .machine (.ended (.stuck "sched.slice" "") w)
              | .ok n world=>.goroutine { m' with world,rest:={ m'.rest with slice:=if n=0 then none else some ((runnable m.gs m.world.os.mono).getD k 0,n) } } ((runnable m.gs m.world.os.mono).getD k 0)):=fun m' hm=>by
          split
          · exact trivial
          · rename_i e1
            have h1:=B9Y hm (T2 e1);split
            · exact h1
            · split
              · exact trivial
              · rename_i e2
                exact B9Y h1 (T2 e2)
        split
        · exact N5 { m with world:=w } h
        · split
          · exact trivial
          · rename_i e1
            have h1:=B9Y h (T2 e1);exact N5 { m with world:=‹World› } h1
          · rename_i e1
            exact B9Y h (T2 e1)
          · rename_i e1
            have h1:=B9Y h (T2 e1);exact N5 _ h1
theorem B0U(p:Program)(m:Machine):Md m.world.drawn (Go.ask p m):=by
 unfold Go.ask;split
 ·split
  ·exact trivial
  ·rename_i e;have h:=T2 e;have hl:=A8m p m.gs m.rest ‹World›
   split
   ·rename_i e2;rw[e2]at hl;exact Md.weak (B9Y h hl) (A6P _ _)
   ·exact Nd.weak h hl
  ·rename_i e;exact Md.weak (T2 e) (A6P _ _)
 ·exact A6P _ _
theorem B2Z(p:Program)(m:Machine):Md m.world.drawn (Go.move p m):=by
 unfold Go.move;split
 ·split
  ·exact B9G _
  ·exact trivial
 ·split
  ·split
   ·exact B9G _
   ·exact B0U _ _
  ·exact B0U _ _
theorem B5z(p:Program)(m:Machine):Nd m.world.drawn (Go.step p m):=by
 unfold Go.step stepT;have h:=B2Z p m;split
 ·rename_i e;rw[e]at h;exact Nd.weak h (B2r _ _ _ _)
 ·rename_i e;rw[e]at h;exact h
theorem A7R(p:Program):∀(n:Nat) (m:Machine),Nd m.world.drawn (runN p n m)
 | 0,m=>B9G _
 | n+1,m=>by
  unfold runN;have h:=B5z p m;split
  ·rename_i e;rw[e]at h;exact Nd.weak h (A7R p n _)
  ·exact h
theorem A8L{P:Program}{m m':Machine}(h:Steps P m m'):m.world.drawn≤m'.world.drawn:=by
 obtain⟨n,e⟩:=h;have:=A7R P n m;rw[e]at this;exact this
theorem B7u{P:Program}{m m':Machine}{e:Ending}(h:Comes P m m' e)(he:e ≠ .outgrown):m.world.drawn≤m'.world.drawn:=by
 cases e with
 | returned v=>exact A8L h
 | panicked chain=>exact A8L h
 | outgrown=>exact absurd rfl he
theorem B4f{P:Program}{f:FuncId}{args:Array Value}{w:World}{R:Ending→World→Prop}(h:Calls P f args w R) :
  Calls P f args w fun e w'=>R e w'∧(e ≠ .outgrown→w.drawn≤w'.drawn) :=
 fun cs=>let ⟨e,w',fr,r,hc,rest⟩:=h cs;⟨e,w',fr,⟨r,fun he=>B7u hc he⟩,hc,rest⟩
open Go.RowKit
theorem B8m{W w':World}(h:A4 W w')(hd:W.drawn≤w'.drawn):∃q os,w'=Go.Sort.grow (W.drewN q) os:=by
 refine⟨w'.drawn-W.drawn,w'.heap.extract W.heap.size w'.heap.size,?_⟩;have hh:w'.heap=W.heap++w'.heap.extract W.heap.size w'.heap.size:=by
  apply Array.ext_getElem?;intro i;rw[Array.getElem?_append];split
  ·rename_i hi;exact h.block i hi
  ·rename_i hi;rw[Array.getElem?_extract];split
   ·rw[show W.heap.size+(i-W.heap.size)=i by omega]
   ·rename_i hj;rw[Array.getElem?_eq_none];have:=h.size;omega
 have e1:=h.os;have e2:=h.tape;have e3:=h.output;cases W;cases w';simp only at *;subst e1 e2 e3;simp only[Go.Sort.grow,World.drewN,World.mk.injEq,true_and,and_true];exact⟨hh,by omega⟩
theorem B2b{P:Program}{f:FuncId}{args:Array Value}{w:World}{v:Value}(h:Calls P f args w fun e w'=>e = .returned v∧A4 w w') :
  Calls P f args w fun e w'=>e = .returned v∧∃q os,w'=Go.Sort.grow (w.drewN q) os :=
 (B4f h).mono fun e w' ⟨⟨he,hg⟩,hd⟩=>⟨he,B8m hg (hd (by rw[he];intro h;cases h))⟩
end Go.Proofs.YtgpglgbcobeogaaGreatDoor
