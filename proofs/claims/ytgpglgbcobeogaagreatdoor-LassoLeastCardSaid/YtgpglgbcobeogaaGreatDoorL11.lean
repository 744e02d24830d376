import Derived.Test.YtgpglgbcobeogaaGreatDoorL10
set_option linter.unusedSimpArgs false
set_option linter.unusedVariables false
set_option maxHeartbeats 1000000
set_option maxRecDepth 100000
namespace Go.Proofs.YtgpglgbcobeogaaGreatDoor
open Go.RowKit
section
variable {P:Program} {ops:Array Oper} {L:Act->World->Prop} {o:Oper} {r:List (Nat×Oper)} {B:Nat} {tk:List Nat} {a:Act} {F:World->Prop}
theorem gya{v:Value}{a':Act}(hr:OKs P ops L B r tk a' F)(hw:Region.wanted o (yielded ops a.tmps)=true:=by exact rfl)(h:∀w,F w->∀N:Value->Prop,N v->A2N P o a w N:=by(rintro v-N hN;go_simp;exact hN))
  (hp:a.put o.dst v=a':=by(simp only[Act.put,List.setIfInBounds_toArray,List.set_cons_succ,List.set_cons_zero];exact rfl)):OKs P ops L B ((0,o)::r) tk a F:=gy v hw h (okf hp hr)
theorem gyr{v:Value}{a':Act}(hr:OKs P ops L B r tk a' F)(hw:Region.wanted o (yielded ops a.tmps)=true:=by exact rfl)(h:∀w,F w->∀N:Value->Prop,N v->A2N P o a w N:=by(first
  | (rintro v ⟨hgu,hB,hG,-⟩ N hN;have r:=hB.r;simp only[BxR]at r;go_simp;exact hN)
  | (rintro v ⟨⟨hgu,hB,hG,-⟩,-⟩ N hN;have r:=hB.r;simp only[BxR]at r;go_simp;exact hN)
  | (rintro v ⟨⟨⟨hgu,hB,hG,-⟩,-⟩,-⟩ N hN;have r:=hB.r;simp only[BxR]at r;go_simp;exact hN)
  | (rintro v ⟨⟨⟨⟨hgu,hB,hG,-⟩,-⟩,-⟩,-⟩ N hN;have r:=hB.r;simp only[BxR]at r;go_simp;exact hN)
  | (rintro v ⟨⟨⟨⟨⟨hgu,hB,hG,-⟩,-⟩,-⟩,-⟩,-⟩ N hN;have r:=hB.r;simp only[BxR]at r;go_simp;exact hN)))
  (hp:a.put o.dst v=a':=by(simp only[Act.put,List.setIfInBounds_toArray,List.set_cons_succ,List.set_cons_zero];exact rfl)):OKs P ops L B ((0,o)::r) tk a F:=gy v hw h (okf hp hr)
theorem gyb{v:Value}{a':Act}(h:∀w,F w->∀N:Value->Prop,N v->A2N P o a w N)(hr:OKs P ops L B r tk a' F)(hw:Region.wanted o (yielded ops a.tmps)=true:=by exact rfl)
  (hp:a.put o.dst v=a':=by(simp only[Act.put,List.setIfInBounds_toArray,List.set_cons_succ,List.set_cons_zero];exact rfl)):OKs P ops L B ((0,o)::r) tk a F:=gy v hw h (okf hp hr)
theorem gma{v:Value}{a':Act}(h:∀w,F w->∀N:Value->World->Prop,(∀w',A4 w w'->N v w')->Z7 P o a w N)(hr:OKs P ops L B r tk a' F)(hw:Region.wanted o (yielded ops a.tmps)=true:=by exact rfl)
  (hp:a.put o.dst v=a':=by(simp only[Act.put,List.setIfInBounds_toArray,List.set_cons_succ,List.set_cons_zero];exact rfl)):OKs P ops L B ((1,o)::r) tk a F:=gm v hw h (okf hp hr)
theorem gmc{v:Value}{w:World}{N:Value->World->Prop}{f:FuncId}{args:Array Value}(hc:Calls P f args w λe w'=>e = .returned v/\A4 w w')(hN:∀w',A4 w w'->N v w'):Calls P f args w λe w''=>∃u,e = .returned u/\N u w'' :=
 hc.mono λe w1 ⟨he,hb⟩=>⟨v,he,hN w1 hb⟩
end
theorem X9 {w u u' : World} {l l' : List (Nat × TypeId × Array Value)} (h : Bx u l) (hf : Fr w (l.map (·.1))) (hG : A4 w u) (k : Nat) {b : Nat} (hk : (l.map (·.1))[k]? = some b) (i : Nat) (vs : List Value) (hu : C7 u b i vs = u')
    (e:(l.modify k λe=>(e.1,e.2.1,I3 e.2.2 i vs))=l':=by(simp only[List.modify_succ_cons,List.modify_zero_cons,I3,List.setIfInBounds_toArray,List.set_cons_zero,List.set_cons_succ,Nat.zero_add,Nat.reduceAdd];exact rfl)):Bx u' l'/\A4 w u':=e ▸ h.over hf hG k hk i vs hu
section
variable {P:Program} {Q:Exit->Act->World->Prop} {ops:Array Oper} {L:Act->World->Prop} {o:Oper} {r:List (Nat×Oper)} {B:Nat} {tk:List Nat} {a:Act} {F:World->Prop} {K n:Act->World->Prop} {w u:World} {id:Nat} {l tl:List Oper} {ts:List TypeId} {bl:List (Nat×TypeId×Array Value)} {s:List (Nat×Oper)}
theorem rsE(hts:∀t∈ts,R0 P t)(ks:List Nat)(hB:Bx u bl)(hG:A4 w u)(h:∀L:Act->World->Prop,(∀a w,Q .normal a w->L a w)->OKs P l.toArray L u.heap.size s [] a (λv=>A4 u v/\Bx v bl/\A4 w v/\True))
  (hs:A0X ts l ks.length ks=true:=by kernel_rfl) (hd:l.drop ks.length=[]:=by(simp only[List.length_cons,List.length_nil,Nat.zero_add,Nat.reduceAdd,List.drop_succ_cons,List.drop_zero,List.drop_nil])) (hz:ks.zip l=s:=by(simp only[List.zip_cons_cons,List.zip_nil_left];exact rfl)):(Code.region id l.toArray false).wp P Q a u:=by
 subst hz;exact M4 hts ks.length ks hs hd (λ_=>True) noG hB hG trivial λK L hN hL=>h L λa w hq=>hL a w (wpList_nil (NoK.norm (hN a w hq)))
theorem rsC(hts:∀t∈ts,R0 P t)(ks:List Nat)(hB:Bx u bl)(hG:A4 w u)(h:∀K L:Act->World->Prop,(∀a w,Q .normal a w->K a w)->(∀a' w',wpList P l.toArray (NoK K) tl a' w'->L a' w')->OKs P l.toArray L u.heap.size s [] a (λv=>A4 u v/\Bx v bl/\A4 w v/\True))
  (hs:A0X ts l ks.length ks=true:=by kernel_rfl) (hd:l.drop ks.length=tl:=by(simp only[List.length_cons,List.length_nil,Nat.zero_add,Nat.reduceAdd,List.drop_succ_cons,List.drop_zero,List.drop_nil];exact rfl)) (hz:ks.zip l=s:=by(simp only[List.zip_cons_cons,List.zip_nil_left];exact rfl)):(Code.region id l.toArray false).wp P Q a u:=by
 subst hz;exact M4 hts ks.length ks hs hd (λ_=>True) noG hB hG trivial h
theorem rdC(hts:∀t∈ts,R0 P t)(fl:List Nat)(sc:List (Nat×Nat))(hB:Bx u bl)(hG:A4 w u)(h:∀K L:Act->World->Prop,(∀a w,Q .normal a w->K a w)->(∀a' w',wpList P l.toArray (NoK K) tl a' w'->L a' w')->OKs P l.toArray L u.heap.size s [] a (λv=>A4 u v/\Bx v bl/\A4 w v/\True))
  (hm:P.follows .mixedOrders=true:=by kernel_rfl) (hs:A2u ts l sc.length fl sc=true:=by kernel_rfl) (hd:l.drop sc.length=tl:=by(simp only[List.length_cons,List.length_nil,Nat.zero_add,Nat.reduceAdd,List.drop_succ_cons,List.drop_zero,List.drop_nil];exact rfl))
  (hz:H6 l.toArray sc=s:=by(simp only[H6,List.getElem?_toArray,List.getElem?_cons_zero,List.getElem?_cons_succ];exact rfl)):(Code.region id l.toArray true).wp P Q a u:=by
 subst hz;exact A1Z hts sc.length fl sc hm hs hd (λ_=>True) noG hB hG trivial h
theorem geT(hL:∀a w,Exit.then n Q .normal a w->L a w)(h:∀v,F v->n a v):OKs P ops L B [] tk a F:=λv hv=>hL a v (h v hv)
theorem geC(hL:∀a' w',wpList P ops (NoK K) tl a' w'->L a' w')(h:∀v,F v->wpList P ops (NoK K) tl a v):OKs P ops L B [] tk a F:=λv hv=>hL a v (h v hv)
theorem gna{a':Act}(hr:OKs P ops L B r tk a' F)(hw:Region.wanted o (yielded ops a.tmps)=false:=by exact rfl)
  (hp:a.put o.dst undef=a':=by(simp only[Act.put,List.setIfInBounds_toArray,List.set_cons_succ,List.set_cons_zero];exact rfl)):OKs P ops L B ((0,o)::r) tk a F:=gn hw (okf hp hr)
theorem J6{a':Act}(hr:OKs P ops L B r tk a' F)(hw:Region.wanted o (yielded ops a.tmps)=false:=by exact rfl)
  (hp:a.put o.dst undef=a':=by(simp only[Act.put,List.setIfInBounds_toArray,List.set_cons_succ,List.set_cons_zero];exact rfl)):OKs P ops L B ((1,o)::r) tk a F:=gmn hw (okf hp hr)
theorem gs{X Y:Prop}(k:Y)(h:PLift Y->X:=by(intro k;(repeat first|refine gya ?_|refine gyr ?_|refine gna ?_);exact k.down)):X:=h ⟨k⟩
theorem gmw{a':Act}{v:Value}{f:FuncId}{args:Array Value}(hr:OKs P ops L B r tk a' F)
  (hw:Region.wanted o (yielded ops a.tmps)=true:=by exact rfl) (hs:∀w (N:Value->World->Prop),(Calls P f args w λe w''=>∃u,e = .returned u/\N u w'')->Z7 P o a w N:=by(intro w N h;go_simp<;>with_reducible exact h))
  (hp:a.put o.dst v=a':=by(simp only[Act.put,List.setIfInBounds_toArray,List.set_cons_succ,List.set_cons_zero];exact rfl)) (C:∀w,Calls P f args w λe w'=>e = .returned v/\A4 w w'):OKs P ops L B ((1,o)::r) tk a F :=
 gma (λw hF N hN=>hs w N (gmc (C w) hN)) hr hw hp
theorem gmd{a':Act}{v:Value}{f:FuncId}{args:Array Value}(hr:OKs P ops L B r tk a' F)
  (hw:Region.wanted o (yielded ops a.tmps)=true:=by exact rfl) (hs:∀w (N:Value->World->Prop),(Calls P f args w λe w''=>∃u,e = .returned u/\N u w'')->Z7 P o a w N:=by(intro w N h;go_simp<;>with_reducible exact h))
  (hp:a.put o.dst v=a':=by(simp only[Act.put,List.setIfInBounds_toArray,List.set_cons_succ,List.set_cons_zero];exact rfl)) (C:∀w,F w->Calls P f args w λe w'=>e = .returned v/\A4 w w'):OKs P ops L B ((1,o)::r) tk a F :=
 gma (λw hF N hN=>hs w N (gmc (C w hF) hN)) hr hw hp
theorem gxd{X:Type}(f:X->Value)(T:X->World->Prop)(hm:∀x w w',A4 w w'->T x w->T x w'){a':X->Act}{g:FuncId}{args:Array Value}(hr:∀x,OKs P ops L B r tk (a' x) (λw=>F w/\T x w))
  (hw:Region.wanted o (yielded ops a.tmps)=true:=by exact rfl) (hs:∀w (N:Value->World->Prop),(Calls P g args w λe w''=>∃u,e = .returned u/\N u w'')->Z7 P o a w N:=by(intro w N h;go_simp<;>with_reducible exact h))
  (hp:∀x,a.put o.dst (f x)=a' x:=by(intro x;simp only[Act.put,List.setIfInBounds_toArray,List.set_cons_succ,List.set_cons_zero];exact rfl)) (C:∀w,F w->Calls P g args w λe w'=>∃x,e = .returned (f x)/\T x w'/\A4 w w'):OKs P ops L B ((1,o)::r) tk a F :=
 gx X f T hm hw (λw hF N hN=>hs w N ((C w hF).mono λ_ w1 ⟨x,he,hx,hg⟩=>⟨_,he,hN x w1 hx hg⟩)) λx=>okf (hp x) (hr x)
theorem gaa{t:TypeId}{zs:Array Value}{a':Nat->Act}(hz:S3 P o = .cells zs t)(hr:∀b,B<=b->b∉tk->OKs P ops L B r (b::tk) (a' b) (λw=>F w/\Blk w b t zs))
  (hp:∀b,a.put o.dst (.pointer (some ⟨b,0,none⟩))=a' b:=by(intro b;simp only[Act.put,List.setIfInBounds_toArray,List.set_cons_succ,List.set_cons_zero];exact rfl)):OKs P ops L B ((2,o)::r) tk a F :=
 ga hz λb h1 h2=>okf (hp b) (hr b h1 h2)
theorem Fr.n1{l l2:List Nat}{b:Nat}(hF:Fr w l)(tk:List Nat)(hB:Bx u bl)(hG:A4 w u)(hb:u.heap.size<=b)(hn:b∉tk)(hl:l=tk++bl.map (·.1):=by exact rfl)(hr:(b::tk)++bl.map (·.1)=l2:=by(simp only[List.cons_append,List.nil_append,List.map_cons,List.map_nil];exact rfl)):Fr w l2:=by
 subst hl;subst hr;exact Fr.new hF hB hG hb hn
theorem Bx.cons'{b:Nat}{t:TypeId}{cs:Array Value}(hB:Bx u bl)(h:Blk u b t cs):Bx u ((b,t,cs)::bl):=Bx.cons h hB
end
theorem gt{X Y:Prop}(k:Y)(h:PLift Y->X:=by(intro k;have r:=hB.r;simp only[BxR]at r;go_wp2_with fail;refine NoK.norm (hN _ _ ?_);exact k.down)):X:=h ⟨k⟩
theorem gtT{X Y:Prop}(k:Y)(h:PLift Y->X:=by(intro k;have r:=hB.r;simp only[BxR]at r;go_wp2_with fail;refine NoK.norm (hN _ _ (A6 ?_));exact k.down)):X:=h ⟨k⟩
theorem r0E{X Y:Prop}(k:Y)(h:PLift Y->X:=by(intro k;refine N5 ?_;intro K hN;have r:=hB.r;simp only[BxR]at r;go_wp2_with fail;refine NoK.norm (hN _ _ ?_);exact k.down)):X:=h ⟨k⟩
theorem r0N{X Y:Prop}(k:Y)(h:PLift Y->X:=by(intro k;refine N5 ?_;intro K hN;have r:=hB.r;simp only[BxR]at r;go_wp2_with fail;refine NoK.norm (hN _ _ (A6 ?_));exact k.down)):X:=h ⟨k⟩
theorem r0T{X Y:Prop}(k:Y)(h:PLift Y->X:=by(intro k;refine B8N (N5 ?_);intro K hN;have r:=hB.r;simp only[BxR]at r;go_wp2_with fail;refine NoK.norm (hN _ _ (A6 ?_));exact k.down)):X:=h ⟨k⟩
theorem st{R:World->Prop}{w u:World}{l l':List (Nat×TypeId×Array Value)}(hB:Bx u l)(hF:Fr w (l.map (·.1)))(hG:A4 w u)(k i:Nat)(vs:List Value){b:Nat}(h:∀u',Bx u' l'->A4 w u'->R u')(hk:(l.map (·.1))[k]?=some b:=by exact rfl)
  (e:(l.modify k λe=>(e.1,e.2.1,I3 e.2.2 i vs))=l':=by(simp only[List.modify_succ_cons,List.modify_zero_cons,I3,List.setIfInBounds_toArray,List.set_cons_zero,List.set_cons_succ,Nat.zero_add,Nat.reduceAdd];exact rfl)):R (C7 u b i vs):=by
 have h2:=hB.over hF hG k hk i vs rfl;rw[e]at h2;exact h _ h2.1 h2.2
theorem st2{R:World->Prop}{w u:World}{l l' l2:List (Nat×TypeId×Array Value)}(hB:Bx u l)(hF:Fr w (l.map (·.1)))(hG:A4 w u)(k i:Nat)(vs:List Value)(k' i':Nat)(vs':List Value){b b':Nat}(h:∀u',Bx u' l2->A4 w u'->R u')(hk:(l.map (·.1))[k]?=some b:=by exact rfl)(hk':(l.map (·.1))[k']?=some b':=by exact rfl)
  (e:(l.modify k λe=>(e.1,e.2.1,I3 e.2.2 i vs))=l':=by(simp only[List.modify_succ_cons,List.modify_zero_cons,I3,List.setIfInBounds_toArray,List.set_cons_zero,List.set_cons_succ,Nat.zero_add,Nat.reduceAdd];exact rfl)) (e':(l'.modify k' λe=>(e.1,e.2.1,I3 e.2.2 i' vs'))=l2:=by(simp only[List.modify_succ_cons,List.modify_zero_cons,I3,List.setIfInBounds_toArray,List.set_cons_zero,List.set_cons_succ,Nat.zero_add,Nat.reduceAdd];exact rfl)):R (C7 (C7 u b i vs) b' i' vs'):=by
 have hm:l'.map (·.1)=l.map (·.1):=by rw[<-e];exact A6f l k λc=>I3 c i vs
 have h2:=hB.over hF hG k hk i vs rfl;rw[e]at h2;rw[<-hm]at hF hk';exact st h2.1 hF h2.2 k' i' vs' h hk' e'
theorem sv{R:World->Prop}{w u:World}{l l':List (Nat×TypeId×Array Value)}(hB:Bx u l)(hF:Fr w (l.map (·.1)))(hG:A4 w u)(k i:Nat)(vs:List Value){b:Nat}(h:∀u',C7 u b i vs=u'->(Bx u' l'/\A4 w u')->R u')(hk:(l.map (·.1))[k]?=some b:=by exact rfl)
  (e:(l.modify k λe=>(e.1,e.2.1,I3 e.2.2 i vs))=l':=by(simp only[List.modify_succ_cons,List.modify_zero_cons,I3,List.setIfInBounds_toArray,List.set_cons_zero,List.set_cons_succ,Nat.zero_add,Nat.reduceAdd];exact rfl)):R (C7 u b i vs):=by
 have h2:=hB.over hF hG k hk i vs rfl;rw[e]at h2;exact h _ rfl h2
theorem en0{X Y:Prop}(k:Y)(h:PLift Y->X:=by(intro k;refine B8N (N5 ?_);intro K hN;go_wp2_with fail;obtain⟨u,hu⟩:=exQ w;have hG:A4 w u:=hu ▸ A4.refl u;have hB:=Bx.nil u;have hF:=Fr.nil w;rw[<-hu];clear hu;refine NoK.norm (hN _ _ (A6 ?_));clear hN K;revert u hF;exact k.down)):X:=h ⟨k⟩
theorem en1{X Y:Prop}(k:Y)(h:PLift Y->X:=by(intro k;refine B8N (N5 ?_);intro K hN;go_wp2_with fail;generalize hu:World.alloc w _=u;obtain⟨hB,hG⟩:=A0A [(_,_)] w u hu;have hF:=A0S w [(0,#[])];simp only[O8,List.map_cons,List.map_nil]at hB hF;clear hu;generalize w.heap.size=b0 at hB hF⊢;refine NoK.norm (hN _ _ (A6 ?_));clear hN K;revert u b0;exact k.down)):X:=h ⟨k⟩
theorem en2{X Y:Prop}(k:Y)(h:PLift Y->X:=by(intro k;refine B8N (N5 ?_);intro K hN;go_wp2_with fail;generalize hu:World.alloc (World.alloc w _) _=u;obtain⟨hB,hG⟩:=A0A [(_,_),(_,_)] w u hu;have hF:=A0S w [(0,#[]),(0,#[])];simp only[O8,List.map_cons,List.map_nil]at hB hF;clear hu;generalize w.heap.size+1=b1 at hB hF⊢;generalize w.heap.size=b0 at hB hF⊢;refine NoK.norm (hN _ _ (A6 ?_));clear hN K;revert u b0 b1;exact k.down)):X:=h ⟨k⟩
theorem en3{X Y:Prop}(k:Y)(h:PLift Y->X:=by(intro k;refine B8N (N5 ?_);intro K hN;go_wp2_with fail;generalize hu:World.alloc (World.alloc (World.alloc w _) _) _=u;obtain⟨hB,hG⟩:=A0A [(_,_),(_,_),(_,_)] w u hu;have hF:=A0S w [(0,#[]),(0,#[]),(0,#[])];simp only[O8,List.map_cons,List.map_nil]at hB hF;clear hu;generalize w.heap.size+1+1=b2 at hB hF⊢;generalize w.heap.size+1=b1 at hB hF⊢;generalize w.heap.size=b0 at hB hF⊢;refine NoK.norm (hN _ _ (A6 ?_));clear hN K;revert u b0 b1 b2;exact k.down)):X:=h ⟨k⟩
theorem en4{X Y:Prop}(k:Y)(h:PLift Y->X:=by(intro k;refine B8N (N5 ?_);intro K hN;go_wp2_with fail;generalize hu:World.alloc (World.alloc (World.alloc (World.alloc w _) _) _) _=u;obtain⟨hB,hG⟩:=A0A [(_,_),(_,_),(_,_),(_,_)] w u hu;have hF:=A0S w [(0,#[]),(0,#[]),(0,#[]),(0,#[])];simp only[O8,List.map_cons,List.map_nil]at hB hF;clear hu;generalize w.heap.size+1+1+1=b3 at hB hF⊢;generalize w.heap.size+1+1=b2 at hB hF⊢;generalize w.heap.size+1=b1 at hB hF⊢;generalize w.heap.size=b0 at hB hF⊢;refine NoK.norm (hN _ _ (A6 ?_));clear hN K;revert u b0 b1 b2 b3;exact k.down)):X:=h ⟨k⟩
theorem rt{X Y E:Prop}(e:E)(k:Y)(h:E->PLift Y->X:=by(intro e k;refine wp_ret ?_;(repeat with_reducible first|refine B0d ?_|refine A6i ?_);refine B1k rfl ?_;intro N hN;have r:=hB.r;simp only[BxR]at r;simp only[results,e];go_simp;refine hN _ ?_;exact k.down)):X:=h e ⟨k⟩
theorem B2b(a b:Nat)(h:a/b<W64):IntKind.u64.wrap ((a:Int)/(b:Int))=((a/b:Nat):Int):=by
 rw[<-Int.natCast_ediv];generalize a/b=q at *;unfold W64 at h;exact u64_wrap_id (x:=(q:Int)) (by omega) (by omega)
theorem B6V(a b:Nat)(h:a%b<W64):IntKind.u64.wrap ((a:Int)%(b:Int))=((a%b:Nat):Int):=by
 rw[<-Int.natCast_emod];generalize a%b=q at *;unfold W64 at h;exact u64_wrap_id (x:=(q:Int)) (by omega) (by omega)
theorem B7a(a b:Nat)(ha:a<W64)(hb:b<W64)(h0:b≠0)(w:World):Calls Tryz.prog 141 #[B5 a,B5 b] w λe w'=>e = .returned (.tuple #[B5 (a/b),B5 (a%b),.bool true])/\A4 w w':=by
 have hbits:∀W:World,Calls Tryz.prog 131 #[B5 b] W λe w'=>e = .returned (.int .i64 (bl b))/\A4 W w':=λW=>Q6 b (B8K (A0T hb) (by omega)) W;have hq:a/b<W64:=B8O (B8P a b) ha;have hm:a%b<W64:=B8O (Nat.mod_le a b) ha;have hne:((bl b:Int) == 0)=false:=by have:=U9.2 h0;simp;omega
 have hb0:(C4 b == 0)=false:=by rw[N9 hb];simpa using h0
 have hE1:(B8 a).toList.isEmpty=true:=by rw[Q4];simpa using ha
 have hE2:(B8 b).toList.isEmpty=true:=by rw[Q4];simpa using hb
 have hb1:¬C4 b=0:=by rw[N9 hb];omega
 have hw1:IntKind.u64.wrap ((C4 a).tdiv (C4 b))=C4 (a/b):=by
  rw[B8Q (A2S a),N9 ha,N9 hb,N9 hq];exact B2b a b hq
 have hw2:IntKind.u64.wrap ((C4 a).tmod (C4 b))=C4 (a%b):=by
  rw[B8R (A2S a),N9 ha,N9 hb,N9 hm];exact B6V a b hm
 have hw3:(C4 a).tmod (C4 b)=C4 (a%b):=by
  rw[B8R (A2S a),N9 ha,N9 hb,N9 hm];exact(Int.natCast_emod a b).symm
 have hw4:C4 a%C4 b=C4 (a%b):=by
  rw[N9 ha,N9 hb,N9 hm];exact(Int.natCast_emod a b).symm
 have hn1:=A2S a;have hn2:=A2S b;have Hmo:=B8S (And.intro (A2Y hq) (A2Y hm));have Hbits:=B8S hbits;clear hbits hq hm;go_enter Tryz.func141,Tryz.ntmps141;refine en4 ?_;intro u hG b5 b4 b3 b2 hB hF;refine B8N ?_;refine B8N (rsE A8 [0,1,0] hB hG λL hL=>?_);refine gs ?_;refine gmw (C:=λv=>Hbits.out _) ?_;refine gs ?_;refine geT hL ?_;clear hB hG hL L;rintro u ⟨-,hB,hG,-⟩;refine B8T (rfl) ?_;refine B8U ?_;refine A6 ?_;refine B8N ?_;refine r0T ?_;refine B8V (rfl) ?_;refine B8N ?_;refine B8A NoP.up ?_;have r:=hB.r;simp only[BxR]at r;have hD:b2≠b4/\b2≠b5/\b3≠b4/\b3≠b5/\b4≠b2/\b4≠b3/\b4≠b5/\b5≠b2/\b5≠b3/\b5≠b4:=⟨hF.ne 0 2 rfl rfl (by decide),hF.ne 0 3 rfl rfl (by decide),hF.ne 1 2 rfl rfl (by decide),hF.ne 1 3 rfl rfl (by decide),hF.ne 2 0 rfl rfl (by decide),hF.ne 2 1 rfl rfl (by decide),hF.ne 2 3 rfl rfl (by decide),hF.ne 3 0 rfl rfl (by decide),hF.ne 3 1 rfl rfl (by decide),hF.ne 3 2 rfl rfl (by decide)⟩
 go_region;clear r hD;generalize hu0:World.setCell (World.setCell u _ _) _ _=u0;have hBG:=X9 hB hF hG 2 rfl 0 [_,_] hu0;clear hB hG hu0;obtain⟨hB,hG⟩:=hBG;clear u;generalize hu1:World.setCell (World.setCell u0 _ _) _ _=u1;have hBG:=X9 hB hF hG 3 rfl 0 [_,_] hu1;clear hB hG hu1;obtain⟨hB,hG⟩:=hBG;clear u0;obtain⟨u,rfl⟩:=exQ u1;replace hB:=hB.grow (A4.drew u);replace hG:=hG.trans (A4.drew u);obtain⟨u,rfl⟩:=exQ u.drew;refine NoP.norm ?_;refine A6 ?_;refine rt Tryz.results141 ?_;refine And.intro ?_ hG;rw[B5,B5,Hmo.out.1,Hmo.out.2]
theorem N7{u:World}{b:Nat}{o:Obj}(h:u.heap[b]?=some o):b<u.heap.size:=by
 rcases B73 b u.heap.size with hlt|hge
 ·exact hlt
 ·rw[Array.getElem?_eq_none hge]at h;cases h
theorem A3C{B:Nat}(hB:2<=B)(a k:Nat):dg (B4 B a) k=a/B^k%B:=by
 induction k generalizing a with
 | zero =>
  by_cases h:a=0
  ·subst h;rw[A2h];simp[dg]
  ·rw[A08 hB h];simp[dg]
 | succ k ih =>
  by_cases h:a=0
  ·subst h;rw[A2h];simp[dg]
  ·rw[A08 hB h];have:dg (a%B::B4 B (a/B)) (k+1)=dg (B4 B (a/B)) k:=by simp[dg]
   rw[this,ih,Nat.pow_succ',B8W]
def byt(a:Nat):List Nat:=B4 256 a
theorem A2i(a:Nat):(byt a).length=(bl a+7)/8:=by
 have h1:=@A3v 256 a ((bl a+7)/8) (by omega) (by
  refine B8X (A0Y a) ?_;rw[show(256:Nat)=2^8 from rfl,<-B8Y]
  exact B8Z (by omega) (by omega))
 rcases B8M (bl a)with h|h
 ·have:=A0J.1 h;subst this;rfl
 ·have h2:256^((bl a+7)/8-1)<=a:=by
   rw[show(256:Nat)=2^8 from rfl,<-B8Y];exact A05.1 (by omega)
  have:=A49 (B:=256) (by omega) h2;unfold byt;omega
theorem A2k(a:Nat):Dig 256 (byt a):=G5 (by omega) a
theorem B1m(a k:Nat):dg (B4 W64 a) (k/8)/2^(8*(k%8))%256=dg (byt a) k:=by
 unfold byt;rw[A3C E5,A3C (by omega)];have e1:(256:Nat)^k=W64^(k/8)*2^(8*(k%8)):=by
  rw[A0B,show(256:Nat)=2^8 from rfl,<-B8Y,<-B8Y,<-B8a];congr 1;omega
 rw[e1,<-B8W];generalize a/W64^(k/8)=x;have hr:k%8<8:=B8b _ (by omega);generalize k%8=r at hr;have e2:W64=2^(8*r)*(256*2^(56-8*r)):=by
  rw[A0B,show(256:Nat)=2^8 from rfl,<-B8a,<-B8a];congr 1;omega
 rw[e2,B8c,Nat.mod_mul_right_mod]
def L7(l:List Nat):Array Value:=(l.map λx=>Value.int .u8 (x:Nat)).toArray
theorem A4h(l:List Nat)(i:Nat):(L7 l)[i]?=(l[i]?).map λx=>Value.int .u8 (x:Nat):=by
 unfold L7;simp
theorem A5g(l:List Nat)(i y:Nat):(L7 l).setIfInBounds i (.int .u8 (y:Nat))=L7 (l.set i y):=by
 unfold L7;rw[List.setIfInBounds_toArray,List.map_set]
theorem B2E(n:Nat):madeCells (Value.int .u8 0).cells (n*1)=L7 (List.replicate n 0):=by
 unfold L7 madeCells;refine Array.ext (by simp) λi h1 h2=>?_;simp[Value.cells,Nat.mod_one]
theorem A5m(n:Nat)(hn:n<=1099511627776)(x:Int)(hx:x=n)(W:World):(Instr.makeSlice 186 (.int .i64 x) (.int .i64 x)).run Tryz.prog W =
  .ok (.slice (some ⟨W.heap.size,0,none⟩) n n) (W.alloc (.cells (L7 (List.replicate n 0)) 5)):=by
 obtain⟨i0,hi0,hz0,hz1,hz2⟩:=B8d A7J;have hr:=run_make (P:=Tryz.prog) W 186 5 i0 (.int .u8 0) Tryz.underlying186 hi0 hz0 .i64 .i64 n n (by omega) (by omega) (by rw[hz2];omega) (by omega);rw[hx];rw[hr,hz1];simp only[Int.toNat_natCast];rw[B2E]
def O1(l:List Nat)(k:Nat):List Nat:=List.replicate (l.length-k) 0++(l.take k).reverse
theorem A6W(l:List Nat){k:Nat}(h:k<=l.length):(O1 l k).length=l.length:=by
 unfold O1;simp;omega
theorem A6d(l:List Nat){k:Nat}(h:k<l.length):(O1 l k).set (l.length-1-k) (dg l k)=O1 l (k+1):=by
 unfold O1;obtain⟨m,hm⟩:∃m,l.length-k=m+1:=⟨l.length-k-1,by omega⟩
 rw[hm,show l.length-(k+1)=m by omega,show l.length-1-k=m by omega,List.replicate_succ',B8e,List.set_append_right _ _ (by simp),B8f,B8g];rw[B8h h,List.reverse_append,E8 h];rfl
theorem A6e(l:List Nat):O1 l l.length=l.reverse:=by unfold O1;simp
def By(u:World)(A:Option Addr)(l:List Nat):Prop :=
 l≠[]->∃b off cs fr,A=some ⟨b,off,none⟩/\u.heap[b]?=some (.cells cs 5 fr)/\∀i x,l[i]?=some x->cs[off+i]?=some (.int .u8 (x:Nat))
theorem By.grow{u u':World}{A:Option Addr}{l:List Nat}(h:By u A l)(hg:A4 u u'):By u' A l:=λhn=>by
 obtain⟨b,off,cs,fr,e,hb,hc⟩:=h hn;exact⟨b,off,cs,fr,e,(hg.block b (N7 hb)).trans hb,hc⟩
theorem By.cell{u:World}{A:Option Addr}{l:List Nat}(h:By u A l){i:Nat}(hi:i<l.length):∃b off,A=some ⟨b,off,none⟩/\u.cell? ⟨b,off+i,none⟩=some (.int .u8 (dg l i:Nat)):=by
 obtain⟨b,off,cs,fr,e,hb,hc⟩:=h (λh0=>by rw[h0]at hi;cases hi);refine⟨b,off,e,?_⟩;rw[E8 hi,<-hc i _ (B8i hi)];exact B8E u b (off+i) cs 5 fr hb
theorem By.of{u:World}{b:Nat}{l:List Nat}(h:Blk u b 5 (L7 l)):By u (some ⟨b,0,none⟩) l:=λ_ =>
 ⟨b,0,L7 l,(0,0),rfl,h,λi x hi=>by rw[Nat.zero_add,A4h,hi];rfl⟩
theorem A7S(a:Nat)(ha:bl a<=1099511627760)(w:World):Calls Tryz.prog 187 #[B5 a] w λe w'=>∃A,e = .returned (.slice A (byt a).length (byt a).length)/\By w' A (byt a).reverse/\A4 w w':=by
 obtain⟨n,hn⟩:∃n,n=(byt a).length:=⟨_,rfl⟩
 have hnb:(n:Int)=((bl a:Int)+7)/8:=by rw[hn,A2i];omega
 have hm:n<=1099511627776:=by omega
 have hmk:=A5m n hm;have hbits:∀W,Calls Tryz.prog 131 #[B5 a] W λe w'=>e = .returned (.int .i64 (bl a))/\A4 W w':=λW=>Q6 a (by omega) W;have hwords:∀W,Calls Tryz.prog 148 #[B5 a] W λe w'=>∃A,e = .returned (.slice A (B4 W64 a).length (B4 W64 a).length)/\Own W w' A (B4 W64 a)/\A4 W w':=λW=>A01 a (by omega) W;obtain⟨m,hmw⟩:∃m,m=(B4 W64 a).length:=⟨_,rfl⟩
 rw[<-hmw]at hwords;rw[<-hn];have Hbits:=B8S hbits;have Hwords:=B8S hwords;have Hn:=B8S hn;have Hmw:=B8S hmw;have hb1:IntKind.i64.wrap ((bl a:Int)+7)=(bl a:Int)+7:=B8j _ (by omega);have hdv:((bl a:Int)+7).tdiv 8=(n:Int):=by rw[B8Q (by omega)];exact hnb.symm
 have hdv2:((bl a:Int)+7)/8=(n:Int):=hnb.symm;clear hbits hwords hn hmw hnb;go_enter Tryz.func187,Tryz.ntmps187
 go_wp2_with (first
  | (go_at_call 131;((with_reducible refine(Hbits.out _).mono ?_);rintro e w1 ⟨rfl,hg1⟩;have hmk1:=hmk (n:Int) rfl w1;have hbx:=(Blk.new w 44 _).grow hg1;have hc1:=hbx.cell;have hlt1:=hbx.lt))
  | (go_at_call 148;((with_reducible refine(Hwords.out _).mono ?_);rintro e w2 ⟨A2,rfl,hown,hg2⟩)))
 clear hmk hmk1 hc1 hdv hdv2 hb1;have hgw1:A4 w w1:=(A4.alloc _ _).trans hg1;have hgw2:A4 w w2:=hgw1.trans ((A4.alloc _ _).trans hg2);have hrow:Blk w2 w1.heap.size 5 (L7 (List.replicate n 0)):=(Blk.new w1 5 _).grow hg2;have Hown:=B8S hown;have hsz2:=hg2.size;rw[I7]at hsz2;clear hown;go_loopw [16] (λi wr=>∃k:Nat,k<=n/\i = .int .i64 k/\Blk wr w1.heap.size 5 (L7 (O1 (byt a) k))/\Own (w1.alloc (.cells (L7 (List.replicate n 0)) 5)) wr A2 (B4 W64 a)/\A4 w wr) (λi _=>n-(intOf i).toNat)
 case atStart=>exact⟨0,B8k _,rfl,by rw[show O1 (byt a) 0=List.replicate n 0 by unfold O1;rw[<-Hn.out];simp];exact hrow,Hown.out,hgw2⟩
 case round =>
  obtain⟨k,hk,rfl,hR,hO,hG⟩:=hrel;have HR:=B8S hR;have HO:=B8S hO;have HG:=B8S hG;clear hR hO hG;rcases B73 k n with hlt|hge
  ·have hkl:k<(byt a).length:=by rw[<-Hn.out];exact hlt
   have hwk:k/8<(B4 W64 a).length:=by
    refine A49 E5 ?_;have h1:k<(bl a+7)/8:=by rw[<-A2i];exact hkl
    rw[A0B,<-B8Y];exact A05.1 (by omega)
   obtain⟨b2,hb2,rfl,hrow2⟩:=HO.out (by intro e;rw[e]at hwk;cases hwk);have hc2:=hrow2.cell (k/8);rw[B8i hwk,<-E8 hwk]at hc2;simp only[Option.map_some]at hc2;have hxl:dg (B4 W64 a) (k/8)<18446744073709551616:=D1 C6 (G5 E5 a) _;have hby:=B1m a k;have hbl:=D1 (by omega) (A2k a) k;have hst:=A6d (byt a) hkl;rw[<-Hn.out]at hst;have hcs:=HR.out.cell (n-1-k);have hfs:=HR.out.frozen (n-1-k);rw[A4h,B8i (by rw[A6W _ (by omega),<-Hn.out];omega)]at hcs;simp only[Option.map_some]at hcs;generalize (O1 (byt a) k)[n-1-k]'_=old at hcs;have hwm:k/8<m:=by rw[Hmw.out];exact hwk
   obtain⟨q,hq⟩:∃q,q=k/8:=⟨_,rfl⟩
   obtain⟨r,hr⟩:∃r,r=k%8:=⟨_,rfl⟩
   have hr8:r<8:=by omega
   rw[<-hq]at hc2 hxl hby hwm;rw[<-hr]at hby
   obtain⟨x,hx⟩:∃x,x=dg (B4 W64 a) q:=⟨_,rfl⟩
   obtain⟨y,hy⟩:∃y,y=dg (byt a) k:=⟨_,rfl⟩
   rw[<-hx]at hc2 hxl hby
   rw[<-hy]at hby hbl hst;have hqi:(k:Int)/8=(q:Int):=by omega
   have hri:(k:Int)%8=(r:Int):=by omega
   have Hst:=B8S hst;have Hby:=B8S hby
   have hne:w1.heap.size<b2:=by rw[I7]at hb2;omega
   have hnn:(0:Int)<=(n:Int)-1-(k:Int):=by omega
   have hnt:((n:Int)-1-(k:Int)).toNat=n-1-k:=by omega
   clear hq hr hx hy hst hby hwk;go_wp2_with fail;have hv:((x:Int)/2^(8*r)%256)=(y:Int):=by rw[<-Hby.out];simp
   rw[hv];refine⟨⟨k+1,by omega,by go_num,?_,λ_=>⟨b2,hb2,rfl,hrow2.far (p:=⟨w1.heap.size,n-1-k,none⟩) (by show b2≠w1.heap.size;omega) _⟩,HG.out.setCell (p:=⟨w1.heap.size,n-1-k,none⟩) hgw1.size _⟩,by simp[intOf];omega⟩;have:=HR.out.set_ (n-1-k) (.int .u8 (y:Nat));rw[A5g,Hst.out]at this;exact this
  ·obtain rfl:k=n:=by omega
   go_wp2_with fail;go_ret;refine⟨_,rfl,?_,HG.out⟩;have:=By.of HR.out;rw[Hn.out,A6e]at this;exact this
def Tab(w:World):Prop:=∀j,j<64->w.cell? ⟨2,j,none⟩=some (.int .u8 (Lib.deBruijn64tab.getD j 0:Nat))
theorem Tab.grow{w w':World}(h:Tab w)(hg:A4 w w'):Tab w':=λj hj=>by
 have hb:2<w.heap.size:=World.block_lt_of_cell? w _ (h 0 (by omega));exact(hg.cell (p:=⟨2,j,none⟩) hb).trans (h j hj)
theorem B5V(x a:Nat)(hx:x<18446744073709551616)(hx0:x≠0)(hlow:x &&& (18446744073709551616-x)=a) :
  IntKind.u64.wrap (bits BinOp.and IntKind.u64 (x:Int) (IntKind.u64.wrap (-(x:Int)))*285870213051353865)/288230376151711744=((a*285870213051353865%18446744073709551616/288230376151711744:Nat):Int):=by
 have e1:IntKind.u64.wrap (-(x:Int))=((18446744073709551616-x:Nat):Int):=by rw[IntKind.wrap_u64];omega
 rw[e1,bits_and_u64_nat x _ hx (by omega),hlow,IntKind.wrap_u64];omega
theorem B2J(x k idx:Nat)(w:World)(hx0:((x:Int) == 0)=false)
  (key:IntKind.u64.wrap (bits BinOp.and IntKind.u64 (x:Int) (IntKind.u64.wrap (-(x:Int)))*285870213051353865)/288230376151711744=(idx:Int))
  (hi:idx<64) (hk:k<64) (hcell:w.cell? ⟨2,idx,none⟩=some (.int .u8 k)) :
  Calls Tryz.prog 203 #[.int .u64 x] w λe w'=>e = .returned (.int .i64 k)/\w'=w:=by
 go_enter Tryz.func203,Tryz.ntmps203;go_wp2_with (simp only[key]);go_ret;exact⟨rfl,rfl⟩
theorem B4n(x:Nat)(hx:x<W64)(hx0:x≠0)(w:World)(hT:Tab w) :
  Calls Tryz.prog 203 #[.int .u64 x] w λe w'=>e = .returned (.int .i64 (Lib.ctz 64 x))/\w'=w:=by
 obtain⟨hlow,hk⟩:=Lib.lowest_bit 64 x hx0 hx;obtain⟨hi,htab⟩:=Lib.deBruijn64_at _ hk;have hcell:=hT _ hi;rw[htab]at hcell;exact B2J x _ _ w (by simp;omega) (B5V x _ hx hx0 hlow) hi hk hcell
theorem A5r(b off:Nat)(l:List Nat)(c:Nat)(hd:Dig W64 l)(hv:val W64 l≠0)(hm:l.length<=34359738368)(w:World)(h:Wds w b off l)(hT:Tab w) :
  Calls Tryz.prog 173 #[.slice (some ⟨b,off,none⟩) l.length c] w λe w'=>∃z:Nat,e = .returned (.int .i64 z)/\Tz (val W64 l) z/\z/64<l.length/\w'=w:=by
 obtain⟨n,hn⟩:∃n,n=l.length:=⟨_,rfl⟩
 rw[<-hn]at hm;rw[<-hn];have H:=B8S h;have HT:=B8S hT;have Hn:=B8S hn;have Hd:=B8S hd;have Hv:=B8S hv;clear h hT hn hd hv;go_enter Tryz.func173,Tryz.ntmps173;go_wp2;go_loop [3] (λs=>∃k:Nat,k<=n/\s = .int .i64 k/\∀i,i<k->dg l i=0) (λs=>n-(intOf s).toNat)
 case atStart=>exact⟨0,B8k _,rfl,λi hi=>by omega⟩
 case round =>
  obtain⟨k,hk,rfl,hz⟩:=hrel;have hkn:k<n:=by
   rcases B73 k n with h|h
   ·exact h
   ·exact absurd (by rw[<-A0H W64 l k (by rw[<-Hn.out];exact h)];exact A8G hz) Hv.out
  have hkl:k<l.length:=by rw[<-Hn.out];exact hkn
  have hc:=H.out.cell hkl;rw[<-E8 hkl]at hc;have Hz:=B8S hz;clear hz;have hxW:=D1 C6 Hd.out k;by_cases h0:dg l k=0
  ·rw[h0]at hc;have H0:=B8S h0;clear h0 hxW;go_wp2;go_round
   case rel=>exact⟨k+1,by omega,by go_num,λi hi=>by
    rcases B73 i k with h|h
    ·exact Hz.out i h
    ·obtain rfl:i=k:=by omega
     exact H0.out⟩
   case measure=>simp[intOf];omega
  ·obtain⟨m,hx1,hx2⟩:=B2L (dg l k) h0 hxW;have htz:=B3q Hz.out hkl hx1 hx2;have hcall:=B4n (dg l k) hxW h0 w HT.out;obtain⟨x,hx⟩:∃x,x=dg l k:=⟨_,rfl⟩
   obtain⟨t,ht⟩:∃t,t=Lib.ctz 64 (dg l k):=⟨_,rfl⟩
   rw[<-ht]at hx2 htz hcall;rw[<-hx]at hc hcall h0;have Hcall:=B8S hcall;have Htz:=B8S htz;have hb:((x:Int) == 0)=false:=by simpa using h0
   clear hx1 htz hcall hx ht h0 hxW;go_wp2_with (go_at_call 203;((with_reducible refine(Hcall.out).mono ?_);rintro e w1 ⟨rfl,rfl⟩));go_ret;exact⟨64*k+t,by go_num,Htz.out,by omega,rfl⟩
theorem B3D{P:Program}{x y:Code}{Q:Exit->Act->World->Prop}{a:Act}{w:World}(h:∀K:Act->World->Prop,(∀a w,y.wp P Q a w->K a w)->x.wp P (Exit.then K Q) a w):(Code.seq x y).wp P Q a w :=
 B8N (h _ λ_ _ h=>h)
end Go.Proofs.YtgpglgbcobeogaaGreatDoor
namespace Go.Proofs.YtgpglgbcobeogaaGreatDoor
open Go Go.RowKit
def A73(R:List Nat)(i:Nat)(e:Edge):Nat:=if Region.binds .any e=true then(2^e.on ||| (if e.on<i then R.getD e.on 0 else 0))else 0
def A3p(R:List Nat)(i:Nat):List Edge->Nat
 | []=>0
 | e::r=>A73 R i e ||| A3p R i r
def A5Z(ops:Array Oper)(R:List Nat):Bool:=(List.range ops.size).all λi=>match ops[i]? with
 | some o=>Nat.beq (R.getD i 0) (A3p R i o.after.toList)
 | none=>false
theorem A8W{R:List Nat}{i j:Nat}:∀l:List Edge,(A3p R i l).testBit j=true->∃e∈l,Region.binds .any e=true/\(e.on=j\/(e.on<i/\(R.getD e.on 0).testBit j=true))
 | [],h=>by simp[A3p]at h
 | e::r,h=>by
  unfold A3p at h;rw[Nat.testBit_or,Bool.or_eq_true]at h;rcases h with h|h
  ·refine⟨e,List.mem_cons_self,?_⟩;unfold A73 at h;split at h
   ·rename_i hb;refine⟨hb,?_⟩;rw[Nat.testBit_or,Bool.or_eq_true]at h;rcases h with h|h
    ·left;rw[Nat.testBit_two_pow]at h
     simpa using h
    ·right;split at h
     ·rename_i hlt;exact⟨hlt,h⟩
     ·simp at h
   ·simp at h
  ·obtain⟨e',he',h'⟩:=A8W r h;exact⟨e',B74 _ he',h'⟩
theorem A9p{ops:Array Oper}{R:List Nat}(h:A5Z ops R=true):∀(f i j:Nat),i<f->i<ops.size->(R.getD i 0).testBit j=true->A0l ops f i j=true
 | 0,_,_,h0,_,_=>absurd h0 (C0C _)
 | f+1,i,j,hif,hi,hb=>by
  have h1:=List.all_eq_true.1 h i (List.mem_range.2 hi);unfold A0l;rw[Array.getElem?_eq_getElem hi]at h1⊢;simp only at h1⊢;rw[Nat.eq_of_beq_eq_true h1]at hb;obtain⟨e,he,hbd,hor⟩:=A8W _ hb;refine Array.any_eq_true'.2 ⟨e,Array.mem_toList_iff.1 he,?_⟩;rw[hbd,Bool.true_and,Bool.or_eq_true,beq_iff_eq];rcases hor with hor|⟨hlt,hor⟩
  ·exact .inl hor
  ·exact .inr (A9p h f e.on j (by omega) (by omega) hor)
def A4t(ops:Array Oper)(R:List Nat):List (Nat×Nat)->Bool
 | []=>true
 | (k,i)::r=>(r.all λe=>(decide (e.2<ops.size)&&(R.getD e.2 0).testBit i)||(match ops[i]?,ops[e.2]? with
   | some oi,some oe=>A1Y ops (k,oi) (e.1,oe)
   | _,_=>false))&&A4t ops R r
theorem A64{ops:Array Oper}{R:List Nat}(h:A5Z ops R=true):∀s:List (Nat×Nat),A4t ops R s=true->A0C ops s=true
 | [],_=>rfl
 | (k,i)::r,hs=>by
  unfold A4t at hs;unfold A0C;rw[Bool.and_eq_true]at hs⊢;refine⟨List.all_eq_true.2 λe he=>?_,A64 h r hs.2⟩;have h1:=List.all_eq_true.1 hs.1 e he;rw[Bool.or_eq_true]at h1⊢;rcases h1 with h1|h1
  ·rw[Bool.and_eq_true,decide_eq_true_eq]at h1;exact .inl (A9p h _ _ _ h1.1 h1.1 h1.2)
  ·exact .inr h1
def A96(ts:List TypeId)(l:List Oper)(n:Nat)(fl:List Nat)(s:List (Nat×Nat))(R:List Nat):Bool :=
 Region.noSelect l.toArray&&decide (n<l.toArray.size)&&A6X l.toArray n fl&&Region.chainB .any l.toArray n&&A3W (s.map (·.2)) n&&(A5Z l.toArray R&&A4t l.toArray R s)&&A3A l.toArray n (s.map (·.2)) &&
  Region.seqB .any l.toArray (l.toArray.size-n) n (A06 n l.toArray.size)&&A3I ts l.toArray s&&A37 l.toArray n fl&&(s.all λe=>!fl.contains e.2||decide (e.1=0))
theorem A2O{ts:List TypeId}{l:List Oper}{n:Nat}{fl:List Nat}{s:List (Nat×Nat)}(R:List Nat)(h:A96 ts l n fl s R=true):A2u ts l n fl s=true:=by
 unfold A96 at h;unfold A2u;simp only[Bool.and_eq_true]at h⊢;obtain⟨⟨⟨⟨⟨⟨⟨⟨⟨⟨a1,a2⟩,a3⟩,a4⟩,a5⟩,a6⟩,a7⟩,a8⟩,a9⟩,a10⟩,a11⟩:=h;exact⟨⟨⟨⟨⟨⟨⟨⟨⟨⟨a1,a2⟩,a3⟩,a4⟩,a5⟩,A64 a6.1 _ a6.2⟩,a7⟩,a8⟩,a9⟩,a10⟩,a11⟩
end Go.Proofs.YtgpglgbcobeogaaGreatDoor
