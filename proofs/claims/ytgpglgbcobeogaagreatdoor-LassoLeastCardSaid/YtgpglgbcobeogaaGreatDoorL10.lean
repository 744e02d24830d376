import Derived.Test.YtgpglgbcobeogaaGreatDoorL8
set_option linter.unusedSimpArgs false
set_option linter.unusedVariables false
namespace Go.Proofs.YtgpglgbcobeogaaGreatDoor
open Go.RowKit
section
variable {P:Program} {Q:Exit->Act->World->Prop} {n:Act->World->Prop} {a:Act} {w:World}
theorem B7{id:Nat}(h:Q (.exit id) a w):Exit.then n Q (.exit id) a w:=h
theorem B0d(h:Q .ret a w):Exit.then n Q .ret a w:=h
theorem C8{id:Nat}(h:Q .normal a w):Exit.inBlock id Q .normal a w:=h
theorem A6i{id:Nat}(h:Q .ret a w):Exit.inBlock id Q .ret a w:=h
theorem D0{id:Nat}(h:Q .normal a w):Exit.inBlock id Q (.exit id) a w:=by
 show(if id=id then Q .normal a w else _);rw[if_pos rfl];exact h
theorem B3c{id j:Nat}(hj:j≠id)(h:Q (.exit j) a w):Exit.inBlock id Q (.exit j) a w:=by
 show(if j=id then _ else Q (.exit j) a w);rw[if_neg hj];exact h
theorem B1k{fn:Func}{R:Ending->World->Prop}(hd:a.defers=[])(h:∀N:Value->Prop,(∀v,R (.returned v) w->N v)->A3f w N ((results fn a.tmps).run P w)):bodyPost P fn R .ret a w:=by
 have h1:=h (λv=>R (.returned v) w) (λv hv=>hv);revert h1
 cases hres:(results fn a.tmps).run P w with
 | ok v w' =>
  rintro⟨rfl,hv⟩;exact B8L hres hd hv
 | halt x w'=>exact λh=>(h:False).elim
end
def BIG:Nat:=1099511627520
theorem I6:BIG<=1099511627776:=by decide
theorem A56:64<=BIG:=by decide
theorem R7{a:Nat}(h:bl a<=BIG):bl a<=1099511627776:=B8K h I6
section
variable {P:Program} {ops:Array Oper} {Q:Exit->Act->World->Prop} {L:Act->World->Prop}
def A6p(o:Oper):Bool:=match o.op with
 | .extract _ _=>true
 | .move _=>true
 | _=>false
theorem B1A{F:World->Prop}{o:Oper}{v:Value}{a:Act}{w:World}(hp:A6p o=true)(hy:YieldsIf P ops F o v a)(hw:F w):Yields P ops o v a:=by
 refine hy.imp (λ⟨h1,h2⟩=>⟨h1,λw'=>?_⟩) id;have h3:=h2 w hw;obtain⟨d,op,ty,pos,af,gd⟩:=o;cases op<;>first|(exact absurd hp Bool.false_ne_true)|skip
 ·simp only[execOp,go_sem]at h3⊢;injection h3 with h3;rw[h3];rfl
 ·rename_i x i _;change (Sem.run P (Functor.map Next.value (Instr.extract (a.eval x) i)) w)=_ at h3;show(Sem.run P (Functor.map Next.value (Instr.extract (a.eval x) i)) w')=_;generalize a.eval x=t at h3⊢;unfold Instr.extract at h3⊢;revert h3;split
  ·split
   ·intro h3;injection h3 with h3;rw[<-h3];rfl
   ·intro h3;cases h3
  ·intro h3;cases h3
def A37(ops:Array Oper)(n:Nat)(fl:List Nat):Bool:=fl.all λi=>decide (i<n)&&(match ops[i]? with
 | some oi=>A6p oi&&(List.range ops.size).all λj=>decide (j=i)||(match ops[j]? with
  | some oj=>oj.after.any (λe=>Region.binds .any e&&decide (e.on=i))||oi.apart ops oj||A0l ops ops.size i j
  | none=>true)
 | none=>false)
theorem B1W{n:Nat}{fl:List Nat}(h:A37 ops n fl=true)(i:Nat)(hi:i∈fl):i<n/\∃oi,ops[i]?=some oi/\A6p oi=true/\∀j oj,ops[j]?=some oj->j≠i ->
  (∃e∈oj.after,Region.binds .any e=true/\e.on=i)\/oi.apart ops oj=true\/A0l ops ops.size i j=true:=by
 have h1:=List.all_eq_true.1 h i hi;simp only[Bool.and_eq_true,decide_eq_true_eq]at h1;obtain⟨h1,h2⟩:=h1;refine⟨h1,?_⟩
 cases ho:ops[i]? with
 | none=>rw[ho]at h2;cases h2
 | some oi =>
  rw[ho]at h2;simp only[Bool.and_eq_true,List.all_eq_true,List.mem_range]at h2;refine⟨oi,rfl,h2.1,λj oj hj hne=>?_⟩;have h3:=h2.2 j (Array.getElem?_eq_some_iff.1 hj).1;rw[hj]at h3;simp only[Bool.or_eq_true,decide_eq_true_eq,hne,false_or]at h3;rcases h3 with(h3|h3)|h3
  ·obtain⟨e,he,hb⟩:=Array.any_eq_true'.1 h3;simp only[Bool.and_eq_true,decide_eq_true_eq]at hb;exact .inl ⟨e,he,hb.1,hb.2⟩
  ·exact .inr (.inl h3)
  ·exact .inr (.inr h3)
def A6X(ops:Array Oper)(n:Nat)(fl:List Nat):Bool:=(List.range n).all λi=>fl.contains i||(List.range (n+1)).any λj=>decide (i<j) && !fl.contains j&&Region.waitsFor .any ops j i
theorem B28{n:Nat}{fl:List Nat}{listed:Array Bool}(hs:A6X ops n fl=true)(hc:Region.chainB .any ops n=true)(hn:n<ops.size)(inv:HeadInv .any ops n listed) :
  ∀(d i:Nat),n-i=d->i<n->i∉fl->listed.getD i true=false->∀t,n<=t->t∉Region.ready .any ops listed:=by
 intro d
 induction d using Nat.strongRecOn with
 | _ d ih =>
  intro i hd hi hfl hun t ht hr;obtain⟨_,ot,hot,hall⟩:=mem_ready.1 hr;have htlt:t<ops.size:=(Array.getElem?_eq_some_iff.1 hot).1;by_cases htn:t=n
  ·subst htn;have h1:=List.all_eq_true.1 hs i (List.mem_range.2 hi);simp only[Bool.or_eq_true,List.contains_iff_mem,hfl,false_or]at h1;obtain⟨j,hj,hj2⟩:=List.any_eq_true.1 h1;simp only[Bool.and_eq_true,decide_eq_true_eq,Bool.not_eq_true',List.contains_eq_mem,decide_eq_false_iff_not]at hj2;obtain⟨oj,hoj,e,he,hb,hon⟩:=Region.waitsFor_spec hj2.2;have hjle:j<=t:=by have:=List.mem_range.1 hj;omega
   by_cases hjt:j=t
   ·subst hjt;have:oj=ot:=B78 (hoj.symm.trans hot);subst this;have h2:=hall e he hb;rw[hon,getD_both hun]at h2;cases h2
   ·cases hl:listed.getD j false with
    | true =>
     have h2:=inv.closed j oj hoj hl e he hb;rw[hon,getD_both hun]at h2;cases h2
    | false =>
     have hjs:j<listed.size:=by rw[inv.size];omega
     exact ih (t-j) (by omega) j rfl (by omega) hj2.1.2 (getD_in hjs hl) t (K2 _) hr
  ·have h1:=List.all_eq_true.1 hc t (List.mem_range.2 htlt);simp only[Bool.or_eq_true,decide_eq_true_eq]at h1;rcases h1 with h1|h1
   ·omega
   ·obtain⟨o',ho',e,he,hb,hon⟩:=Region.waitsFor_spec h1;have:o'=ot:=B78 (ho'.symm.trans hot);subst this;have h2:=hall e he hb;rw[hon,getD_both (inv.tail (t-1) (by omega) (by omega))]at h2;cases h2
theorem B5Q{B n g:Nat}{s0 fl:List Nat}(hfl:A37 ops n fl=true)(hsel:Region.noSelect ops=true)(hn:n<=ops.size)(hback:A3A ops n s0=true)
  (hT:∀listed,HeadInv .any ops n listed->∀i,i<n->i∉fl->listed.getD i true=false->∀t,n<=t->t∉Region.ready .any ops listed)
  (hL:∀listed a w,HeadInv .any ops n listed->(∀i,i<n->listed.getD i true=true)->L a w->wpAny P .any ops (NoP Q) g listed a w) :
  ∀(m:Nat) (s:List (Nat×Nat)) (listed:Array Bool) (tk:List Nat) (a:Act) (F:World->Prop) (w:World),s.length=m->(∀i,i∈s.map (·.2)↔(i<n/\listed.getD i true=false))->(s.map (·.2)).Nodup ->
   HeadInv .any ops n listed->A0C ops s=true->(∀e∈s,2<=e.1->∀o,ops[e.2]?=some o->A3s P ops o)->(∀e∈s,e.2∈fl->¬0<e.1)->(∀w w',A4 w w'->F w->F w')->F w->(∀w,F w->B<=w.heap.size/\∀b∈tk,b<w.heap.size)->OKs P ops L B (H6 ops s) tk a F->wpAny P .any ops (NoP Q) (m+g) listed a w:=by
 intro m
 induction m with
 | zero =>
  intro s listed tk a F w hlen hset _ inv _ _ _ _ hw _ h;have hs:s=[]:=B76 hlen;subst hs;rw[Nat.zero_add];refine hL listed a w inv (λi hi=>?_) (h w hw)
  cases hl:listed.getD i true with
  | true=>rfl
  | false=>have:=(hset i).2 ⟨hi,hl⟩;simp at this
 | succ m ih =>
  intro s listed tk a F w hlen hset hnd inv hp hA hK hmono hw hFB h;obtain⟨i0,hi0n,hi0⟩:∃i,i<n/\i∈Region.ready .any ops listed:=by
   refine Classical.byContradiction λhno=>?_;have key:∀p i,i<n->listed.getD i true=false->s0.idxOf i=p->False:=by
    intro p
    induction p using Nat.strongRecOn with
    | ind p ihp =>
     intro i hi hun hpos;have hb:=List.all_eq_true.1 hback i (List.mem_range.2 hi);have hio:ops[i]?=some ops[i]:=by simp
     rw[hio]at hb;simp only[Array.all_eq_true_iff_forall_mem,Bool.or_eq_true,Bool.not_eq_true',Bool.and_eq_true,decide_eq_true_eq]at hb;refine hno ⟨i,hi,mem_ready.2 ⟨hun,ops[i],hio,λe he hbi=>?_⟩⟩;rcases hb e he with h1|h1
     ·rw[h1]at hbi;cases hbi
     ·cases hl:listed.getD e.on false with
      | true=>rfl
      | false =>
       have hlt:e.on<listed.size:=by rw[inv.size];omega
       exact(ihp (s0.idxOf e.on) (by omega) e.on h1.1 (getD_in hlt hl) rfl).elim
   cases s with
   | nil=>simp at hlen
   | cons e s =>
    have he:=(hset e.2).1 (by simp);exact key _ e.2 he.1 he.2 rfl
  have hne:Region.ready .any ops listed≠[]:=λh0=>by rw[h0]at hi0;cases hi0
  have bring:∀i,i<n->i∈Region.ready .any ops listed->∃k oi pre post,s=pre++(k,i)::post/\ops[i]?=some oi/\(∀e∈oi.after,Region.binds .any e=true->listed.getD e.on false=true)/\OKs P ops L B ((k,oi)::H6 ops (pre++post)) tk a F:=by
   intro i hin hi;have hun:=(mem_ready.1 hi).1;obtain⟨_,oi,hoi,hall⟩:=mem_ready.1 hi;have hmem:=(hset i).2 ⟨hin,hun⟩;obtain⟨⟨k,i'⟩,hki,hii⟩:=List.mem_map.1 hmem;simp only at hii;subst hii;obtain⟨pre,post,rfl⟩:=List.append_of_mem hki;have hsw:∀x∈H6 ops pre,(∀cs b,x.2.op ≠ .select cs b)/\A1Y ops x (k,oi)=true:=by
    rintro⟨kx,ox⟩ hx;obtain⟨j,hj,hoj⟩:=A72 hx;refine⟨λcs b=>B77 hsel j ox cs b hoj,?_⟩;rcases A9A hp (kx,j) hj with h1|⟨ox',oi',h1,h2,h3⟩
    ·exfalso
     have hl:=A4l inv _ i' j h1 (λo ho e he hb=>by
      have:o=oi:=B78 (ho.symm.trans hoi);subst this
      exact hall e he hb)
     have hju:=((hset j).1 (by simp only[List.map_append,List.mem_append];exact .inl (List.mem_map.2 ⟨(kx,j),hj,rfl⟩))).2;rw[getD_both hju]at hl;cases hl
    ·have e1:ox'=ox:=B78 (h1.symm.trans hoj);have e2:oi'=oi:=B78 (h2.symm.trans hoi);subst e1;subst e2;exact h3
   refine⟨k,oi,pre,post,rfl,hoi,hall,?_⟩;rw[A66]at h⊢;have hpk:H6 ops ((k,i')::post)=(k,oi)::H6 ops post:=by simp[H6,hoi]
   rw[hpk]at h;exact OKs.front (λcs b=>B77 hsel i' oi cs b hoi) (H6 ops pre) tk a F hsw h
  have goon:∀(i:Nat) (k:Nat) (pre post:List (Nat×Nat)),i<n->i∈Region.ready .any ops listed->s=pre++(k,i)::post->∀(tk':List Nat) (a':Act) (F':World->Prop) (w':World),(∀w w',A4 w w'->F' w->F' w')->F' w'->(∀w,F' w->B<=w.heap.size/\∀b∈tk',b<w.heap.size)->OKs P ops L B (H6 ops (pre++post)) tk' a' F'->wpAny P .any ops (NoP Q) (m+g) (listed.setIfInBounds i true) a' w':=by
   intro i' k pre post hin hi hs tk' a' F' w' hmono' hw' hFB' h';subst hs;have hnd':(pre.map (·.2)).Nodup/\(i'∉post.map (·.2)/\(post.map (·.2)).Nodup)/\∀x∈pre.map (·.2),x≠i'/\x∉post.map (·.2):=by
    simp only[List.map_append,List.map_cons,List.nodup_append,List.nodup_cons]at hnd;refine⟨hnd.1,hnd.2.1,λx hx=>⟨λe=>hnd.2.2 x hx i' (by simp) e,λhx'=>hnd.2.2 x hx x (by simp only[List.mem_cons];exact .inr hx') rfl⟩⟩
   refine ih (pre++post) (listed.setIfInBounds i' true) tk' a' F' w' (by simp at hlen⊢;omega) (λj=>?_) ?_ (inv.set hi hin) (A7y ?_ hp) (λe he=>hA e ?_) (λe he=>hK e ?_) hmono' hw' hFB' h'
   ·by_cases hji:i'=j
    ·subst hji;constructor
     ·intro hj;simp only[List.map_append,List.mem_append]at hj;rcases hj with hj|hj
      ·exact absurd rfl (hnd'.2.2 _ hj).1
      ·exact absurd hj hnd'.2.1.1
     ·rintro⟨_,hj⟩;have hlt:i'<listed.size:=by rw[inv.size];omega
      simp[hlt]at hj
    ·rw[getD_set_ne true hji,<-hset j];simp only[List.map_append,List.map_cons,List.mem_append,List.mem_cons];constructor
     ·rintro(h1|h1)
      ·exact .inl h1
      ·exact .inr (.inr h1)
     ·rintro(h1|h1|h1)
      ·exact .inl h1
      ·exact absurd h1.symm hji
      ·exact .inr h1
   ·rw[List.map_append,List.nodup_append];exact⟨hnd'.1,hnd'.2.1.2,λx hx y hy hxy=>(hnd'.2.2 x hx).2 (hxy ▸ hy)⟩
   ·exact(List.Sublist.refl pre).append (List.sublist_cons_self _ _)
   ·simp only[List.mem_append,List.mem_cons]at he⊢;rcases he with he|he
    ·exact .inl he
    ·exact .inr (.inr he)
   ·simp only[List.mem_append,List.mem_cons]at he⊢;rcases he with he|he
    ·exact .inl he
    ·exact .inr (.inr he)
  rw[show m+1+g=(m+g)+1 by omega];by_cases hex:∃i,i∈fl/\i∈Region.ready .any ops listed
  ·obtain⟨i,hifl,hi⟩:=hex;obtain⟨hin,oi0,hoi0,hpure,hfree⟩:=B1W hfl i hifl;obtain⟨k,oi,pre,post,hs,hoi,hall,hfr⟩:=bring i hin hi;have:oi0=oi:=B78 (hoi0.symm.trans hoi);subst this;have hk:k=0:=by
    rcases B8M k with h0|h0
    ·exact h0
    ·exfalso;exact hK (k,i) (by rw[hs];simp) hifl (by simpa using h0)
   subst hk;obtain⟨v,hy,h'⟩:=hfr;refine wpAny_first (v:=v) hoi (B77 hsel) (λc a w h=>h) (m+g) listed a w (λj oj hj hne' hun' hno=>?_) hi (B1A hpure hy hw) ?_
   ·rcases hfree j oj hj hne' with h1|h1|h1
    ·obtain⟨e,he,hb,hon⟩:=h1;exact absurd hon (hno e he hb)
    ·exact h1
    ·exfalso
     have hl:=A4l inv _ i j h1 (λo ho e he hb=>by
      have:o=oi0:=B78 (ho.symm.trans hoi);subst this
      exact hall e he hb)
     rw[getD_both hun']at hl;cases hl
   ·exact goon i 0 pre post hin hi hs tk _ F w hmono hw hFB h'
  ·have hnf:i0∉fl:=λhc=>hex ⟨i0,hc,hi0⟩;refine⟨λh0=>absurd h0 hne,λi hi=>?_⟩;have hin:i<n:=by
    rcases B73 i n with h'|h'
    ·exact h'
    ·exact(hT listed inv i0 hi0n hnf (mem_ready.1 hi0).1 i h' hi).elim
   obtain⟨k,oi,pre,post,hs,hoi,hall,hfr⟩:=bring i hin hi;refine wpOp_mono (λa' w' h3=>?_) (OKs.step (Q:=Q) hoi (λhk=>hA (k,i) (by rw[hs];simp) hk oi hoi) hmono hw hFB hfr);obtain⟨F',tk',hmono',hw',hFB',h'⟩:=h3;exact goon i k pre post hin hi hs tk' a' F' w' hmono' hw' hFB' h'
def A2u(ts:List TypeId)(l:List Oper)(n:Nat)(fl:List Nat)(s:List (Nat×Nat)):Bool :=
 Region.noSelect l.toArray&&decide (n<l.toArray.size)&&A6X l.toArray n fl&&Region.chainB .any l.toArray n&&A3W (s.map (·.2)) n&&A0C l.toArray s&&A3A l.toArray n (s.map (·.2)) &&
  Region.seqB .any l.toArray (l.toArray.size-n) n (A06 n l.toArray.size)&&A3I ts l.toArray s&&A37 l.toArray n fl&&(s.all λe=>!fl.contains e.2||decide (e.1=0))
theorem B3n{id:Nat}{a:Act}{w:World}{l:List Oper}{ts:List TypeId}(hts:∀t∈ts,R0 P t)(n:Nat)(fl:List Nat)(s:List (Nat×Nat))(F:World->Prop)(hm:P.follows .mixedOrders=true)(hB:A2u ts l n fl s=true)
  (hmono:∀w w',A4 w w'->F w->F w') (hF:F w) (h:OKs P l.toArray (λa' w'=>wpList P l.toArray (NoP Q) (l.drop n) a' w') w.heap.size (H6 l.toArray s) [] a (λu=>A4 w u/\F u)):(Code.region id l.toArray true).wp P Q a w:=by
 simp only[A2u,A3W,Bool.and_eq_true,decide_eq_true_eq,List.all_eq_true,List.mem_range,List.contains_iff_mem]at hB;obtain⟨⟨⟨⟨⟨⟨⟨⟨⟨⟨hsel,hn⟩,hs⟩,hc⟩,⟨⟨hset1,hset2⟩,hnd⟩⟩,hpair⟩,hback⟩,hseq⟩,hall⟩,hfl⟩,hk⟩:=hB;have hdl:(l.drop n).length=l.toArray.size-n:=by simp
 have inv0:HeadInv .any l.toArray n (Array.replicate l.toArray.size false) :=
  ⟨by simp,λj oj _ hl=>(by rw[B79]at hl;cases hl),λt _ ht=>getD_in (by simpa using ht) (B79 _ _)⟩
 have hun0:∀i,i<n->(Array.replicate l.toArray.size false).getD i true=false:=λi hi=>getD_in (by simp at hn⊢;omega) (B79 _ _);have hlen:s.length=n:=by
  have h1:(s.map (·.2)).Perm (List.range n):=(List.perm_ext_iff_of_nodup hnd List.nodup_range).2 λi=>⟨λhi=>List.mem_range.2 (hset2 i hi),λhi=>hset1 i (List.mem_range.1 hi)⟩
  simpa using h1.length_eq
 refine B8A NoP.up (wp_region_any hm ?_)
 have H:=B5Q (P:=P) (Q:=Q) (B:=w.heap.size) (L:=λa' w'=>wpList P l.toArray (NoP Q) (l.drop n) a' w') (g:=l.toArray.size-n) hfl hsel (B8B hn) hback (λlisted inv i hi hf hun t ht=>B28 hs hc hn inv (n-i) i rfl hi hf hun t ht)
  (λlisted a' w' inv hall hK=>by
   have hl:listed=A06 n l.toArray.size:=by
    refine Array.ext (by simp[A06,inv.size]) λi h1 h2=>?_;have hi:i<l.toArray.size:=by rw[<-inv.size];exact h1
    simp only[A06,Array.getElem_ofFn];by_cases hin:i<n
    ·have:=hall i hin
     simpa [h1,hin]using this
    ·have:=inv.tail i (by omega) hi
     simpa [h1,hin]using this
   have:=wpAny_of_seq (md:=.any) (Q':=NoP Q) (l.drop n) n listed a' w' (λj=>by simp[List.getElem?_drop]) (by rw[hdl,hl];exact hseq) hK
   rwa [hdl]at this)
  n s (Array.replicate l.toArray.size false) [] a (λu=>A4 w u/\F u) w.drew hlen (λi=>⟨λhi=>⟨hset2 i hi,hun0 i (hset2 i hi)⟩,λhi=>hset1 i hi.1⟩) hnd inv0 hpair (A47 hts hall) (λe he hf=>by
   have h1:=hk e he;simp only[Bool.or_eq_true,Bool.not_eq_true',List.contains_eq_mem,decide_eq_false_iff_not,decide_eq_true_eq]at h1;rcases h1 with h1|h1
   ·exact absurd hf h1
   ·omega)
  (λu u' hu hh=>⟨hh.1.trans hu,hmono u u' hu hh.2⟩) ⟨A4.drew w,hmono _ _ (A4.drew w) hF⟩ (λu hu=>⟨hu.1.size,λb hb=>by cases hb⟩) h
 rw[show n+(l.toArray.size-n)=l.toArray.size by omega]at H;exact H
end
section
variable {P:Program} {Q:Exit->Act->World->Prop}
theorem OKs.imp{ops:Array Oper}{L L':Act->World->Prop}{B:Nat}(hl:∀a w,L a w->L' a w):∀(r:List (Nat×Oper)) (tk:List Nat) (a:Act) (F:World->Prop),OKs P ops L B r tk a F->OKs P ops L' B r tk a F
 | [],_,_,_,h=>λw hw=>hl _ _ (h w hw)
 | (0,_)::r,tk,_,F,⟨v,hy,h⟩=>⟨v,hy,OKs.imp hl r tk _ F h⟩
 | (1,_)::r,tk,_,_,⟨X,f,T,hm,hs,h⟩=>⟨X,f,T,hm,hs,λx=>OKs.imp hl r tk _ _ (h x)⟩
 | (_+2,_)::r,_,_,_,h=>λb hb hn=>OKs.imp hl r _ _ _ (h b hb hn)
def NoK(K:Act->World->Prop):Exit->Act->World->Prop
 | .normal,a,w=>K a w
 | _,_,_=>False
theorem NoK.eq:NoP Q=NoK (Q .normal):=by
 funext e a w;cases e<;>rfl
theorem NoK.norm{K:Act->World->Prop}{a:Act}{w:World}(h:K a w):NoK K .normal a w:=h
theorem A1Z{id:Nat}{a:Act}{w u:World}{l tl:List Oper}{ts:List TypeId}{bl:List (Nat×TypeId×Array Value)}(hts:∀t∈ts,R0 P t)(n:Nat)(fl:List Nat)(s:List (Nat×Nat))(hm:P.follows .mixedOrders=true)(hB:A2u ts l n fl s=true)(htl:l.drop n=tl)
  (G:World->Prop) (hGm:∀u u',A4 u u'->G u->G u') (hb:Bx u bl) (hG:A4 w u) (hg:G u)
  (h:∀K L:Act->World->Prop,(∀a w,Q .normal a w->K a w)->(∀a' w',wpList P l.toArray (NoK K) tl a' w'->L a' w')->OKs P l.toArray L u.heap.size (H6 l.toArray s) [] a (λv=>A4 u v/\Bx v bl/\A4 w v/\G v)):(Code.region id l.toArray true).wp P Q a u :=
 B3n hts n fl s (λv=>Bx v bl/\A4 w v/\G v) hm hB (λ_ _ hg hh=>⟨hh.1.grow hg,hh.2.1.trans hg,hGm _ _ hg hh.2.2⟩) ⟨hb,hG,hg⟩ (h _ _ (λ_ _ h=>h) λ_ _ h=>by rw[NoK.eq,htl];exact h)
theorem M4{id:Nat}{a:Act}{w u:World}{l tl:List Oper}{ts:List TypeId}{bl:List (Nat×TypeId×Array Value)}(hts:∀t∈ts,R0 P t)(n:Nat)(ks:List Nat)(hB:A0X ts l n ks=true)(htl:l.drop n=tl)
  (G:World->Prop) (hGm:∀u u',A4 u u'->G u->G u') (hb:Bx u bl) (hG:A4 w u) (hg:G u)
  (h:∀K L:Act->World->Prop,(∀a w,Q .normal a w->K a w)->(∀a' w',wpList P l.toArray (NoK K) tl a' w'->L a' w')->OKs P l.toArray L u.heap.size (ks.zip l) [] a (λv=>A4 u v/\Bx v bl/\A4 w v/\G v)):(Code.region id l.toArray false).wp P Q a u :=
 B45 hts n ks hB G hGm hb hG hg (h _ _ (λ_ _ h=>h) λ_ _ h=>by rw[NoK.eq,htl];exact h)
theorem N5{id:Nat}{a:Act}{u:World}{l:List Oper}(h:∀K:Act->World->Prop,(∀a w,Q .normal a w->K a w)->wpList P l.toArray (NoK K) l a u):(Code.region id l.toArray false).wp P Q a u :=
 B8A NoP.up (B8C (by rw[NoK.eq];exact h _ λ_ _ h=>h))
theorem Fr.ne{w:World}{l:List Nat}(h:Fr w l)(i j:Nat){x y:Nat}(hi:l[i]?=some x)(hj:l[j]?=some y)(hij:i≠j):x≠y:=by
 obtain⟨hi1,hi2⟩:=List.getElem?_eq_some_iff.1 hi;obtain⟨hj1,hj2⟩:=List.getElem?_eq_some_iff.1 hj;have hnd:=List.pairwise_iff_getElem.1 h.2;rcases B8H hij with h'|h'
 ·have:=hnd i j hi1 hj1 h';rw[hi2,hj2]at this;exact this
 ·have:=hnd j i hj1 hi1 h';rw[hi2,hj2]at this;exact λe=>this e.symm
theorem noG:∀u u':World,A4 u u'->True->True:=λ_ _ _ h=>h
theorem okf{ops:Array Oper}{L:Act->World->Prop}{B:Nat}{r:List (Nat×Oper)}{tk:List Nat}{a a':Act}{F:World->Prop}(h:a=a')(hk:OKs P ops L B r tk a' F):OKs P ops L B r tk a F:=h ▸ hk
end
end Go.Proofs.YtgpglgbcobeogaaGreatDoor
