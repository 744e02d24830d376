import Derived.Test.YtgpglgbcobeogaaGreatDoorN24
set_option linter.unusedSimpArgs false
set_option linter.unusedVariables false
namespace Go.Proofs.YtgpglgbcobeogaaGreatDoor
open Go.RowKit
theorem Rz.a{u:World}{p:Az}{q:Rat}(h:Rz u p q):Rn u p.1 q.num.natAbs:=h.1
theorem Rz.b{u:World}{p:Az}{q:Rat}(h:Rz u p q):Rn u p.2 q.den:=h.2
theorem Rz.put{u u':World}{p:Az}{q:Rat}(h:Rz u p q){bl:List (Nat×TypeId×Array Value)}(hB:Bx u bl)(k:Nat){b:Nat}{t:TypeId}{cs:Array Value}(hk:bl[k]?=some (b,t,cs))(ht:t≠193)(i:Nat)(vs:List Value)(hu:C2 u b i vs=u'):Rz u' p q:=⟨h.1.put hB k hk ht i vs hu,h.2.put hB k hk ht i vs hu⟩
theorem Rz.own{u w':World}{B:Nat}{e:TypeId}{size n:Nat}{v:Value}{xs:List Value}{o:Obj}{p:Az}{q:Rat}(hl:Rz u p q)(h:u.ownsRow B e size v n xs)(ht:e≠193)(hg:(u.alloc o).grownBy w' v.ownBlock):Rz w' p q:=⟨hl.1.own h ht hg,hl.2.own h ht hg⟩
def zL(p:Az)(q:Rat):List Value:=[.bool (E0 q.num),.slice p.1.1 (ln q.num.natAbs) p.1.2,.slice p.2.1 (ln q.den) p.2.2]
def Cz(u:World)(b i:Nat)(p:Az)(q:Rat):Prop :=
 u.cell? ⟨b,i,none⟩=some (.bool (E0 q.num))/\u.cell? ⟨b,i+1,none⟩=some (.slice p.1.1 (ln q.num.natAbs) p.1.2)/\u.cell? ⟨b,i+2,none⟩=some (.slice p.2.1 (ln q.den) p.2.2)
def Lz(u:World)(A:Option Addr)(l:List Rat):Prop :=
 l≠[]->∃b off,A=some ⟨b,off,none⟩/\b<u.heap.size/\∀i,i<l.length->∃p:Az,Rz u p (gq l i)/\Cz u b (off+i*3) p (gq l i)
theorem Cz.grow{u u':World}{b i:Nat}{p:Az}{q:Rat}(h:Cz u b i p q)(hb:b<u.heap.size)(hg:A4 u u'):Cz u' b i p q :=
 ⟨(hg.cell (p:=⟨b,i,none⟩) hb).trans h.1,(hg.cell (p:=⟨b,i+1,none⟩) hb).trans h.2.1,(hg.cell (p:=⟨b,i+2,none⟩) hb).trans h.2.2⟩
theorem Lz.grow{u u':World}{A:Option Addr}{l:List Rat}(h:Lz u A l)(hg:A4 u u'):Lz u' A l:=λhn=>by
 obtain⟨b,off,e,hb,hc⟩:=h hn;refine⟨b,off,e,B9N hb hg.size,λi hi=>?_⟩;obtain⟨p,h1,h2⟩:=hc i hi;exact⟨p,h1.grow hg,h2.grow hb hg⟩
theorem Lz.nil(u:World)(A:Option Addr):Lz u A []:=λh=>absurd rfl h
theorem Lz.addr{u:World}{A:Option Addr}{l:List Rat}(h:Lz u A l)(hl:0<l.length):∃b off,A=some ⟨b,off,none⟩:=by
 obtain⟨b,off,e,_⟩:=h (λh0=>by rw[h0]at hl;cases hl);exact⟨b,off,e⟩
theorem Lz.read{u:World}{b off:Nat}{l:List Rat}(h:Lz u (some ⟨b,off,none⟩) l){i:Nat}(hi:i<l.length):∃p:Az,∀W,A4 u W->Rz W p (gq l i)/\Cz W b (off+i*3) p (gq l i):=by
 obtain⟨b',off',e,hb,hc⟩:=h (λh0=>by rw[h0]at hi;cases hi);cases e;obtain⟨p,h1,h2⟩:=hc i hi;exact⟨p,λW hg=>⟨h1.grow hg,h2.grow hb hg⟩⟩
abbrev Zr:=Az×Rat
def zrL(r:Zr):List Value:=zL r.1 r.2
def R7(u:World)(ps:List Zr):Prop:=∀r∈ps,Rz u r.1 r.2
theorem R7.nil(u:World):R7 u []:=λ_ h=>by cases h
theorem R7.grow{u u':World}{ps:List Zr}(h:R7 u ps)(hg:A4 u u'):R7 u' ps:=λr hr=>(h r hr).grow hg
theorem R7.put{u u':World}{ps:List Zr}(h:R7 u ps){bl:List (Nat×TypeId×Array Value)}(hB:Bx u bl)(k:Nat){b:Nat}{t:TypeId}{cs:Array Value}(hk:bl[k]?=some (b,t,cs))(ht:t≠193)(i:Nat)(vs:List Value)(hu:C2 u b i vs=u'):R7 u' ps:=λr hr=>(h r hr).put hB k hk ht i vs hu
theorem R7.own{u w':World}{B:Nat}{e:TypeId}{size n:Nat}{v:Value}{xs:List Value}{o:Obj}{ps:List Zr}(hl:R7 u ps)(h:u.ownsRow B e size v n xs)(ht:e≠193)(hg:(u.alloc o).grownBy w' v.ownBlock):R7 w' ps:=λr hr=>(hl r hr).own h ht hg
theorem X8(l:List Rat):(l.flatMap qL).length=5*l.length:=by
 induction l with
 | nil=>rfl
 | cons x l ih=>simp[List.flatMap_cons,qL,ih];omega
theorem A2L(l:List Rat){i:Nat}{q:Rat}(hi:l[i]?=some q){j:Nat}(hj:j<5):(l.flatMap qL)[i*5+j]?=(qL q)[j]?:=by
 induction l generalizing i with
 | nil=>simp at hi
 | cons x l ih =>
  rw[List.flatMap_cons]
  cases i with
  | zero =>
   simp at hi;subst hi;rw[C0k (by simp[qL];omega)];simp
  | succ i =>
   rw[C0l (by simp[qL];omega),show(qL x).length=5 from rfl,show(i+1)*5+j-5=i*5+j by omega];exact ih (by simpa using hi)
theorem K8{u:World}{B n:Nat}{v:Value}{l:List Rat}(h:u.ownsRow B 48 5 v n (l.flatMap qL)):∃A c,v = .slice A n c/\n<=c/\c<=maxLen/\Lq u A l/\n=l.length:=by
 have hn:n=l.length:=by have:=h.1;rw[X8]at this;omega
 obtain⟨_,h|⟨g,cap,cur,rfl,hb,hh,hn',hc,hs,ht⟩⟩:=h
 ·obtain⟨rfl,h0⟩:=h;exact⟨none,0,by rw[h0],by omega,by unfold maxLen;omega,λhne=>absurd (B8w (by omega)) hne,hn⟩
 ·refine⟨_,cap,rfl,hn',hc,λ_=>⟨g,0,rfl,L7 hh,λi q hi j v hj=>?_⟩,hn⟩;have hil:i<l.length:=(List.getElem?_eq_some_iff.1 hi).1;have hj5:j<5:=(List.getElem?_eq_some_iff.1 hj).1;rw[B84 u g _ cur 48 (0,0) hh,Nat.zero_add];have h1:(cur.toList.take (n*5))[i*5+j]?=some v:=by rw[ht,A2L l hi hj5,hj]
  rw[C0R,if_pos (by omega)]at h1
  simpa using h1
theorem B8r(n m:Int)(hm:0<m)(hm2:m<=9223372036854775807)(w:World):Calls Tryz.prog 24 #[.int .i64 n,.int .i64 m] w λe w'=>e = .returned (.int .i64 (A1R n m))/\A4 w w' :=
 (B6f n m hm hm2 w).mono λe w' ⟨h,hw⟩=>⟨h,hw ▸ A4.refl _⟩
theorem G7{f g:Nat->Rat}{n:Nat}(h:∀i,i<n->f i=g i):C8 f n=C8 g n:=by
 induction n with
 | zero=>rfl
 | succ n ih=>simp only[C8];rw[ih (λi hi=>h i (by omega)),h n (by omega)]
def LzX(u:World)(bs:List Nat)(A:Option Addr)(l:List Rat):Prop:=Lz u A l/\(∀b off,A=some ⟨b,off,none⟩->b∉bs)/\0<l.length
theorem LzX.a{u:World}{bs:List Nat}{A:Option Addr}{l:List Rat}(h:LzX u bs A l):Lz u A l:=h.1
theorem LzX.grow{u u':World}{bs:List Nat}{A:Option Addr}{l:List Rat}(h:LzX u bs A l)(hg:A4 u u'):LzX u' bs A l:=⟨h.1.grow hg,h.2⟩
theorem Cz.far{u:World}{b i:Nat}{p:Az}{q:Rat}(h:Cz u b i p q){a:Addr}(ha:b≠a.block)(v:Value):Cz (u.setCell a v) b i p q:=by
 have key:∀j,(u.setCell a v).cell? ⟨b,j,none⟩=u.cell? ⟨b,j,none⟩:=λj=>World.cell?_of_block (B85 u a v b ha);exact⟨(key _).trans h.1,(key _).trans h.2.1,(key _).trans h.2.2⟩
theorem LzX.put{u u':World}{bs:List Nat}{A:Option Addr}{l:List Rat}(h:LzX u bs A l){bl:List (Nat×TypeId×Array Value)}(hB:Bx u bl)(k:Nat){b:Nat}{t:TypeId}{cs:Array Value}(hk:bl[k]?=some (b,t,cs))(ht:b∈bs/\t≠193)(i:Nat)(vs:List Value)(hu:C2 u b i vs=u'):LzX u' bs A l:=by
 refine⟨λhn=>?_,h.2⟩;obtain⟨ba,oa,e,hb,hc⟩:=h.1 hn;have hne:ba≠b:=λe'=>h.2.1 ba oa e (e' ▸ ht.1);have hsz:∀(vs:List Value) (i:Nat) (u:World),(C2 u b i vs).heap.size=u.heap.size:=by
  intro vs
  induction vs with
  | nil=>exact λ_ _=>rfl
  | cons v vs ih=>exact λi u=>(ih (i+1) (u.setCell ⟨b,i,none⟩ v)).trans (by simp[World.setCell])
 have hcz:∀(vs:List Value) (i:Nat) (u:World) (j:Nat) (p:Az) (q:Rat),Cz u ba j p q->Cz (C2 u b i vs) ba j p q:=by
  intro vs
  induction vs with
  | nil=>exact λ_ _ _ _ _ h=>h
  | cons v vs ih=>exact λi u j p q h=>ih (i+1) (u.setCell ⟨b,i,none⟩ v) j p q (h.far (a:=⟨b,i,none⟩) hne v)
 refine⟨ba,oa,e,by rw[<-hu,hsz];exact hb,λj hj=>?_⟩;obtain⟨p,h1,h2⟩:=hc j hj;exact⟨p,h1.put hB k hk ht.2 i vs hu,by rw[<-hu];exact hcz vs i u _ p _ h2⟩
theorem LzX.lt{u:World}{bs:List Nat}{A:Option Addr}{l:List Rat}(h:LzX u bs A l):∀b off,A=some ⟨b,off,none⟩->b<u.heap.size:=λb off e=>by
 obtain⟨b',off',e',hb,_⟩:=h.1 (λh0=>by have:=h.2.2;rw[h0]at this;cases this);rw[e]at e';cases e';exact hb
theorem LzX.more{v:World}{n b:Nat}{bs:List Nat}{A:Option Addr}{l:List Rat}(h:LzX v bs A l)(hlt:∀b off,A=some ⟨b,off,none⟩->b<n)(hb:n<=b):LzX v (b::bs) A l :=
 ⟨h.1,λb' off e hm=>by
  rcases List.mem_cons.1 hm with rfl|hm
  ·have:=hlt b' off e;omega
  ·exact h.2.1 b' off e hm,h.2.2⟩
theorem LzX.addr{u:World}{bs:List Nat}{A:Option Addr}{l:List Rat}(h:LzX u bs A l):∃b off,A=some ⟨b,off,none⟩:=h.1.addr h.2.2
theorem Li.at{u:World}{A:Option Addr}{l:List Int}{i:Nat}(h:Li u A l)(hi:i<l.length):∃b off,A=some ⟨b,off,none⟩/\∀W,A4 u W->W.cell? ⟨b,off+i,none⟩=some (.int .i64 (gi l i)):=by
 obtain⟨b,off,e,-⟩:=h.cell hi;refine⟨b,off,e,λW hg=>?_⟩;obtain⟨b',o',e',hc⟩:=(h.grow hg).cell hi;rw[e]at e';cases e';exact hc
abbrev A0M(l:List Int):List Value:=l.map λx=>Value.int .i64 x
theorem B0I(y:Int)(w:World):(Instr.buildSlice 22 1 #[(0,.int .i64 y)]).run Tryz.prog w = .ok (.slice (some ⟨w.heap.size,0,none⟩) 1 1) (w.alloc (.cells #[.int .i64 y] 3)):=by
 go_simp
theorem A7r:EI 22 3 1 8:=A10 (by kernel_rfl) (by kernel_rfl) (by omega)
theorem A5A{u:World}{B n:Nat}{v:Value}{l:List Int}(h:u.ownsRow B 3 1 v n (A0M l))(hn:n=l.length):∃A c,v = .slice A n c/\n<=c/\Li u A l:=by
 subst hn;obtain⟨_,h|⟨g,cap,cur,rfl,hb,hh,hn,hc,hs,ht⟩⟩:=h
 ·obtain⟨rfl,h0⟩:=h;exact⟨none,0,by rw[h0],by omega,λhne=>absurd (B8w h0) hne⟩
 ·refine⟨_,cap,rfl,hn,λ_=>⟨g,0,rfl,L7 hh,λi x hi=>?_⟩⟩;rw[Nat.zero_add,B84 u g i cur 3 (0,0) hh];have hil:i<l.length:=(List.getElem?_eq_some_iff.1 hi).1;have h1:(cur.toList.take (l.length*1))[i]?=some (.int .i64 x):=by rw[ht,List.getElem?_map,hi];rfl
  rw[C0R,if_pos (by omega)]at h1
  simpa using h1
end Go.Proofs.YtgpglgbcobeogaaGreatDoor
namespace Go.Proofs
open Go.Shelf
def Tryz.sortQ_ren:Go.Shelf.Ren:=⟨fun|6=>157|15=>192|14=>191|28=>215|29=>164|20=>207|21=>208|22=>209|23=>210|24=>211|25=>212|26=>213|27=>214|46=>218|47=>219|48=>220|49=>221|50=>222|57=>223|n=>n,fun|22=>35|24=>48|25=>176|3=>3|39=>194|0=>0|53=>193|55=>42|4=>4|46=>264|45=>263|50=>268|5=>5|9=>9|66=>275|70=>279|76=>281|77=>282|n=>n,fun|n=>n⟩
theorem Tryz.sortQ:Go.Proofs.SlLaysF0.n6 Tryz.prog Tryz.sortQ_ren:={
 mixed:=by kernel_rfl
 f6:=⟨Tryz.f157.name,by decide,Tryz.func157.trans (congrArg some (by kernel_rfl))⟩
 f14:=⟨Tryz.f191.name,by decide,Tryz.func191.trans (congrArg some (by kernel_rfl))⟩
 f15:=Tryz.func192.trans (congrArg some (by kernel_rfl))
 f20:=⟨Tryz.f207.name,by decide,Tryz.func207.trans (congrArg some (by kernel_rfl))⟩
 f21:=⟨Tryz.f208.name,by decide,Tryz.func208.trans (congrArg some (by kernel_rfl))⟩
 f22:=⟨Tryz.f209.name,by decide,Tryz.func209.trans (congrArg some (by kernel_rfl))⟩
 f23:=⟨Tryz.f210.name,by decide,Tryz.func210.trans (congrArg some (by kernel_rfl))⟩
 f24:=⟨Tryz.f211.name,by decide,Tryz.func211.trans (congrArg some (by kernel_rfl))⟩
 f25:=⟨Tryz.f212.name,by decide,Tryz.func212.trans (congrArg some (by kernel_rfl))⟩
 f26:=⟨Tryz.f213.name,by decide,Tryz.func213.trans (congrArg some (by kernel_rfl))⟩
 f27:=⟨Tryz.f214.name,by decide,Tryz.func214.trans (congrArg some (by kernel_rfl))⟩
 f28:=Tryz.func215.trans (congrArg some (by kernel_rfl))
 f29:=Tryz.func164.trans (congrArg some (by kernel_rfl))
 f46:=⟨Tryz.f218.name,by decide,Tryz.func218.trans (congrArg some (by kernel_rfl))⟩
 f47:=Tryz.func219.trans (congrArg some (by kernel_rfl))
 f48:=Tryz.func220.trans (congrArg some (by kernel_rfl))
 f49:=⟨Tryz.f221.name,by decide,Tryz.func221.trans (congrArg some (by kernel_rfl))⟩
 f50:=⟨Tryz.f222.name,by decide,Tryz.func222.trans (congrArg some (by kernel_rfl))⟩
 f57:=⟨Tryz.f223.name,by decide,Tryz.func223.trans (congrArg some (by kernel_rfl))⟩
 t0:=Tryz.underlying0
 a0:=Tryz.isAgg0
 z0:=Tryz.sizeOf0
 v0:=Tryz.zeroValue0
 t3:=Tryz.underlying3
 a3:=Tryz.isAgg3
 z3:=Tryz.sizeOf3
 v3:=Tryz.zeroValue3
 t4:=Tryz.underlying4
 a4:=Tryz.isAgg4
 z4:=Tryz.sizeOf4
 v4:=Tryz.zeroValue4
 t5:=Tryz.underlying5
 a5:=Tryz.isAgg5
 z5:=Tryz.sizeOf5
 v5:=Tryz.zeroValue5
 t9:=Tryz.underlying9
 a9:=Tryz.isAgg9
 z9:=Tryz.sizeOf9
 v9:=Tryz.zeroValue9
 t22:=Tryz.underlying35
 a22:=Tryz.isAgg35
 z22:=Tryz.sizeOf35
 v22:=Tryz.zeroValue35
 t25:=Tryz.underlying176
 a25:=Tryz.isAgg176
 z25:=Tryz.sizeOf176
 v25:=Tryz.zeroValue176
 t39:=Tryz.underlying194
 a39:=Tryz.isAgg194
 z39:=Tryz.sizeOf194
 v39:=Tryz.zeroValue194
 t45:=Tryz.underlying263
 a45:=Tryz.isAgg263
 z45:=Tryz.sizeOf263
 v45:=Tryz.zeroValue263
 t46:=Tryz.underlying264
 a46:=Tryz.isAgg264
 z46:=Tryz.sizeOf264
 v46:=Tryz.zeroValue264
 t50:=Tryz.underlying268
 a50:=Tryz.isAgg268
 z50:=Tryz.sizeOf268
 v50:=Tryz.zeroValue268
 t53:=Tryz.underlying193
 a53:=Tryz.isAgg193
 z53:=Tryz.sizeOf193
 v53:=Tryz.zeroValue193
 t55:=Tryz.underlying42
 a55:=Tryz.isAgg42
 z55:=Tryz.sizeOf42
 v55:=Tryz.zeroValue42
 t66:=Tryz.underlying275
 a66:=Tryz.isAgg275
 z66:=Tryz.sizeOf275
 v66:=Tryz.zeroValue275
 t70:=Tryz.underlying279
 a70:=Tryz.isAgg279
 z70:=Tryz.sizeOf279
 v70:=Tryz.zeroValue279
 t76:=Tryz.underlying281
 a76:=Tryz.isAgg281
 z76:=Tryz.sizeOf281
 v76:=Tryz.zeroValue281
 t77:=Tryz.underlying282
 a77:=Tryz.isAgg282
 z77:=Tryz.sizeOf282
 v77:=Tryz.zeroValue282 }
def Tryz.cloneQ_ren:Go.Shelf.Ren:=⟨fun|41=>110|n=>n,fun|22=>35|23=>48|4=>4|n=>n,fun|n=>n⟩
theorem Tryz.cloneQ:Go.Proofs.SlLaysE0.n41 Tryz.prog Tryz.cloneQ_ren:={
 mixed:=by kernel_rfl
 f41:=⟨Tryz.f110.name,by decide,Tryz.func110.trans (congrArg some (by kernel_rfl))⟩
 t4:=Tryz.underlying4
 a4:=Tryz.isAgg4
 z4:=Tryz.sizeOf4
 v4:=Tryz.zeroValue4
 t22:=Tryz.underlying35
 a22:=Tryz.isAgg35
 z22:=Tryz.sizeOf35
 v22:=Tryz.zeroValue35 }
end Go.Proofs
namespace Go.Proofs.YtgpglgbcobeogaaGreatDoor
open Go
theorem A5b{α:Type}:∀(k:Ask α) (w:World),w.drawn<=(w.ask k).2.drawn
 | .done a,w=>B8s _
 | .ask what range k,w=>by
  unfold World.ask;simp only;split
  ·exact A5b (k 0) w
  ·exact Nat.le_of_succ_le (A5b (k ((Question.extern what range).cut (w.tape w.drawn (Question.extern what range)))) { w with drawn:=w.drawn+1 })
theorem A6r(w:World)(c:Sys):w.drawn<=(w.sys c).2.drawn:=by
 unfold World.sys;have h:=A5b (Kernel.perform c w.os) w;split
 ·exact B8s _
 ·rename_i r os w' e;rw[e]at h;exact h
theorem A7j{P:Program}{w w':World}{a:Addr}{v:Value}{b:Bool}{l:List Addr}(h:w.farStore P a v b = .ok (w',l)):w'.drawn=w.drawn:=by
 unfold World.farStore at h;split at h
 ·split at h
  ·rename_i r e;cases h;unfold World.viewStore at e;simp only[bind,Except.bind,pure,Except.pure,throw,throwThe,MonadExceptOf.throw]at e
   repeat' split at e
   all_goals first|cases e|skip
   all_goals rfl
  ·cases h
 ·cases h
theorem A9N(w:World)(a:Addr)(n:Nat):(w.freeze a n).drawn=w.drawn:=by
 unfold World.freeze;split<;>rfl
def rw'{α:Type}:Result α->World
 | .ok _ w=>w
 | .halt _ w=>w
theorem A9B{α:Type}(P:Program)(s:Sem α):∀w:World,w.drawn<=(rw' (s.run P w)).drawn:=by
 induction s with
 | pure a=>intro w;exact B8s _
 | load m a k ih =>
  intro w;unfold Sem.run;split
  ·exact ih _ w
  ·split
   ·exact ih _ w
   ·exact B8s _
 | store m a v k ih =>
  intro w
  have key:w.drawn<=(rw' (match w.cell? a with
   | some _ => if w.frozen? a then .halt (.unsupported (.unsafePointer "a write to bytes that a string shares")) w else k.run P (w.setCell a v)
   | none=>match w.farStore P a v (m == .atomic)with
    | .ok (w,_)=>k.run P w
    | .error h=>.halt h w)).drawn:=by
   split
   ·split
    ·exact B8s _
    ·exact ih (w.setCell a v)
   ·split
    ·rename_i w' l e;exact B9A (B9u (A7j e).symm) (ih _)
    ·exact B8s _
  cases v<;>first|exact B8s _|exact key
 | new o k ih=>intro w;exact ih _ { w with heap:=w.heap.push o }
 | shape r k ih=>intro w;exact ih _ w
 | freeze a n k ih=>intro w;exact B9A (B9u (A9N w a n).symm) (ih _)
 | frozen a k ih=>intro w;exact ih _ w
 | getObj r k ih =>
  intro w;unfold Sem.run;split<;>first|exact B8s _|exact ih _ w
 | setObj r o k ih =>
  intro w;unfold Sem.run;split<;>first|exact B8s _|exact ih { w with heap:=w.heap.setIfInBounds r o }
 | choose q k ih =>
  intro w;unfold Sem.run;split
  ·exact ih _ w
  ·exact Nat.le_of_succ_le (ih _ { w with drawn:=w.drawn+1 })
 | sys c k ih=>intro w;exact B9A (A6r w c) (ih _ _)
 | program k ih=>intro w;exact ih _ w
 | mark m k ih=>intro w;exact ih w
 | halt h=>intro w;exact B8s _
theorem A27{α:Type}(P:Program)(s:Sem α):∀(w:World) (es:Array Event),w.drawn<=(rw' (s.runT P w es).1).drawn:=by
 induction s with
 | pure a=>intro w es;exact B8s _
 | load m a k ih =>
  intro w es;unfold Sem.runT;split
  ·exact ih _ w _
  ·split
   ·exact ih _ w _
   ·exact B8s _
 | store m a v k ih =>
  intro w es
  have key:w.drawn<=(rw' (match w.cell? a with
   | some _ => if w.frozen? a then ((.halt (.unsupported (.unsafePointer "a write to bytes that a string shares")) w, es) : Result _ × Array Event) else k.runT P (w.setCell a v) (es.push (⟨.cell a, true, m == Mode.atomic⟩ : Event))
   | none=>match w.farStore P a v (m == Mode.atomic)with
    | .ok (w,touched)=>k.runT P w (es++touched.toArray.map λx=>(⟨.cell x,true,m == Mode.atomic⟩:Event))
    | .error h=>(.halt h w,es)).1).drawn:=by
   split
   ·split
    ·exact B8s _
    ·exact ih (w.setCell a v) _
   ·split
    ·rename_i w' l e;exact B9A (B9u (A7j e).symm) (ih _ _)
    ·exact B8s _
  cases v<;>first|exact B8s _|exact key
 | new o k ih=>intro w es;exact ih _ { w with heap:=w.heap.push o } _
 | shape r k ih=>intro w es;exact ih _ w _
 | freeze a n k ih=>intro w es;exact B9A (B9u (A9N w a n).symm) (ih _ _)
 | frozen a k ih=>intro w es;exact ih _ w _
 | getObj r k ih =>
  intro w es;unfold Sem.runT;split<;>first|exact B8s _|exact ih _ w _
 | setObj r o k ih =>
  intro w es;unfold Sem.runT;split<;>first|exact B8s _|exact ih { w with heap:=w.heap.setIfInBounds r o } _
 | choose q k ih =>
  intro w es;unfold Sem.runT;split
  ·exact ih _ w _
  ·exact Nat.le_of_succ_le (ih _ { w with drawn:=w.drawn+1 } _)
 | sys c k ih=>intro w es;exact B9A (A6r w c) (ih _ _ _)
 | program k ih=>intro w es;exact ih _ w _
 | mark m k ih=>intro w es;exact ih w _
 | halt h=>intro w es;exact B8s _
def gw:GStep->World
 | .go _ w _ | .comm _ _ _ _ w _ | .spawn _ _ w _ | .count _ w _ | .timer _ _ w _ | .alone _ _ w _ | .newcoro _ _ _ w _ | .coroswitch _ _ _ w _ | .collect _ w _ | .watch _ w _ | .ended _ w _=>w
theorem A1O(es:Array Event)(s:GStep):gw (GStep.after es s)=gw s:=by
 cases s<;>rfl
theorem S6{α:Type}{P:Program}{s:Sem α}{w:World}{x:Result α}(h:s.run P w=x):w.drawn<=(rw' x).drawn:=h ▸ A9B P s w
theorem A3m{α:Type}{P:Program}{s:Sem α}{w:World}{es:Array Event}{x:Result α×Array Event}(h:s.runT P w es=x):w.drawn<=(rw' x.1).drawn:=h ▸ A27 P s w es
theorem A6t(p:Program)(main:Bool)(fr:Frame)(cs:List Frame)(d:Option Dying)(v:Value)(w:World):gw (doReturn p main fr cs d v w)=w:=by
 unfold doReturn
 repeat' split
 all_goals rfl
theorem B7A(w:World)(fd:Nat)(t:ByteArray)(o:Outcome):w.drawn<=(gw (endWith w fd t o)).drawn:=by
 unfold endWith;have h:=A6r w (.write fd t);generalize w.sys (.write fd t)=x at h⊢;obtain⟨r,w'⟩:=x;simp only at h⊢;cases r<;>simp only<;>(repeat' split)<;>exact h
theorem B0Z(p:Program)(fr:Frame)(v:Value)(w:World):gw (endPrinting p fr v w)=w:=by
 unfold endPrinting;simp only;split<;>rfl
theorem A9G(p:Program)(fr:Frame)(cs:List Frame)(d:Option Dying)(m:String)(w:World):w.drawn<=(gw (endFatal p fr cs d m w)).drawn:=by
 unfold endFatal;simp only;split
 all_goals
  rename_i e;exact S6 e
theorem B2R(p:Program)(fr:Frame)(d:Dying)(f:Fatal)(w:World):w.drawn<=(gw (writeOn p fr d f w)).drawn:=by
 unfold writeOn;simp only;split
 ·exact B8s _
 ·split
  all_goals
   rename_i e;exact A3m e
theorem B54(p:Program)(fr:Frame)(d:Dying)(w:World):w.drawn<=(gw (die p fr d w)).drawn:=by
 unfold die;split
 ·exact B2R _ _ _ _ _
 ·split
  ·split
   ·exact B8s _
   ·exact B7A _ _ _ _
  ·simp only;split
   ·exact B8s _
   ·split
    all_goals
     rename_i e;exact S6 e
   ·rename_i t recv name _;generalize hx:Sem.runT p _ w _=x;have h:=A3m hx;obtain⟨r,es⟩:=x;simp only at h⊢;rw[A1O];split
    all_goals first|exact B8s _|exact h|(rw[B0Z];exact h)
   ·exact B8s _
theorem A2r{c:Prop}[Decidable c]{a b:GStep}{n:Nat}(ha:n<=(gw a).drawn)(hb:n<=(gw b).drawn):n<=(gw (if c then a else b)).drawn:=by
 split
 ·exact ha
 ·exact hb
theorem B1N(p:Program)(fr:Frame)(cs:List Frame)(dy:Option Dying)(d:Deferred)(w:World):w.drawn<=(gw (callDeferred p fr cs dy d w)).drawn:=by
 unfold callDeferred;refine A2r (B8s _) ?_
 ·generalize hx:Sem.runT p _ w _=x;have h:=A3m hx;obtain⟨r,es⟩:=x;simp only at h⊢;rw[A1O]
  repeat' split
  all_goals first|exact h|exact B9A h (A9G _ _ _ _ _ _)|skip
theorem B3W(p:Program)(main:Bool)(fr:Frame)(cs:List Frame)(dy:Option Dying)(w:World):w.drawn<=(gw (unwind p main fr cs dy w)).drawn:=by
 unfold unwind;split
 ·generalize hx:Sem.runT p _ w _=x;have h:=A3m hx;obtain⟨r,es⟩:=x;simp only at h⊢;rw[A1O];split<;>exact h
 ·exact B1N _ _ _ _ _ _
 ·split
  ·exact B8s _
  ·split
   ·exact B8s _
   ·split
    ·exact B8s _
    ·split
     ·split
      ·exact B8s _
      ·split
       all_goals
        rename_i e;exact S6 e
     ·split
      ·rw[B0Z];exact B8s _
      ·exact B8s _
  ·split
   ·rw[A6t];exact B8s _
   ·generalize hx:Sem.runT p _ w _=x;have h:=A3m hx;obtain⟨r,es⟩:=x;simp only at h⊢;rw[A1O];split
    ·rw[A6t];exact h
    ·exact h
    ·exact h
theorem B3c(p:Program)(fr:Frame)(cs:List Frame)(dy:Option Dying)(g:Nat)(w:World):w.drawn<=(gw (early p fr cs dy g w)).drawn:=by
 have hn:∀w:World,w.drawn<=(gw (match w.heap[g]? with
  | some (.pending c elem)=>GStep.go { frame:=fr,callers:=cs,status:=.running,dying:=dy } { w with heap:=w.heap.setIfInBounds g (.cells c elem) }
  | _ => .ended (.stuck "early: the variable does not wait" (fr.pos p)) w)).drawn := fun w => by
  split<;>exact B8s _
 unfold early;simp only
 repeat' split
 all_goals first|exact B8s _|exact hn w|exact S6 ‹Sem.run p (choose (Question.early g)) w=_›
theorem A43(p:Program)(main listen:Bool)(fr:Frame)(cs:List Frame)(dy:Option Dying)(s:Sem Next)(w:World):w.drawn<=(gw (stepG.apply p listen fr cs dy s w)).drawn:=by
 unfold stepG.apply;simp only;have h:w.drawn<=(rw' (if listen=true then s.runT p w #[]else(s.run p w,#[])).1).drawn:=by
  split
  ·exact A27 p s w #[]
  ·exact A9B p s w
 generalize (if listen=true then s.runT p w #[]else(s.run p w,#[]))=x at h⊢;obtain⟨r,es⟩:=x;simp only at h⊢;rw[A1O]
 repeat' split
 all_goals first|exact h|exact B9A h (A9G _ _ _ _ _ _)|exact B9A h (B3c _ _ _ _ _ _)|skip
theorem A95(p:Program)(main listen:Bool)(fr:Frame)(cs:List Frame)(dy:Option Dying)(w:World):w.drawn<=(gw (stepG.oper p listen fr cs dy w)).drawn:=by
 unfold stepG.oper;split
 ·exact B8s _
 ·split<;>exact A43 _ true _ _ _ _ _ _
theorem B1A(p:Program)(main listen:Bool)(fr:Frame)(cs:List Frame)(dy:Option Dying)(w:World):w.drawn<=(gw (stepG.exec p main listen fr cs dy w)).drawn:=by
  have hr : ∀ (l : Nat) (jump : Option Code) (why : String), w.drawn ≤ (gw (GStep.after (seen p fr.fn (Sem.runT p (Instr.endRound l jump) w #[]).snd) (match (Sem.runT p (Instr.endRound l jump) w #[]).fst with
        | .ok v w=>doReturn p main fr cs dy v w
        | .halt _ w=>.ended (.stuck why (fr.pos p)) w))).drawn:=λl jump why=>by
    have h:=A27 p (Instr.endRound l jump) w #[];rw[A1O];split
    · rename_i e;rw[e]at h;rw[A6t];exact h
    · rename_i e;rw[e]at h;exact h
  unfold stepG.exec;simp only;split
  case h_1=>split;exact A2r (B8s _) (B8s _);exact hr _ _ _
  case h_2=>split;exact A2r (B8s _) (B8s _);exact hr _ _ _
  case h_13 =>
    cases exitTo _ _
    · simp only[Option.elim];split;exact A2r (B8s _) (B8s _);exact hr _ _ _
    · exact B8s _
  case h_14 =>
    cases gotoIn _ _
    · simp only[Option.elim];split;exact A2r (B8s _) (B8s _);exact hr _ _ _
    · exact B8s _
  all_goals first|exact B8s _|(with_reducible exact A43 _ true _ _ _ _ _ _)|(with_reducible exact A95 _ true _ _ _ _ _)|skip
  case h_8=>split<;>exact B8s _
  case h_15 =>
    rename_i params assign body k _;have h:=A27 p (Instr.enterLoop fr.fn fr.tmps params assign body fr.roundOf) w #[];rw[A1O];split
    · rename_i e;rw[e]at h;exact B9A h (A43 _ true _ _ _ _ _ _)
    · rename_i e;rw[e]at h;exact h
  case h_18 =>
    rename_i l k _;have h:=A27 p (Instr.endLoop l) w #[];rw[A1O];split
    all_goals
      rename_i e;rw[e]at h;exact h
  case h_21 =>
    rename_i row _ _ _;cases Extern.next row
    · exact B8s _
    · exact A43 _ true _ _ _ _ _ _
  case h_22 =>
    refine A2r (B8s _) ?_;split
    all_goals
      rename_i e;exact S6 e
  case h_24=>split;exact A95 _ true _ _ _ _ _;exact B8s _
theorem B52(p:Program)(main:Bool)(g:Goroutine)(w:World)(listen:Bool):w.drawn<=(gw (stepG p main g w listen)).drawn:=by
 unfold stepG;split;split
 ·exact B54 _ _ _ _
 ·exact B1A _ _ _ _ _ _ _
 ·exact B3W _ _ _ _ _ _
def Nd(n:Nat):Stepped->Prop
 | .next m=>n<=m.world.drawn
 | _=>True
theorem Nd.weak{n k:Nat}(h:n<=k):∀ {s:Stepped},Nd k s->Nd n s
 | .next _,e=>B9A h e
 | .ended _ _,_=>trivial
theorem A9y(p:Program)(gs:Array Goroutine)(rest:Rest)(w:World):Nd w.drawn (look p gs rest w):=by
 unfold look;split
 ·simp only;split
  ·exact trivial
  ·split
   ·exact trivial
   ·split
    ·rename_i e;exact S6 e
    all_goals exact trivial
 ·exact trivial
theorem B6y(p:Program)(m:Machine)(k:Nat):Nd m.world.drawn (serve p m k):=by
 unfold serve;split
 ·exact trivial
 ·exact B8s _
 ·simp only;split
  ·exact trivial
  ·exact B8s _
theorem B4u{rest:Rest}{cases:Array CommCase}{w w':World}(h:waitingAt rest cases w=some w'):w'.drawn=w.drawn:=by
 unfold waitingAt at h;split at h
 ·split at h
  ·cases h;rfl
  ·cases h
 ·cases h;rfl
theorem B1M(w:World)(c:Nat):(drain w c).2.drawn=w.drawn:=by
 unfold drain;split<;>rfl
theorem A9Z(m:Machine)(k:Nat)(t:Timer)(a b:Nat):(retime m k t a b).2.world.drawn=m.world.drawn:=by
 unfold retime;split;rename_i e;split at e
 ·have h:=B1M m.world ‹Nat›
  rw[e]at h;exact h
 ·cases e;rfl
theorem B5C(p:Program)(rest:Rest)(gs:Array Goroutine)(i:Nat)(g:Goroutine)(cases:Array CommCase)(blocking:Bool)(shape:CommShape)(w:World):Nd w.drawn (communicate p rest gs i g cases blocking shape w).1:=by
 unfold communicate;simp only;split
 ·exact trivial
 ·split
  ·split
   ·split
    ·rename_i e;exact B9u (B4u e).symm
    ·exact trivial
   ·exact B8s _
  ·split
   ·exact trivial
   ·rename_i e;have h:=S6 e;clear e;split
    ·split
     ·rename_i e;exact B9A h (S6 e)
     ·exact trivial
    ·exact h
    ·exact h
    ·split
     ·exact h
     ·split
      ·rename_i e;exact B9A h (S6 e)
      ·exact trivial
    ·exact h
    ·exact h
    ·exact trivial
theorem B0G{m:Machine}{var:Addr}{f:Nat->Timer->Value×Machine}(hf:∀k t,(f k t).2.world.drawn=m.world.drawn){v:Value}{m':Machine}(m0:Machine)(h:timerOp.named m0 var f = .ok (v,m')):m'.world.drawn=m.world.drawn:=by
 unfold timerOp.named at h;split at h
 ·injection h with h;have:=hf ‹Nat› (m0.rest.timers.getD ‹Nat› default);rw[h]at this;exact this
 ·cases h
theorem B5U{m m':Machine}{var:Addr}(h:timerOp.opened m var=some m'):m'.world.drawn=m.world.drawn:=by
 unfold timerOp.opened at h;split at h
 ·split at h
  ·cases h;rfl
  ·cases h
 ·cases h;rfl
theorem B6I{m m':Machine}{op:TimerOp}{v:Value}(h:timerOp m op = .ok (v,m')):m'.world.drawn=m.world.drawn:=by
 unfold timerOp at h;split at h
 ·split at h
  ·cases h;rfl
  ·split at h
   ·split at h
    ·cases h
    ·cases h;rfl
   ·cases h
 ·exact B0G (m:=m) (λk t=>A9Z _ _ _ _ _) _ h
 ·split at h
  ·rename_i m1 e;exact(B0G (m:=m1) (λk t=>A9Z _ _ _ _ _) _ h).trans (B5U e)
  ·cases h
 ·cases h;rfl
theorem A7c{fr:Frame}{s:String}{w w':World}{g:Goroutine}{es:Array Event}(h:endThrow fr s w = .go g w' es):w'.drawn=w.drawn:=by
 cases h;rfl
theorem B32(p:Program)(m:Machine)(i:Nat)(listen:Bool):Nd m.world.drawn (Go.runT p m i listen).1:=by
 unfold Go.runT;simp only;have hs:∀(g:Goroutine) (s:GStep),stepG p (i == 0) g m.world listen=s->m.world.drawn<=(gw s).drawn:=λg s e=>e ▸ B52 p (i == 0) g m.world listen;split
 all_goals
  rename_i e;have h:=hs _ _ e;clear hs e
 ·exact trivial
 ·exact Nd.weak h (B5C _ _ _ _ _ _ _ _ _)
 ·exact h
 ·exact h
 ·simp only;split
  ·exact trivial
  ·exact h
 ·exact h
 ·exact Nd.weak h (A9y _ _ _ _)
 ·exact h
 ·exact h
 ·simp only;split
  ·exact h
  ·split
   ·rename_i e2;exact B9A h (B9u (A7c e2).symm)
   ·exact trivial
  ·exact trivial
 ·simp only;split
  ·rename_i e;exact B9A h (B9u (B6I e).symm)
  ·split
   ·rename_i e2;exact B9A h (B9u (A7c e2).symm)
   ·exact trivial
  ·exact trivial
  ·exact trivial
def Md(n:Nat):_root_.Go.Move->Prop
 | .goroutine m _=>n<=m.world.drawn
 | .machine s _=>Nd n s
theorem Md.weak{n k:Nat}(h:n<=k):∀ {s:_root_.Go.Move},Md k s->Md n s
 | .goroutine _ _,e=>B9A h e
 | .machine _ _,e=>Nd.weak h e
theorem A6E(p:Program)(m:Machine):Md m.world.drawn (askOn p m):=by
  unfold askOn;simp only;split
  · exact trivial
  · rename_i k w e
    have h:=S6 e;split
    · exact Nd.weak h (B6y _ _ _)
    · split
      · split
        · exact h
        · split
          · exact h
          · repeat' split
            all_goals exact trivial
      · have A1R : ∀ m' : Machine, m.world.drawn ≤ m'.world.drawn → Md m.world.drawn (match (choose (.sched (runnable m.gs m.world.os.mono).length)).run p m'.world with
            | .halt _ w => .machine (.ended (.stuck "sched" "") w)
            | .ok k world =>
              if (runnable m.gs m.world.os.mono).length<=1 then .goroutine { m' with world } ((runnable m.gs m.world.os.mono).getD k 0)else
              match (choose (.extern "sched.slice" 65536)).run p world with
              | .halt _ w => .machine (.ended (.stuck "sched.slice" "") w)
              | .ok n world=>.goroutine { m' with world,rest:={ m'.rest with slice:=if n=0 then none else some ((runnable m.gs m.world.os.mono).getD k 0,n) } } ((runnable m.gs m.world.os.mono).getD k 0)):=λm' hm=>by
          split
          · exact trivial
          · rename_i e1
            have h1:=B9A hm (S6 e1);split
            · exact h1
            · split
              · exact trivial
              · rename_i e2
                exact B9A h1 (S6 e2)
        split
        · exact A1R { m with world:=w } h
        · split
          · exact trivial
          · rename_i e1
            have h1:=B9A h (S6 e1);exact A1R { m with world:=‹World› } h1
          · rename_i e1
            exact B9A h (S6 e1)
          · rename_i e1
            have h1:=B9A h (S6 e1);exact A1R _ h1
theorem A8W(p:Program)(m:Machine):Md m.world.drawn (Go.ask p m):=by
 unfold Go.ask;split
 ·split
  ·exact trivial
  ·rename_i e;have h:=S6 e;have hl:=A9y p m.gs m.rest ‹World›
   split
   ·rename_i e2;rw[e2]at hl;exact Md.weak (B9A h hl) (A6E _ _)
   ·exact Nd.weak h hl
  ·rename_i e;exact Md.weak (S6 e) (A6E _ _)
 ·exact A6E _ _
theorem B60(p:Program)(m:Machine):Md m.world.drawn (Go.move p m):=by
 unfold Go.move;split
 ·split
  ·exact B8s _
  ·exact trivial
 ·split
  ·split
   ·exact B8s _
   ·exact A8W _ _
  ·exact A8W _ _
theorem B1v(p:Program)(m:Machine):Nd m.world.drawn (Go.step p m):=by
 unfold Go.step stepT;have h:=B60 p m;split
 ·rename_i e;rw[e]at h;exact Nd.weak h (B32 _ _ _ _)
 ·rename_i e;rw[e]at h;exact h
theorem B0a(p:Program):∀(n:Nat) (m:Machine),Nd m.world.drawn (runN p n m)
 | 0,m=>B8s _
 | n+1,m=>by
  unfold runN;have h:=B1v p m;split
  ·rename_i e;rw[e]at h;exact Nd.weak h (B0a p n _)
  ·exact h
theorem A7w{P:Program}{m m':Machine}(h:Steps P m m'):m.world.drawn<=m'.world.drawn:=by
 obtain⟨n,e⟩:=h;have:=B0a P n m;rw[e]at this;exact this
theorem B4k{P:Program}{m m':Machine}{e:Ending}(h:Comes P m m' e)(he:e ≠ .outgrown):m.world.drawn<=m'.world.drawn:=by
 cases e with
 | returned v=>exact A7w h
 | panicked chain=>exact A7w h
 | outgrown=>exact absurd rfl he
theorem B4I{P:Program}{f:FuncId}{args:Array Value}{w:World}{R:Ending->World->Prop}(h:Calls P f args w R) :
  Calls P f args w λe w'=>R e w'/\(e ≠ .outgrown->w.drawn<=w'.drawn) :=
 λcs=>let ⟨e,w',fr,r,hc,rest⟩:=h cs;⟨e,w',fr,⟨r,λhe=>B4k hc he⟩,hc,rest⟩
open Go.RowKit
theorem B41{W w':World}(h:A4 W w')(hd:W.drawn<=w'.drawn):∃q os,w'=Go.Sort.grow (W.drewN q) os:=by
 refine⟨w'.drawn-W.drawn,w'.heap.extract W.heap.size w'.heap.size,?_⟩;have hh:w'.heap=W.heap++w'.heap.extract W.heap.size w'.heap.size:=by
  apply Array.ext_getElem?;intro i;rw[Array.getElem?_append];split
  ·rename_i hi;exact h.block i hi
  ·rename_i hi;rw[Array.getElem?_extract];split
   ·rw[show W.heap.size+(i-W.heap.size)=i by omega]
   ·rename_i hj;rw[Array.getElem?_eq_none];have:=h.size;omega
 have e1:=h.os;have e2:=h.tape;have e3:=h.output;cases W;cases w';simp only at *;subst e1 e2 e3;simp only[Go.Sort.grow,World.drewN,World.mk.injEq,true_and,and_true];exact⟨hh,by omega⟩
theorem B6U{P:Program}{f:FuncId}{args:Array Value}{w:World}{v:Value}(h:Calls P f args w λe w'=>e = .returned v/\A4 w w') :
  Calls P f args w λe w'=>e = .returned v/\∃q os,w'=Go.Sort.grow (w.drewN q) os :=
 (B4I h).mono λe w' ⟨⟨he,hg⟩,hd⟩=>⟨he,B41 hg (hd (by rw[he];intro h;cases h))⟩
end Go.Proofs.YtgpglgbcobeogaaGreatDoor
namespace Go.Proofs.YtgpglgbcobeogaaGreatDoor
open Go Go.RowKit Go.Sort Go.Shelf
abbrev Bq(s:Nat):={x:Rat // qs x<=s+qs 0}
instance (s:Nat):Inhabited (Bq s):=⟨⟨0,Nat.le_add_left _ _⟩⟩
abbrev O2(s:Nat)(x:Bq s):List Value:=qL x.1
abbrev cfB(s:Nat)(x y:Bq s):Int:=E9 x.1 y.1
theorem ltB(s:Nat)(x y:Bq s):ltOf (cfB s) x y=decide (x.1<y.1):=by
 unfold ltOf cfB E9;by_cases h1:x.1<y.1
 ·simp[h1]
 ·by_cases h2:y.1<x.1<;>simp[h1,h2]
theorem B1J(s:Nat):SWO (ltOf (cfB s)) where
 irrefl x:=by rw[ltB];exact B92 (Rat.not_lt.2 C04)
 trans x y z h1 h2:=by
  rw[ltB]at *;exact B9x (C0w λh=>Rat.not_lt.2 (C05 (Rat.le_of_lt (B9w h2)) (Rat.not_lt.1 h)) (B9w h1))
 ntrans x y z h1 h2:=by
  rw[ltB]at *;exact B92 (Rat.not_lt.2 (C05 (Rat.not_lt.1 (B90 h2)) (Rat.not_lt.1 (B90 h1))))
theorem B15(s:Nat)(hB:s+qs 0+(s+qs 0)+1<=BIG)(blk off size:Nat)(w:World):CmpLays Tryz.prog 30 #[] (O2 s) 5 (cfB s) blk off size w :=
 λ_ _ _ _ x y=>B6U (W8 x.1 y.1 _ (by have:=x.2;have:=y.2;omega))
theorem B7E(s:Nat)(hB:s+qs 0+(s+qs 0)+1<=BIG)(blk off cap:Nat)(d:Array (Bq s))(w:World)(hH:HoldsK (O2 s) 5 w blk off d)(hblk:blk<w.heap.size)(hsz:d.size<4611686018427387904) :
  Calls Tryz.prog 157 #[.slice (some ⟨blk,off,none⟩) d.size cap,.func (.func 30) #[] #[]] w λe w' =>
   e = .returned (.tuple #[])/\∃d' n os,PermIn 0 d.size d d'/\SortedIn (ltOf (cfB s)) 0 d.size d'/\w'=sortWorldK (O2 s) 5 w blk off n d' os :=
 AnyQ.slices_SortFunc Tryz.sortQ 5 Tryz.isAgg48 Tryz.sizeOf48 (O2 s) (λ_=>rfl) (λx v hv=>by simp[O2,qL]at hv;rcases hv with rfl|rfl|rfl|rfl|rfl<;>rfl) (cfB s) (B1J s) 30 #[] blk off cap d w
  (enters_of Tryz.func30 (by kernel_rfl) rfl) (B15 s hB blk off d.size w) hH hblk hsz
def toB(s:Nat)(l:List Rat)(h:∀x∈l,qs x<=s):Array (Bq s):=(l.attach.map λx=>(⟨x.1,B9A (h x.1 x.2) (Nat.le_add_right _ _)⟩:Bq s)).toArray
theorem A5V(s:Nat)(l:List Rat)(h:∀x∈l,qs x<=s):(toB s l h).toList.map (·.1)=l:=by
 unfold toB;simp only[List.map_map];exact(C0u λa _=>rfl).trans (List.attach_map_subtype_val l)
theorem A22(s:Nat)(l:List Rat)(h:∀x∈l,qs x<=s):(toB s l h).size=l.length:=by
 unfold toB;simp
theorem B8Y(s:Nat)(l:List Rat)(h:∀x∈l,qs x<=s){i:Nat}{q:Rat}(hi:l[i]?=some q):((toB s l h)[i]!).1=q:=by
 have hl:i<l.length:=(List.getElem?_eq_some_iff.1 hi).1;have e:=C0T (·[i]?) (A5V s l h);simp only[List.getElem?_map,hi]at e;rw[getElem!_pos _ i (by rw[A22];exact hl)];rw[Array.getElem?_toList,Array.getElem?_eq_getElem (by rw[A22];exact hl)]at e
 simpa using e
theorem B8F{s:Nat}{w:World}{b:Nat}{d:Array (Bq s)}(hc:∀i,i<d.size->∀j v,(qL (d[i]!).1)[j]?=some v->w.cell? ⟨b,0+i*5+j,none⟩=some v)(hf:∀i,w.frozen? ⟨b,i,none⟩=false):HoldsK (O2 s) 5 w b 0 d:=by
 intro t ht;rw[size_flatK]at ht;refine⟨?_,hf _⟩;rw[get_flatK _ _ _ _ ht];have hlt:t/5<d.size:=by omega
 have h5:t%5<(O2 s d[t/5]!).length:=by show t%5<5;omega
 have:=hc (t/5) hlt (t%5) _ (B9Y h5);rw[show 0+t/5*5+t%5=0+t by omega]at this;rw[this];exact C0T some (getElem!_pos (O2 s d[t/5]!) (t%5) h5).symm
theorem B8N{s:Nat}{w:World}{b:Nat}{d:Array (Bq s)}(h:HoldsK (O2 s) 5 w b 0 d)(hb:b<w.heap.size):Lq w (some ⟨b,0,none⟩) (d.toList.map (·.1)):=λ_=>by
 refine⟨b,0,rfl,hb,λi q hi j v hj=>?_⟩;rw[List.getElem?_map,Array.getElem?_toList]at hi;have hil:i<d.size:=by
  refine C0w λhh=>?_;rw[Array.getElem?_eq_none (by omega)]at hi;cases hi
 have hj5:j<5:=(List.getElem?_eq_some_iff.1 hj).1;have ht:i*5+j<(flatK (O2 s) 5 d).size:=by rw[size_flatK];omega
 have h1:=(h (i*5+j) ht).1;rw[get_flatK _ _ _ _ (by omega),show(i*5+j)/5=i by omega,show(i*5+j)%5=j by omega,getElem!_pos d i hil]at h1;rw[Array.getElem?_eq_getElem hil]at hi;simp only[Option.map_some,Option.some.injEq]at hi;rw[<-hi]at hj;rw[show 0+i*5+j=0+(i*5+j)by omega,h1];have hjl:j<(O2 s d[i]).length:=hj5;rw[getElem!_pos _ j hjl];rw[B9Y hjl]at hj;exact hj
theorem B7O{s:Nat}{d d':Array (Bq s)}(hp:PermIn 0 d.size d d')(hs:SortedIn (ltOf (cfB s)) 0 d.size d'):(d'.toList.map (·.1)).Perm (d.toList.map (·.1))/\(d'.toList.map (·.1)).Pairwise (· <= ·):=by
 obtain⟨h1,-,h2⟩:=hp;constructor
 ·rw[<-h1]at h2;have e1:d'.extract 0 d'.size=d':=by simp
  have e2:d.extract 0 d'.size=d:=by rw[h1];simp
  rw[e1,e2]at h2;exact h2.map _
 ·rw[List.pairwise_iff_getElem];intro i j hi hj hij;simp only[List.length_map,Array.length_toList]at hi hj;have h3:=hs i j (B9a _) hij (by omega);rw[ltB,getElem!_pos d' i hi,getElem!_pos d' j hj]at h3;simp only[List.getElem_map,Array.getElem_toList];exact Rat.not_lt.1 (B90 h3)
def W9(l:List Rat):List Rat:=l.mergeSort λa b=>decide (a<=b)
theorem A3X(l:List Rat):(W9 l).Perm l:=List.mergeSort_perm l _
theorem A7t(l:List Rat):(W9 l).Pairwise (· <= ·):=by
 have h:=List.pairwise_mergeSort (le:=λa b:Rat=>decide (a<=b)) (λa b c h1 h2=>B9x (C05 (B9w h1) (B9w h2))) (λa b=>by
  by_cases h:a<=b
  ·simp[h]
  ·simp[Rat.le_of_lt (Rat.not_le.1 h)]) l
 exact h.imp λh=>B9w h
theorem B3M{l l':List Rat}(h1:l'.Perm l)(h2:l'.Pairwise (· <= ·)):l'=W9 l :=
 List.Perm.eq_of_pairwise (le:=λa b:Rat=>a<=b) (λa b _ _ h1 h2=>Rat.le_antisymm h1 h2) h2 (A7t l) (h1.trans (A3X l).symm)
end Go.Proofs.YtgpglgbcobeogaaGreatDoor
