import Derived.Test.YtgpglgbcobeogaaGreatDoorL25
set_option linter.unusedSimpArgs false
set_option linter.unusedVariables false
set_option maxRecDepth 100000
namespace Go.Proofs.YtgpglgbcobeogaaGreatDoor
open Go.RowKit
def Li(u:World)(A:Option Addr)(l:List Int):Prop :=
 l≠[]->∃b off,A=some ⟨b,off,none⟩/\b<u.heap.size/\∀i x,l[i]?=some x->u.cell? ⟨b,off+i,none⟩=some (.int .i64 x)
theorem Li.nil(u:World)(A:Option Addr):Li u A []:=λh=>absurd rfl h
theorem Li.grow{u u':World}{A:Option Addr}{l:List Int}(h:Li u A l)(hg:A4 u u'):Li u' A l:=λhn=>by
 obtain⟨b,off,e,hb,hc⟩:=h hn;exact⟨b,off,e,B8X hb hg.size,λi x hi=>(hg.cell (p:=⟨b,off+i,none⟩) hb).trans (hc i x hi)⟩
def gi(l:List Int)(i:Nat):Int:=(l[i]?).getD 0
theorem A6h{l:List Int}{i:Nat}(h:i<l.length):l[i]?=some (gi l i):=by
 unfold gi;rw[B8i h];rfl
theorem Li.cell{u:World}{A:Option Addr}{l:List Int}(h:Li u A l){i:Nat}(hi:i<l.length):∃b off,A=some ⟨b,off,none⟩/\u.cell? ⟨b,off+i,none⟩=some (.int .i64 (gi l i)):=by
 obtain⟨b,off,e,hb,hc⟩:=h (λh0=>by rw[h0]at hi;cases hi);exact⟨b,off,e,hc i _ (A6h hi)⟩
def cnt(t:Nat->Bool):Nat->Nat
 | 0=>0
 | n+1=>cnt t n+(if t n then 1 else 0)
def A3u(b2 b3:Nat)(A B:Option Addr)(m c d:Nat)(l l':List Int)(W:World):Prop :=
 Blk W b2 22 #[.slice A m c]/\Blk W b3 22 #[.slice B m d]/\Li W A l/\Li W B l'
theorem A3u.mk{b2 b3:Nat}{A B:Option Addr}{m c d:Nat}{l l':List Int}{u:World}(h1:Blk u b2 22 #[.slice A m c])(h2:Blk u b3 22 #[.slice B m d])(h3:Li u A l)(h4:Li u B l'):A3u b2 b3 A B m c d l l' u:=⟨h1,h2,h3,h4⟩
theorem A3u.grow{b2 b3:Nat}{A B:Option Addr}{m c d:Nat}{l l':List Int}{u u':World}(hg:A4 u u')(h:A3u b2 b3 A B m c d l l' u):A3u b2 b3 A B m c d l l' u':=⟨h.1.grow hg,h.2.1.grow hg,h.2.2.1.grow hg,h.2.2.2.grow hg⟩
end Go.Proofs.YtgpglgbcobeogaaGreatDoor
namespace Go.Proofs.YtgpglgbcobeogaaGreatDoor
open Go.ChangeShapes Go.WideShapes Go.ChangeAt Go.RowKit
theorem B4t:ownKnob Tryz.prog.godebug=none:=by kernel_rfl
theorem B7p:laidOutB Tryz.prog=true:=by kernel_rfl
theorem A92:Tryz.prog.cellsOf 3=1:=by kernel_rfl
theorem A91{H:Type}{enc:TypeId×Value->H}{W W':World}(hb:Below W.heap.size W W'):∀ {ts:List TypeId} {vs:List Value} {ds:List (DataW H)} {ps:List MemPlace},(∀t∈ts,Tryz.prog.readableRec t=true/\t<Tryz.prog.types.size)->(∀x∈ps,x.block<W.heap.size) ->
  DataW.TrodAll enc Tryz.prog W 0 (λ_=>true) true ts vs ds ps->DataW.TrodAll enc Tryz.prog W' 0 (λb=>decide (b<W.heap.size)) true ts vs ds ps
 | [],vs,ds,ps,_,_,h=>by
  obtain⟨rfl,rfl,rfl⟩:=trodAll_nil h;exact trodAll_mk0
 | t::ts,vs,ds,ps,ht,hlt,h=>by
  obtain⟨v,vs1,d,ds1,a,b,rfl,rfl,rfl,h1,h2⟩:=B90 h;obtain⟨r1,r2⟩:=ht t (by simp);exact⟨a,b,Below.trod B7p r1 r2 h1 hb (λx hx=>hlt x (by simp[hx])),A91 hb (λt ht'=>ht t (by simp[ht'])) (λx hx=>hlt x (by simp[hx])) h2,rfl⟩
theorem B7O{H:Type}{enc:TypeId×Value->H}{f:Func}{s:ChangeSpec}{apart:Bool}{W W':World}{args:Array Value}{ds gs:List (DataW H)}{before:List MemPlace}
  (hW:DataW.Whole enc Tryz.prog f.params.toList s.vars apart W args.toList ds gs before) (hv:s.vars=[]) (hf1:(s.fn H (ds++gs)).results=[.lit (.bool true)]) (hf2:(s.fn H (ds++gs)).args=ds) (hf3:(s.fn H (ds++gs)).vars=[]) (hr:f.resultTypes=#[4])
  (hp:∀t∈f.params.toList,Tryz.prog.readableRec t=true/\t<Tryz.prog.types.size) (hb:Below W.heap.size W W'):s.post enc Tryz.prog f apart true false false W args (.bool true) W':=by
 have hlt:=hW.lt;have hW2:=hW;obtain⟨p,q,hA,hV,rfl,hz,hn⟩:=hW;refine⟨ds,gs,p++q,[],p,[],hW2,?_,?_,?_,?_,λh=>by cases h⟩
 ·rw[hf1,hr];exact trodAll_cons_mk (shut_bool B91 _) trodAll_mk0
 ·rw[hf2];exact A91 hb hp (λx hx=>hlt x (by simp[hx])) hA
 ·rw[hf3,hv];rfl
 ·exact hb.frame _
theorem B3Z{H:Type}{enc:TypeId×Value->H}{W:World}{base:Nat}{v:Value}{d:DataW H}{p:List MemPlace}(hval:Value.okWide Tryz.prog W .any base 22 v)(h:DataW.Trod enc Tryz.prog W 0 (λ_=>true) true 22 v d p) :
  ∃(A:Option Addr) (l:List Int) (c:Nat),v = .slice A l.length c/\Li W A l/\l.length<=9223372036854775807/\∀x∈l,-9223372036854775808<=x/\x<=9223372036854775807:=by
 obtain⟨a0,len,cap,rfl⟩:=okWide_slice B92 hval;obtain⟨fuel,hf⟩:=h;rcases open_ints B92 B93 A92 hf with⟨hcs,hx⟩|⟨a,len',cap',zs,hcs,_,hl,hm,hz,hx,hcell,hwz⟩
 ·simp[Value.cells]at hcs;obtain⟨rfl,rfl,rfl⟩:=hcs;exact⟨none,[],0,rfl,Li.nil _ _,by simp,λx hx=>by cases hx⟩
 ·simp[Value.cells]at hcs;obtain⟨rfl,rfl,rfl⟩:=hcs;simp only[if_true]at hz;have hlen:(zs.take len).length=len:=by simp;omega
  refine⟨some a,zs.take len,cap,by rw[hlen],λhne=>?_,by rw[hlen];unfold maxLen at hm;omega,λx hx=>bounds_i64 (hwz x (B8p hx))⟩;have h0:0<zs.length:=by
   have:0<(zs.take len).length:=List.length_pos_iff.2 hne;omega
  obtain⟨b,off,rfl,hc⟩:=ints_at hcell h0;have hb:b<W.heap.size:=World.block_lt_of_cell? W _ (hc 0 h0);refine⟨b,off,rfl,hb,λi x hi=>?_⟩;have hi2:i<(zs.take len).length:=(List.getElem?_eq_some_iff.1 hi).1;have hi3:zs[i]?=some x:=by
   rw[B9b]at hi;split at hi
   ·exact hi
   ·cases hi
  rw[hc i (by rw[hlen]at hi2;omega)];simp[List.getD,hi3]
def A6z:List Int:=[0,1,56,2,57,49,28,3,61,58,42,50,38,29,17,4,62,47,59,36,45,43,51,22,53,39,33,30,24,18,12,5,63,55,48,27,60,41,37,16,46,35,44,21,52,32,23,11,54,26,40,15,34,20,31,10,25,14,19,9,13,8,7,6]
theorem B4A:∀j,j<64->A6z.getD j 0=((Lib.deBruijn64tab.getD j 0:Nat):Int):=by decide
theorem B6Z:(Tryz.prog.globals[2]?).map (·.type)=some 271:=by kernel_rfl
theorem B1x:Tryz.prog.cellsOf 271=64:=by kernel_rfl
theorem B41:Tryz.prog.cellsOf 5=1:=by kernel_rfl
theorem B2f{W:World}{name:String}(hg:Tryz.prog.globalNamed name=some 2)(h:laidMetH Tryz.prog [(name,Lib.tabData .u8 A6z)] W):Tab W:=λj hj=>by
 have h1:=(Lib.tabIs_of_head (rest:=[]) hg B6Z Tryz.underlying271 B94 B41 B1x h).cell hg j (by show j<64;exact hj);rw[B4A j hj]at h1;exact h1
noncomputable def laidWorld (os:Os):World :=
 { World.holding Tryz.prog os ⟨#[],#[],[]⟩with heap:=(World.holding Tryz.prog os ⟨#[],#[],[]⟩).heap.modify 2 fun
   | .cells _ t frozen=>.cells (A6z.map λx=>Value.int .u8 x).toArray t frozen
   | o=>o }
end Go.Proofs.YtgpglgbcobeogaaGreatDoor
namespace Go.Proofs.YtgpglgbcobeogaaGreatDoor
open Go.RowKit
abbrev Rw:=Option Addr×Nat×List Int
def A46(u:World)(A:Option Addr)(rs:List Rw):Prop :=
 rs≠[]->∃b off,A=some ⟨b,off,none⟩/\b<u.heap.size/\∀i r,rs[i]?=some r->u.cell? ⟨b,off+i,none⟩=some (.slice r.1 r.2.2.length r.2.1)/\Li u r.1 r.2.2
theorem A46.grow{u u':World}{A:Option Addr}{rs:List Rw}(h:A46 u A rs)(hg:A4 u u'):A46 u' A rs:=λhn=>by
 obtain⟨b,off,e,hb,hc⟩:=h hn;exact⟨b,off,e,B8X hb hg.size,λi r hi=>⟨(hg.cell (p:=⟨b,off+i,none⟩) hb).trans (hc i r hi).1,(hc i r hi).2.grow hg⟩⟩
def T9(l:List Int):Array Value:=(l.map λx=>Value.int .i64 x).toArray
theorem A5k(l:List Int)(i:Nat):(T9 l)[i]?=(l[i]?).map λx=>Value.int .i64 x:=by
 unfold T9;simp
theorem B0E(l:List Int)(i:Nat)(y:Int):(T9 l).setIfInBounds i (.int .i64 y)=T9 (l.set i y):=by
 unfold T9;rw[List.setIfInBounds_toArray,List.map_set]
theorem B5y{u:World}{b:Nat}{l:List Int}(h:Blk u b 3 (T9 l)):Li u (some ⟨b,0,none⟩) l:=λ_ =>
 ⟨b,0,rfl,h.lt,λi x hi=>by rw[Nat.zero_add,h.cell,A5k,hi];rfl⟩
theorem B1z:(Tryz.prog.info? 3).map (λi=>(i.zero,i.size,i.bytes))=some (some (.int .i64 0),1,8):=by kernel_rfl
theorem B3R(n:Nat):madeCells (Value.int .i64 0).cells (n*1)=T9 (List.replicate n 0):=by
 unfold T9 madeCells;refine Array.ext (by simp) λi h1 h2=>?_;simp[Value.cells,Nat.mod_one]
theorem B2g(n:Nat)(hn:n<=1099511627776)(x:Int)(hx:x=n)(W:World):(Instr.makeSlice 22 (.int .i64 x) (.int .i64 x)).run Tryz.prog W =
  .ok (.slice (some ⟨W.heap.size,0,none⟩) n n) (W.alloc (.cells (T9 (List.replicate n 0)) 3)):=by
 obtain⟨i0,hi0,hz0,hz1,hz2⟩:=B8d B1z;have hr:=run_make (P:=Tryz.prog) W 22 3 i0 (.int .i64 0) B92 hi0 hz0 .i64 .i64 n n (by omega) (by omega) (by rw[hz2];omega) (by omega);rw[hx];rw[hr,hz1];simp only[Int.toNat_natCast];rw[B3R]
def A2C(l:List Value):Array Value:=l.toArray
def A1p(l l':List Int)(r i j:Nat):Int:=(cnt (λs=>gi l s == (i:Int)&&gi l' s == (j:Int)) r:Nat)
def A0y(l l':List Int)(r k i:Nat):List Int:=(List.range k).map (A1p l l' r i)
theorem A9G(l l':List Int)(r i j:Nat):A1p l l' (r+1) i j=A1p l l' r i j+if gi l r=(i:Int)/\gi l' r=(j:Int)then 1 else 0:=by
 unfold A1p;simp only[cnt];by_cases h:gi l r=(i:Int)/\gi l' r=(j:Int)
 ·rw[if_pos h,if_pos (by simp[h.1,h.2])];omega
 ·rw[if_neg h,if_neg (by simpa using h)];omega
theorem B7V(l l':List Int)(r k i j:Nat)(h1:gi l r=(i:Int))(h2:gi l' r=(j:Int)):(A0y l l' r k i).set j (A1p l l' r i j+1)=A0y l l' (r+1) k i:=by
 unfold A0y;refine B8I (by simp) λt g1 g2=>?_;rw[B95];simp only[List.getElem_map,List.getElem_range,A9G,h1,h2,true_and];by_cases e:j=t
 ·subst e;simp
 ·rw[if_neg e,if_neg (by omega)];omega
theorem B2V(l l':List Int)(r k i:Nat)(h1:gi l r≠(i:Int)):A0y l l' r k i=A0y l l' (r+1) k i:=by
 unfold A0y;refine B96 λt _=>?_;rw[A9G,if_neg (λh=>h1 h.1)];omega
def A3D(B0 k i:Nat):Value:=.slice (some ⟨B0+1+i,0,none⟩) k k
def A1u(B0 k i:Nat):List Value:=(List.range i).map (A3D B0 k)++List.replicate (k-i) (.slice none 0 0)
theorem B03(B0 k:Nat){i:Nat}(h:i<k):(A1u B0 k i).set i (A3D B0 k i)=A1u B0 k (i+1):=by
 unfold A1u;rw[List.set_append_right _ _ (by simp),List.length_map,List.length_range,B8g];obtain⟨m,hm⟩:∃m,k-i=m+1:=⟨k-i-1,by omega⟩
 rw[hm,show k-(i+1)=m by omega,B9J,List.map_append,B8e];rfl
theorem B52(B0 k:Nat){i:Nat}(h:i<k):(A1u B0 k k)[i]?=some (A3D B0 k i):=by
 unfold A1u;simp[h]
theorem B2m(l:List Value)(i:Nat):(A2C l)[i]?=l[i]?:=by unfold A2C;simp
theorem B6e(l:List Value)(i:Nat)(v:Value):(A2C l).setIfInBounds i v=A2C (l.set i v):=by
 unfold A2C;rw[List.setIfInBounds_toArray]
def A6j(B0 k i:Nat)(wr:World):Prop:=wr.heap.size=B0+1+i/\Blk wr B0 22 (A2C (A1u B0 k i))/\∀j,j<i->Blk wr (B0+1+j) 3 (T9 (List.replicate k 0))
def A3i(B0 k:Nat)(l l':List Int)(r:Nat)(wr:World):Prop:=Blk wr B0 22 (A2C (A1u B0 k k))/\∀j,j<k->Blk wr (B0+1+j) 3 (T9 (A0y l l' r k j))
theorem A68(u:World)(p:Addr)(v:Value):(u.setCell p v).heap.size=u.heap.size:=by simp[World.setCell]
theorem A6j.next{B0 k i:Nat}{wr:World}(h:A6j B0 k i wr)(hi:i<k):A6j B0 k (i+1) ((wr.setCell ⟨B0,i,none⟩ (.slice (some ⟨wr.heap.size,0,none⟩) k k)).alloc (.cells (T9 (List.replicate k 0)) 3)):=by
 obtain⟨h1,h2,h3⟩:=h;refine⟨by rw[I7,A68,h1];omega,?_,λj hj=>?_⟩
 ·have:=h2.set_ i (.slice (some ⟨wr.heap.size,0,none⟩) k k);rw[B6e,h1,show(Value.slice (some ⟨B0+1+i,0,none⟩) k k)=A3D B0 k i from rfl,B03 B0 k hi]at this;rw[h1];exact this.grow (A4.alloc _ _)
 ·rcases B73 j i with hlt|hge
  ·exact((h3 j hlt).far (p:=⟨B0,i,none⟩) (by show B0+1+j≠B0;omega) _).grow (A4.alloc _ _)
  ·obtain rfl:j=i:=by omega
   have:=Blk.new (wr.setCell ⟨B0,j,none⟩ (.slice (some ⟨wr.heap.size,0,none⟩) k k)) 3 (T9 (List.replicate k 0));rw[A68,h1]at this;rw[h1];exact this
theorem A3i.next{B0 k:Nat}{l l':List Int}{r:Nat}{wr:World}(h:A3i B0 k l l' r wr){p q:Nat}(hp:gi l r=(p:Int))(hq:gi l' r=(q:Int))(hpk:p<k) :
  A3i B0 k l l' (r+1) (wr.setCell ⟨B0+1+p,q,none⟩ (.int .i64 (A1p l l' r p q+1))):=by
 refine⟨h.1.far (p:=⟨B0+1+p,q,none⟩) (by show B0≠B0+1+p;omega) _,λj hj=>?_⟩;by_cases e:j=p
 ·subst e;have:=(h.2 j hj).set_ q (.int .i64 (A1p l l' r j q+1));rw[B0E,B7V l l' r k j q hp hq]at this;exact this
 ·rw[<-B2V l l' r k j (by rw[hp];omega)];exact(h.2 j hj).far (p:=⟨B0+1+p,q,none⟩) (by show B0+1+j≠B0+1+p;omega) _
def A7t(B0 k:Nat)(l l':List Int)(m:Nat):List Rw:=(List.range k).map λi=>(some ⟨B0+1+i,0,none⟩,k,A0y l l' m k i)
theorem A3i.rows{B0 k:Nat}{l l':List Int}{m:Nat}{wr:World}(h:A3i B0 k l l' m wr):A46 wr (some ⟨B0,0,none⟩) (A7t B0 k l l' m):=λ_ =>
 ⟨B0,0,rfl,h.1.lt,λi r hi=>by
  unfold A7t at hi;rw[List.getElem?_map,Option.map_eq_some_iff]at hi;obtain⟨j,hj,rfl⟩:=hi;rw[List.getElem?_eq_some_iff]at hj;obtain⟨hj1,hj2⟩:=hj;simp only[List.length_range]at hj1;simp only[List.getElem_range]at hj2;subst hj2;refine⟨?_,B5y (h.2 i hj1)⟩;rw[Nat.zero_add,h.1.cell,B2m,B52 B0 k hj1]
  simp[A3D,A0y]⟩
end Go.Proofs.YtgpglgbcobeogaaGreatDoor
namespace Go.Proofs.YtgpglgbcobeogaaGreatDoor
def A6N(f:Nat->Int):Nat->Int
 | 0=>0
 | n+1=>A6N f n+f n
end Go.Proofs.YtgpglgbcobeogaaGreatDoor
namespace Go.Proofs.YtgpglgbcobeogaaGreatDoor
open Go.RowKit
def Tb(w:World)(bt ot k:Nat)(rb ro rc:Nat->Nat)(T:Nat->Nat->Int):Prop :=
 bt<w.heap.size/\∀i,i<k->w.cell? ⟨bt,ot+i,none⟩=some (.slice (some ⟨rb i,ro i,none⟩) k (rc i))/\rb i<w.heap.size/\∀j,j<k->w.cell? ⟨rb i,ro i+j,none⟩=some (.int .i64 (T i j))
theorem Tb.grow{w u:World}{bt ot k:Nat}{rb ro rc:Nat->Nat}{T:Nat->Nat->Int}(h:Tb w bt ot k rb ro rc T)(hg:A4 w u):Tb u bt ot k rb ro rc T :=
 ⟨B8X h.1 hg.size,λi hi=>⟨(hg.cell (p:=⟨bt,ot+i,none⟩) h.1).trans (h.2 i hi).1,B8X (h.2 i hi).2.1 hg.size,λj hj=>(hg.cell (p:=⟨rb i,ro i+j,none⟩) (h.2 i hi).2.1).trans ((h.2 i hi).2.2 j hj)⟩⟩
def qL(q:Rat):List Value:=[.bool (F9 q.num),.int .u64 (C4 q.num.natAbs),.string (B8 q.num.natAbs),.int .u64 (C4 (U5 q.den)),.string (B8 (U5 q.den))]
abbrev R3:=Rat×Rat×Rat
def rL(r:R3):List Value:=qL r.1++qL r.2.1++qL r.2.2
theorem B2e(x:Int)(y:Nat)(n d:Int)(s:Nat)(hn:n.natAbs<2^s)(hd:d.natAbs<2^s)(hs:1<=s):qs (I0 n d)<=s:=by
 by_cases h0:d=0
 ·subst h0;unfold I0;rw[Rat.divInt_zero];exact B4E 0 s (by simp;exact Nat.two_pow_pos s) hs
 ·refine Nat.max_le.2 ⟨?_,?_⟩
  ·rw[A9D n d h0,Q7];exact B8K (O6 _ _) (R6.2 hn)
  ·rw[A7e n d h0];exact B8K (O6 _ _) (R6.2 hd)
def Lq(u:World)(A:Option Addr)(l:List Rat):Prop :=
 l≠[]->∃b off,A=some ⟨b,off,none⟩/\b<u.heap.size/\∀i q,l[i]?=some q->∀j v,(qL q)[j]?=some v->u.cell? ⟨b,off+i*5+j,none⟩=some v
theorem Lq.nil(u:World)(A:Option Addr):Lq u A []:=λh=>absurd rfl h
theorem Lq.grow{u u':World}{A:Option Addr}{l:List Rat}(h:Lq u A l)(hg:A4 u u'):Lq u' A l:=λhn=>by
 obtain⟨b,off,e,hb,hc⟩:=h hn;exact⟨b,off,e,B8X hb hg.size,λi x hi j v hj=>(hg.cell (p:=⟨b,off+i*5+j,none⟩) hb).trans (hc i x hi j v hj)⟩
def gq(l:List Rat)(i:Nat):Rat:=(l[i]?).getD 0
theorem A0n{l:List Rat}{i:Nat}(h:i<l.length):l[i]?=some (gq l i):=by
 unfold gq;rw[B8i h];rfl
theorem A2o{l:List Rat}{i:Nat}(h:i<l.length):gq l i∈l:=B8J (A0n h)
def Cq(u:World)(b o:Nat)(q:Rat):Prop:=u.cell? ⟨b,o,none⟩=some (.bool (F9 q.num))/\u.cell? ⟨b,o+1,none⟩=some (.int .u64 (C4 q.num.natAbs))/\u.cell? ⟨b,o+2,none⟩=some (.string (B8 q.num.natAbs)) /\
 u.cell? ⟨b,o+3,none⟩=some (.int .u64 (C4 (U5 q.den)))/\u.cell? ⟨b,o+4,none⟩=some (.string (B8 (U5 q.den)))
theorem Lq.at{u:World}{A:Option Addr}{l:List Rat}(h:Lq u A l)(hne:l≠[]):∃b off,A=some ⟨b,off,none⟩/\b<u.heap.size/\∀i,i<l.length->Cq u b (off+i*5) (gq l i):=by
 obtain⟨b,off,e,hb,hc⟩:=h hne;exact⟨b,off,e,hb,λi hi=>⟨hc i _ (A0n hi) 0 _ rfl,hc i _ (A0n hi) 1 _ rfl,hc i _ (A0n hi) 2 _ rfl,hc i _ (A0n hi) 3 _ rfl,hc i _ (A0n hi) 4 _ rfl⟩⟩
theorem Lq.read{u:World}{b off:Nat}{l:List Rat}(h:Lq u (some ⟨b,off,none⟩) l){i:Nat}(hi:i<l.length):Cq u b (off+i*5) (gq l i):=by
 obtain⟨b',off',e,_,hc⟩:=h.at (λh0=>by rw[h0]at hi;cases hi);cases e;exact hc i hi
theorem Lq.addr{u:World}{A:Option Addr}{l:List Rat}(h:Lq u A l)(hl:0<l.length):∃b off,A=some ⟨b,off,none⟩:=by
 obtain⟨b,off,e,_⟩:=h (λh0=>by rw[h0]at hl;cases hl);exact⟨b,off,e⟩
def D2(f:Nat->Rat):Nat->Rat
 | 0=>0
 | n+1=>G9 (D2 f n) (f n)
theorem A1o:qs 0=1:=by show max (bl 0) (bl 1)=1;rw[A1B,A3R.2 rfl];rfl
theorem B0R(f:Nat->Rat)(s n:Nat)(h:∀i,i<n->qs (f i)<=s):∀j,j<=n->qs (D2 f j)<=j*(s+1)+1
 | 0,_=>by rw[D2,A1o];omega
 | j+1,hj=>by
  have ih:=B0R f s n h j (by omega);have h1:=A2t (D2 f j) (f j);have h2:=h j (by omega);show qs (D2 f j+f j)<=_;rw[B9h];omega
def A14(b2 b3:Nat)(A B:Option Addr)(m c d:Nat)(l l':List Rat)(W:World):Prop :=
 Blk W b2 35 #[.slice A m c]/\Blk W b3 35 #[.slice B m d]/\Lq W A l/\Lq W B l'
theorem A14.mk{b2 b3:Nat}{A B:Option Addr}{m c d:Nat}{l l':List Rat}{u:World}(h1:Blk u b2 35 #[.slice A m c])(h2:Blk u b3 35 #[.slice B m d])(h3:Lq u A l)(h4:Lq u B l'):A14 b2 b3 A B m c d l l' u:=⟨h1,h2,h3,h4⟩
theorem A14.grow{b2 b3:Nat}{A B:Option Addr}{m c d:Nat}{l l':List Rat}{u u':World}(hg:A4 u u')(h:A14 b2 b3 A B m c d l l' u):A14 b2 b3 A B m c d l l' u':=⟨h.1.grow hg,h.2.1.grow hg,h.2.2.1.grow hg,h.2.2.2.grow hg⟩
theorem A14.cells{b2 b3 ba oa bb ob:Nat}{m c d:Nat}{l l':List Rat}{W:World}(h:A14 b2 b3 (some ⟨ba,oa,none⟩) (some ⟨bb,ob,none⟩) m c d l l' W){i:Nat}(h1:i<l.length)(h2:i<l'.length) :
  (W.cell? ⟨b2,0,none⟩=some (.slice (some ⟨ba,oa,none⟩) m c)/\W.cell? ⟨b3,0,none⟩=some (.slice (some ⟨bb,ob,none⟩) m d))/\Cq W ba (oa+i*5) (gq l i)/\Cq W bb (ob+i*5) (gq l' i) :=
 ⟨⟨h.1.cell 0,h.2.1.cell 0⟩,h.2.2.1.read h1,h.2.2.2.read h2⟩
def Lb(u:World)(A:Option Addr)(l:List Bool):Prop :=
 l≠[]->∃b off,A=some ⟨b,off,none⟩/\b<u.heap.size/\∀i x,l[i]?=some x->u.cell? ⟨b,off+i,none⟩=some (.bool x)
theorem Lb.nil(u:World)(A:Option Addr):Lb u A []:=λh=>absurd rfl h
theorem Lb.grow{u u':World}{A:Option Addr}{l:List Bool}(h:Lb u A l)(hg:A4 u u'):Lb u' A l:=λhn=>by
 obtain⟨b,off,e,hb,hc⟩:=h hn;exact⟨b,off,e,B8X hb hg.size,λi x hi=>(hg.cell (p:=⟨b,off+i,none⟩) hb).trans (hc i x hi)⟩
def gb(l:List Bool)(i:Nat):Bool:=(l[i]?).getD false
theorem B7s{l:List Bool}{i:Nat}(h:i<l.length):l[i]?=some (gb l i):=by
 unfold gb;rw[B8i h];rfl
theorem Lb.addr{u:World}{A:Option Addr}{l:List Bool}(h:Lb u A l)(hl:0<l.length):∃b off,A=some ⟨b,off,none⟩:=by
 obtain⟨b,off,e,_⟩:=h (λh0=>by rw[h0]at hl;cases hl);exact⟨b,off,e⟩
theorem Lb.read{u:World}{b off:Nat}{l:List Bool}(h:Lb u (some ⟨b,off,none⟩) l){i:Nat}(hi:i<l.length):u.cell? ⟨b,off+i,none⟩=some (.bool (gb l i)):=by
 obtain⟨b',off',e,_,hc⟩:=h (λh0=>by rw[h0]at hi;cases hi);cases e;exact hc i _ (B7s hi)
def hv(is:List Bool)(l:List Rat)(i j:Nat):Int:=if gb is i && !gb is j then J9 (gq l i) (gq l j)+1 else 0
def B72(is:List Bool)(l:List Rat)(m:Nat):Int:=A6N (λa=>A6N (hv is l a) m) m
abbrev A4V:Array Value:=#[.bool false,.int .u64 0,.string ⟨#[]⟩,.int .u64 0,.string ⟨#[]⟩]
abbrev Rq:=Option Addr×Nat×List Rat
def Lrq(u:World)(A:Option Addr)(rs:List Rq):Prop :=
 rs≠[]->∃b off,A=some ⟨b,off,none⟩/\b<u.heap.size/\∀i r,rs[i]?=some r->u.cell? ⟨b,off+i,none⟩=some (.slice r.1 r.2.2.length r.2.1)/\Lq u r.1 r.2.2
theorem Lrq.grow{u u':World}{A:Option Addr}{rs:List Rq}(h:Lrq u A rs)(hg:A4 u u'):Lrq u' A rs:=λhn=>by
 obtain⟨b,off,e,hb,hc⟩:=h hn;exact⟨b,off,e,B8X hb hg.size,λi r hi=>⟨(hg.cell (p:=⟨b,off+i,none⟩) hb).trans (hc i r hi).1,(hc i r hi).2.grow hg⟩⟩
theorem Lrq.addr{u:World}{A:Option Addr}{rs:List Rq}(h:Lrq u A rs)(hl:0<rs.length):∃b off,A=some ⟨b,off,none⟩:=by
 obtain⟨b,off,e,_⟩:=h (λh0=>by rw[h0]at hl;cases hl);exact⟨b,off,e⟩
theorem Lrq.read{u:World}{b off:Nat}{rs:List Rq}(h:Lrq u (some ⟨b,off,none⟩) rs){i:Nat}{r:Rq}(hi:rs[i]?=some r):u.cell? ⟨b,off+i,none⟩=some (.slice r.1 r.2.2.length r.2.1)/\Lq u r.1 r.2.2:=by
 obtain⟨b',off',e,_,hc⟩:=h (λh0=>by rw[h0]at hi;simp at hi);cases e;exact hc i r hi
end Go.Proofs.YtgpglgbcobeogaaGreatDoor
namespace Go.Proofs.YtgpglgbcobeogaaGreatDoor
open Go.ChangeShapes Go.WideShapes Go.ChangeAt Go.RowKit
theorem B42{H:Type}{enc:TypeId×Value->H}{W:World}{base:Nat}{v:Value}{d:DataW H}{p:List MemPlace}(hval:Value.okWide Tryz.prog W .any base 22 v)(h:DataW.Trod enc Tryz.prog W 0 (λ_=>true) true 22 v d p) :
  ∃(A:Option Addr) (l:List Int) (c:Nat),v = .slice A l.length c/\Li W A l/\l.length<=9223372036854775807/\(∀x∈l,-9223372036854775808<=x/\x<=9223372036854775807)/\l.length<=c:=by
 obtain⟨a0,len,cap,rfl⟩:=okWide_slice B92 hval;obtain⟨fuel,hf⟩:=h;rcases open_ints B92 B93 A92 hf with⟨hcs,hx⟩|⟨a,len',cap',zs,hcs,_,hl,hm,hz,hx,hcell,hwz⟩
 ·simp[Value.cells]at hcs;obtain⟨rfl,rfl,rfl⟩:=hcs;exact⟨none,[],0,rfl,Li.nil _ _,by simp,(λx hx=>by cases hx),by simp⟩
 ·simp[Value.cells]at hcs;obtain⟨rfl,rfl,rfl⟩:=hcs;simp only[if_true]at hz;have hlen:(zs.take len).length=len:=by simp;omega
  refine⟨some a,zs.take len,cap,by rw[hlen],λhne=>?_,by rw[hlen];unfold maxLen at hm;omega,(λx hx=>bounds_i64 (hwz x (B8p hx))),by rw[hlen];exact hl⟩;have h0:0<zs.length:=by
   have:0<(zs.take len).length:=List.length_pos_iff.2 hne;omega
  obtain⟨b,off,rfl,hc⟩:=ints_at hcell h0;have hb:b<W.heap.size:=World.block_lt_of_cell? W _ (hc 0 h0);refine⟨b,off,rfl,hb,λi x hi=>?_⟩;have hi2:i<(zs.take len).length:=(List.getElem?_eq_some_iff.1 hi).1;have hi3:zs[i]?=some x:=by
   rw[B9b]at hi;split at hi
   ·exact hi
   ·cases hi
  rw[hc i (by rw[hlen]at hi2;omega)];simp[List.getD,hi3]
end Go.Proofs.YtgpglgbcobeogaaGreatDoor
