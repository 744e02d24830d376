import Derived.Test.YtgpglgbcobeogaaGreatDoorN4
set_option linter.unusedSimpArgs false
set_option linter.unusedVariables false
set_option maxHeartbeats 1000000
set_option maxRecDepth 100000
namespace Go.Proofs.YtgpglgbcobeogaaGreatDoor
open Go.RowKit
def Wds(u:World)(b off:Nat)(l:List Nat):Prop:=∃cs:Array Value,Blk u b 42 cs/\∀i x,l[i]?=some x->cs[off+i]?=some (.int .u64 (x:Nat))
theorem Wds.grow{u u':World}{b off:Nat}{l:List Nat}(hg:A4 u u')(h:Wds u b off l):Wds u' b off l:=by
 obtain⟨cs,hb,hc⟩:=h;exact⟨cs,hb.grow hg,hc⟩
theorem Wds.lt{u:World}{b off:Nat}{l:List Nat}(h:Wds u b off l):b<u.heap.size:=by
 obtain⟨cs,hb,hc⟩:=h;exact hb.lt
theorem Wds.cell{u:World}{b off:Nat}{l:List Nat}(h:Wds u b off l){i:Nat}(hi:i<l.length):u.cell? ⟨b,off+i,none⟩=some (.int .u64 (l[i]:Nat)):=by
 obtain⟨cs,hb,hc⟩:=h;rw[hb.cell];exact hc i _ (B9Y hi)
theorem Wds.frozen{u:World}{b off:Nat}{l:List Nat}(h:Wds u b off l)(i:Nat):u.frozen? ⟨b,i,none⟩=false:=by
 obtain⟨cs,hb,hc⟩:=h;exact hb.frozen i
theorem Wds.set{u:World}{b off:Nat}{l:List Nat}(h:Wds u b off l)(i y:Nat)(hi:i<l.length):Wds (u.setCell ⟨b,off+i,none⟩ (.int .u64 (y:Nat))) b off (l.set i y):=by
 obtain⟨cs,hb,hc⟩:=h;refine⟨_,hb.set_ (off+i) _,λj x hj=>?_⟩;have hin:off+i<cs.size:=(Array.getElem?_eq_some_iff.1 (hc i _ (B9Y hi))).1;rw[List.getElem?_set]at hj;by_cases hij:i=j
 ·subst hij;simp only[if_pos hi,if_true]at hj;injection hj with hj;subst hj;simp[hin]
 ·rw[if_neg hij]at hj;rw[Array.getElem?_setIfInBounds_ne (by omega)];exact hc j x hj
theorem Wds.far{u:World}{b off:Nat}{l:List Nat}(h:Wds u b off l){p:Addr}(hp:b≠p.block)(v:Value):Wds (u.setCell p v) b off l:=by
 obtain⟨cs,hb,hc⟩:=h;exact⟨cs,hb.far hp v,hc⟩
theorem Wds.take{u:World}{b off:Nat}{l:List Nat}(h:Wds u b off l)(n:Nat):Wds u b off (l.take n):=by
 obtain⟨cs,hb,hc⟩:=h;refine⟨cs,hb,λi x hi=>hc i x ?_⟩;rw[C0R]at hi;split at hi
 ·exact hi
 ·cases hi
theorem Wds.drop{u:World}{b off:Nat}{l:List Nat}(h:Wds u b off l)(n:Nat):Wds u b (off+n) (l.drop n):=by
 obtain⟨cs,hb,hc⟩:=h;refine⟨cs,hb,λi x hi=>?_⟩;rw[List.getElem?_drop]at hi;rw[C0W];exact hc _ x hi
def Rd(u:World)(A:Option Addr)(l:List Nat):Prop:=l≠[]->∃b off,A=some ⟨b,off,none⟩/\Wds u b off l
theorem Rd.nil(u:World)(A:Option Addr):Rd u A []:=λh=>absurd rfl h
theorem Rd.grow{u u':World}{A:Option Addr}{l:List Nat}(hg:A4 u u')(h:Rd u A l):Rd u' A l:=λhn=>by
 obtain⟨b,off,e,hw⟩:=h hn;exact⟨b,off,e,hw.grow hg⟩
theorem Rd.take{u:World}{A:Option Addr}{l:List Nat}(h:Rd u A l)(n:Nat):Rd u A (l.take n):=λhn=>by
 obtain⟨b,off,e,hw⟩:=h (λh0=>hn (by rw[h0];simp));exact⟨b,off,e,hw.take n⟩
def D6:List Nat->List Nat
 | []=>[]
 | x::l=>match D6 l with
  | []=>if x=0 then []else [x]
  | y::m=>x::y::m
theorem A5a(l:List Nat):D6 (l++[0])=D6 l:=by
 induction l with
 | nil=>rfl
 | cons x l ih=>simp only[List.cons_append,D6,ih]
theorem A5j(l:List Nat){x:Nat}(hx:x≠0):D6 (l++[x])=l++[x]:=by
 induction l with
 | nil=>simp[D6,hx]
 | cons y l ih =>
  simp only[List.cons_append,D6,ih]
  cases h:l++[x]with
  | nil=>simp at h
  | cons z m=>rfl
theorem A2T(l:List Nat):(D6 l).length<=l.length:=by
 induction l with
 | nil=>simp[D6]
 | cons x l ih =>
  simp only[D6];split
  ·split<;>simp
  ·rename_i h;rw[h]at ih;simp at ih⊢;omega
theorem A21(l:List Nat):D6 l=l.take (D6 l).length:=by
 induction l with
 | nil=>rfl
 | cons x l ih =>
  simp only[D6];split
  ·split<;>simp
  ·rename_i y m h;rw[h]at ih;simp only[List.length_cons,List.take_succ_cons]at ih⊢;rw[<-ih]
theorem A1B(B:Nat)(l:List Nat):val B (D6 l)=val B l:=by
 induction l with
 | nil=>rfl
 | cons x l ih =>
  simp only[D6];split
  ·rename_i h;rw[h]at ih;simp only[A5r]at ih;split
   ·rename_i h0;subst h0;simp[val,<-ih]
   ·simp[val,<-ih]
  ·rename_i h;rw[h]at ih;rw[O7,ih,O7]
theorem A47(l:List Nat):U7 (D6 l):=by
 induction l with
 | nil=>exact .inl rfl
 | cons x l ih =>
  simp only[D6];split
  ·split
   ·exact .inl rfl
   ·rename_i h0;exact .inr (by simpa using h0)
  ·rename_i h;rw[h]at ih;rcases ih with ih|ih
   ·cases ih
   ·exact .inr (by simpa [C0Z]using ih)
theorem A1X{B:Nat}{l:List Nat}(h:Dig B l):Dig B (D6 l):=λx hx=>by
 rw[A21]at hx;exact h x (B9f hx)
theorem A56{B:Nat}(hB:2<=B){l:List Nat}(h:Dig B l):D6 l=B5 B (val B l):=by
 rw[<-A1B B l,A4z hB _ (A1X h) (A47 l)]
theorem A4h(A:Option Addr)(l:List Nat)(c:Nat)(w:World)(h:Rd w A l)(hc:l.length<=c)(hm:c<=9223372036854775807) :
  Calls Tryz.prog 179 #[.slice A l.length c] w λe w'=>e = .returned (.slice A (D6 l).length c)/\w=w':=by
 have H:=B9I h;clear h;obtain⟨n,hn⟩:∃n,n=l.length:=⟨_,rfl⟩
 rw[<-hn];rw[<-hn]at hc;have Hn:=B9I hn;clear hn;go_enter Tryz.func179,Tryz.ntmps179;go_wp2;go_loop [0] (λs=>∃k:Nat,k<=n/\s = .slice A k c/\D6 (l.take k)=D6 l) (λs=>match s with | .slice _ k _=>k|_=>0)
 case atStart=>exact⟨n,B8s _,rfl,by rw[B9k (by rw[Hn.out];exact B8s _)]⟩
 case round =>
  obtain⟨k,hk,rfl,ht⟩:=hrel;have Ht:=B9I ht;clear ht;rcases B9C k with rfl|hpos
  ·go_wp2;go_ret;refine⟨?_,rfl⟩;have:D6 l=[]:=by rw[<-Ht.out];rfl
   rw[this];rfl
  ·have hkl:k-1<l.length:=by rw[<-Hn.out];omega
   obtain⟨b,off,rfl,hw⟩:=H.out (by rintro rfl;simp at hkl);have hcell:=hw.cell hkl;have Hw:=B9I hw;clear hw;have hsn:l.take k=l.take (k-1)++[l[k-1]]:=by
    have:=B9X hkl;rw[show k-1+1=k by omega]at this;exact this
   have Hsn:=B9I hsn;clear hsn;obtain⟨x,hx⟩:∃x,x=l[k-1]:=⟨_,rfl⟩
   rw[<-hx]at hcell;have Hx:=B9I hx;clear hx;have hidx:(0:Int)<=(k:Int)-1:=by omega
   by_cases h0:x=0
   ·subst h0;go_wp2;go_round
    case rel=>exact⟨k-1,by omega,by go_num,by rw[<-Ht.out,Hsn.out,<-Hx.out,A5a]⟩
    case measure=>simp;omega
   ·have hb:((x:Int) == 0)=false:=by simpa using h0
    go_wp2;go_ret;refine⟨?_,rfl⟩;have:D6 l=l.take k:=by rw[<-Ht.out,Hsn.out,A5j _ (by rw[<-Hx.out];exact h0)]
    rw[this,List.length_take,B9t (by omega)];rfl
def C7(l:List Nat):Array Value:=(l.map λx=>Value.int .u64 (x:Nat)).toArray
theorem A0I(l:List Nat)(i:Nat):(C7 l)[i]?=(l[i]?).map λx=>Value.int .u64 (x:Nat):=by
 unfold C7;simp
def D4(u:World)(b:Nat)(l:List Nat):Prop:=Blk u b 42 (C7 l)
theorem D4.wds{u:World}{b:Nat}{l:List Nat}(h:D4 u b l):Wds u b 0 l:=by
 refine⟨_,h,λi x hi=>?_⟩;rw[Nat.zero_add,A0I,hi];rfl
theorem D4.grow{u u':World}{b:Nat}{l:List Nat}(hg:A4 u u')(h:D4 u b l):D4 u' b l:=Blk.grow hg h
theorem D4.cell{u:World}{b:Nat}{l:List Nat}(h:D4 u b l)(i:Nat):u.cell? ⟨b,i,none⟩=(l[i]?).map λx=>Value.int .u64 (x:Nat):=by
 rw[Blk.cell h,A0I]
theorem D4.frozen{u:World}{b:Nat}{l:List Nat}(h:D4 u b l)(i:Nat):u.frozen? ⟨b,i,none⟩=false:=Blk.frozen h i
theorem A2i(l:List Nat)(i y:Nat):(C7 l).setIfInBounds i (.int .u64 (y:Nat))=C7 (l.set i y):=by
 unfold C7;rw[List.setIfInBounds_toArray,List.map_set]
theorem D4.set{u:World}{b:Nat}{l:List Nat}(h:D4 u b l)(i y:Nat):D4 (u.setCell ⟨b,i,none⟩ (.int .u64 (y:Nat))) b (l.set i y):=by
 have:=Blk.set_ h i (.int .u64 (y:Nat));rw[A2i]at this;exact this
theorem D4.far{u:World}{b:Nat}{l:List Nat}(h:D4 u b l){p:Addr}(hp:b≠p.block)(v:Value):D4 (u.setCell p v) b l:=Blk.far h hp v
theorem D4.lt{u:World}{b:Nat}{l:List Nat}(h:D4 u b l):b<u.heap.size:=Blk.lt h
theorem A6u:(Tryz.prog.info? 42).map (λi=>(i.zero,i.size,i.bytes))=some (some (.int .u64 0),1,8):=by kernel_rfl
theorem B1m(n:Nat):madeCells (Value.int .u64 0).cells (n*1)=C7 (List.replicate n 0):=by
 unfold C7 madeCells;refine Array.ext (by simp) λi h1 h2=>?_;simp[Value.cells,Nat.mod_one]
theorem A1L(n:Nat)(hn:n<=1099511627776)(x:Int)(hx:x=n)(W:World):(Instr.makeSlice 205 (.int .i64 x) (.int .i64 x)).run Tryz.prog W =
  .ok (.slice (some ⟨W.heap.size,0,none⟩) n n) (W.alloc (.cells (C7 (List.replicate n 0)) 42)):=by
 obtain⟨i0,hi0,hz0,hz1,hz2⟩:=B9T A6u;have hr:=run_make (P:=Tryz.prog) W 205 42 i0 (.int .u64 0) Tryz.underlying205 hi0 hz0 .i64 .i64 n n (by omega) (by omega) (by rw[hz2];omega) (by omega);rw[hx];rw[hr,hz1];simp only[Int.toNat_natCast];rw[B1m]
def A1D(l:List Nat)(k:Nat):List Nat:=l.take k++List.replicate (l.length-k) 0
theorem B5L(l:List Nat){k:Nat}(h:k<l.length):(A1D l k)[k]?=some 0:=by
 unfold A1D;rw[C0l (by simp;omega),C0V,if_pos (by simp;omega)]
theorem B6P(l:List Nat){k:Nat}(h:k<l.length):(A1D l k).set k l[k]=A1D l (k+1):=by
 unfold A1D;rw[List.set_append_right _ _ (by simp;omega),B9X h,B9U];congr 1;rw[List.length_take,B9t (by omega),B9W];obtain⟨m,hm⟩:∃m,l.length-k=m+1:=⟨l.length-k-1,by omega⟩
 rw[hm,show l.length-(k+1)=m by omega];rfl
theorem B8D(l:List Nat):A1D l l.length=l:=by
 unfold A1D;simp
def A0e(a i:Nat):List Nat:=A1D (B5 W64 a) i
theorem B2i(a:Nat)(ha:bl a<=1099511627776)(h0:a≠0)(w:World) :
  Calls Tryz.prog 148 #[B2 a] w λe w'=>∃b,w.heap.size<=b/\e = .returned (.slice (some ⟨b,0,none⟩) (B5 W64 a).length (B5 W64 a).length)/\D4 w' b (B5 W64 a)/\A4 w w':=by
 obtain⟨m,hm⟩:∃m,m=(D3 a).length:=⟨_,rfl⟩
 have hub:=A60 a;rw[<-hm]at hub;have hsz:(B6 a).size=8*m:=by rw[A0u,hm]
 have hq:((B6 a).size:Int)/8=(m:Int):=by omega
 have hmm:m<=1099511627776:=by omega
 have hmk:=A1L (m+1) (by omega) (1+(m:Int)) (by omega);have hlen:(B5 W64 a).length=m+1:=by rw[A4L h0,List.length_cons,hm]
 have Hlen:=B9I hlen;have Hm:=B9I hm;have Hsz:=B9I hsz;have hszl:(B6 a).size<=8796093022208:=by omega
 clear hub hlen hm;have hT:∃b1 b2:Bool,(B6 a).toList.isEmpty=b1/\(B8 a == 0)=b2/\(b1&&b2)=false:=by
  refine⟨_,_,rfl,rfl,?_⟩;rw[P5,B9p];by_cases hs:a<W64
  ·right;rw[O4 hs]
   simpa using h0
  ·left
   simpa using hs
 obtain⟨b1,b2,hb1,hb2,hb12⟩:=hT;have fin:∀wr:World,D4 wr (w.heap.size+1) (A0e a (m+1))->A4 w wr->∃b,w.heap.size<=b/\Ending.returned (.slice (some ⟨w.heap.size+1,0,none⟩) (m+1) (m+1)) = .returned (.slice (some ⟨b,0,none⟩) (B5 W64 a).length (B5 W64 a).length)/\D4 wr b (B5 W64 a)/\A4 w wr:=by
  intro wr h1 h2;refine⟨w.heap.size+1,by omega,by rw[Hlen.out],?_,h2⟩;have:A0e a (m+1)=B5 W64 a:=by
   unfold A0e;rw[<-Hlen.out,B8D]
  rw[<-this];exact h1
 have Hfin:=B9I fin;clear fin;have start:∀W:World,D4 (W.alloc (.cells ((C7 (List.replicate (m+1) 0)).setIfInBounds 0 (.int .u64 (B8 a))) 42)) W.heap.size (A0e a 1):=by
  intro W;have h1:(C7 (List.replicate (m+1) 0)).setIfInBounds 0 (.int .u64 (B8 a))=C7 (A0e a 1):=by
   show(C7 (List.replicate (m+1) 0)).setIfInBounds 0 (.int .u64 ((a%W64:Nat):Int))=_;rw[A2i];congr 1;unfold A0e A1D;rw[Hlen.out,A4L h0];rfl
  rw[h1];exact Blk.new W 42 _
 have Hstart:=B9I start;clear start;cases b1<;>cases b2<;>first|(exact absurd hb12 (by decide))|skip
 all_goals
  clear hb12;go_enter Tryz.func148,Tryz.ntmps148;go_wp2;clear hmk;go_loopw [4] (λi wr=>∃k:Nat,1<=k/\k<=m+1/\i = .int .i64 k/\D4 wr (w.heap.size+1) (A0e a k)/\Blk wr w.heap.size 44 #[.int .u64 (B8 a),.string (B6 a)]/\A4 w wr) (λi _=>m+1-(intOf i).toNat)
  case atStart=>exact⟨1,by omega,by omega,rfl,by simpa using Hstart.out (w.alloc (.cells #[.int .u64 (B8 a),.string (B6 a)] 44)),(Blk.new w 44 _).grow (A4.alloc _ _),(A4.alloc _ _).trans (A4.alloc _ _)⟩
  case round =>
   obtain⟨k,hk1,hk2,rfl,hrow,hbox,hG⟩:=hrel;rcases B8t k (m+1)with hlt|hge
   ·have hbc:=hbox.cell;have hiu:k-1<(D3 a).length:=by rw[<-Hm.out];omega
    have hu:(B5 W64 a)[k]?=some ((D3 a)[k-1]):=by
     rw[A4L h0];obtain⟨j,rfl⟩:∃j,k=j+1:=⟨k-1,by omega⟩
     simp
    obtain⟨x,hx⟩:∃x,x=(D3 a)[k-1]:=⟨_,rfl⟩
    rw[<-hx]at hu;have Hx:=B9I hx;have Hu:=B9I hu;clear hx hu;have hl1:(0:Int)<=(k:Int)-1:=by omega
    have hl2:8*((k:Int)-1)<=((B6 a).size:Int):=by rw[Hsz.out];omega
    have hword:∀W:World,Calls Tryz.prog 165 #[.string ((B6 a).extract (8*(k-1)) (8*m))] W λe w'=>e = .returned (.int .u64 (x:Nat))/\A4 W w':=by
     intro W;rw[Hx.out,<-Hsz.out];exact A4k a (k-1) hiu _ (Lib.extract_to_end _ _) W
    have Hword:=B9I hword;have Hrow:=B9I hrow;have Hbox:=B9I hbox;clear hword hrow hbox;have hz:(A0e a k)[k]?=some 0:=by
     exact B5L _ (by rw[Hlen.out];exact hlt)
    have Hz:=B9I hz;clear hz;have hst:∀w1:World,A4 wr w1->w1.cell? ⟨w.heap.size+1,k,none⟩=some (.int .u64 0)/\w1.frozen? ⟨w.heap.size+1,k,none⟩=false:=λw1 hb =>
     ⟨(((Hrow.out).grow hb).cell k).trans (by rw[Hz.out];rfl),((Hrow.out).grow hb).frozen k⟩
    have Hst:=B9I hst;clear hst;go_wp2_with (go_at_call 165;((with_reducible refine(Hword.out _).mono ?_);rintro e w1 ⟨rfl,hb⟩;obtain⟨hc1,hf1⟩:=Hst.out w1 hb));go_roundw
    case rel =>
     refine⟨k+1,by omega,by omega,by go_num,?_,?_,?_⟩
     ·have:=(Hrow.out.grow hb).set k x;have e:(A0e a k).set k x=A0e a (k+1):=by
       unfold A0e;rw[<-B6P _ (by rw[Hlen.out];exact hlt)];congr 1;have:=List.getElem?_eq_some_iff.1 Hu.out;exact this.2.symm
      rw[e]at this;exact this
     ·exact(Hbox.out.grow hb).far (by simp) _
     ·exact(hG.trans hb).setCell (by simp) _
    case measure=>simp[intOf];omega
   ·obtain rfl:k=m+1:=by omega
    go_wp2;go_ret;exact Hfin.out _ hrow hG
theorem B5e(w:World):Calls Tryz.prog 148 #[B2 0] w λe w'=>e = .returned (.slice none 0 0)/\A4 w w':=by
 have hE:(B6 0).toList.isEmpty=true:=by rw[P5];exact B9x C1
 have hZ:(B8 0 == 0)=true:=rfl;go_enter Tryz.func148,Tryz.ntmps148;go_wp2;go_ret;exact⟨rfl,A4.alloc _ _⟩
def Own(w u:World)(A:Option Addr)(l:List Nat):Prop:=l≠[]->∃b,w.heap.size<=b/\A=some ⟨b,0,none⟩/\D4 u b l
theorem Own.grow{w u u':World}{A:Option Addr}{l:List Nat}(hg:A4 u u')(h:Own w u A l):Own w u' A l:=λhn=>by
 obtain⟨b,hb,e,hw⟩:=h hn;exact⟨b,hb,e,hw.grow hg⟩
theorem Own.rd{w u:World}{A:Option Addr}{l:List Nat}(h:Own w u A l):Rd u A l:=λhn=>by
 obtain⟨b,hb,e,hw⟩:=h hn;exact⟨b,0,e,hw.wds⟩
theorem Own.since{w v u:World}{A:Option Addr}{l:List Nat}(hg:A4 w v)(h:Own v u A l):Own w u A l:=λhn=>by
 obtain⟨b,hb,e,hw⟩:=h hn;exact⟨b,B9A hg.size hb,e,hw⟩
theorem A1H(a:Nat)(ha:bl a<=1099511627776)(w:World) :
  Calls Tryz.prog 148 #[B2 a] w λe w'=>∃A,e = .returned (.slice A (B5 W64 a).length (B5 W64 a).length)/\Own w w' A (B5 W64 a)/\A4 w w':=by
 by_cases h0:a=0
 ·subst h0;exact(B5e w).mono λe w' ⟨he,hg⟩=>⟨none,he,λh=>absurd rfl h,hg⟩
 ·exact(B2i a ha h0 w).mono λe w' ⟨b,hb,he,hr,hg⟩=>⟨_,he,λ_=>⟨b,hb,rfl,hr⟩,hg⟩
theorem B5O:(Tryz.prog.info? 241).map (·.size)=some 2:=by kernel_rfl
theorem A8p:(Tryz.prog.info? 5).map (λi=>(i.zero,i.size,i.bytes))=some (some (.int .u8 0),1,1):=by kernel_rfl
theorem B06(b:Nat)(w:World)(h0:w.cell? ⟨b,0,none⟩=some (.pointer (some ⟨b,0,none⟩))) :
  Calls Tryz.prog 205 #[.pointer (some ⟨b,0,none⟩)] w λe w'=>e = .returned (.tuple #[])/\w'=w:=by
 obtain⟨j,hj,_⟩:=Option.map_eq_some_iff.1 B5O;go_enter Tryz.func205,Tryz.ntmps205;go_wp2;rw[Lib.run_neq_ptr_same w _ Tryz.underlying239 hj];go_wp2;go_end0;exact⟨rfl,rfl⟩
theorem B3G(B b:Nat)(bs:List Value)(c:Int)(w:World)(h:Lib.BuilderAt 241 5 B b (.pointer (some ⟨b,0,none⟩)) bs w)(hlen:bs.length+1<=140737488355328)(hBw:B<=w.heap.size) :
  Calls Tryz.prog 181 #[.pointer (some ⟨b,0,none⟩),.int .u8 c] w λe w'=>e = .returned .nilIface/\(Lib.BuilderAt 241 5 B b (.pointer (some ⟨b,0,none⟩)) (bs++[.int .u8 c]) w'/\Below B w w'):=by
 obtain⟨i0,hi,hz0,hz1,hz2⟩:=B9T A8p;obtain⟨hB,v,hbk,hown,hne⟩:=h;have c0:w.cell? ⟨b,0,none⟩=some (.pointer (some ⟨b,0,none⟩)):=by rw[Lib.cell_of_heap hbk];rfl
 have c1:w.cell? ⟨b,1,none⟩=some v:=by rw[Lib.cell_of_heap hbk];rfl
 go_enter Tryz.func181,Tryz.ntmps181
 go_wp2_with (first
  | (go_at_call 205;(refine(B06 b w c0).mono ?_);rintro e w1 ⟨rfl,rfl⟩)
  | (at_builtin;refine wpList_append_own _ rfl _ _ 186 rfl B 5 i0 (.int .u8 0) 1 1 Tryz.underlying186 hi hz0 hz1 hz2 rfl (by decide) _ _ _ rfl (hown.alloc _) ⟨_,0,none⟩ 1 1 [.int .u8 c] rfl rfl ?c1 ?c2 ?c3 ?c4 ?c5 ?_))
 case c1 =>
  intro j u hj
  match j,hj with
  | 0,hj=>simp at hj;subst hj;simp[Addr.add]
 case c2=>intro u hu;simp at hu;subst hu;rfl
 case c3=>unfold maxLen;omega
 case c4=>omega
 case c5=>simp;omega
 intro v' w2 hown' hgrow _;have hlt:b<w1.heap.size:=by
  rcases B8t b w1.heap.size with h'|h'
  ·exact h'
  ·simp[Array.getElem?_eq_none h']at hbk
 have hb2:w2.heap[b]?=some (.cells #[.pointer (some ⟨b,0,none⟩),v] 241 (0,0)):=by
  rw[hgrow.block b (by simp;omega) (λe=>hne e.symm),Lib.alloc_old w1 _ b hlt];exact hbk
 have d0:w2.cell? ⟨b,0,none⟩=some (.pointer (some ⟨b,0,none⟩)):=by rw[Lib.cell_of_heap hb2];rfl
 have d1:w2.cell? ⟨b,1,none⟩=some v:=by rw[Lib.cell_of_heap hb2];rfl
 have f1:w2.frozen? ⟨b,1,none⟩=false:=Lib.frozen_of_heap hb2 1;obtain⟨g,cap,rfl⟩:∃g cap,v' = .slice (some ⟨g,0,none⟩) (bs.length+1) cap:=by
  rcases hown'.2 with⟨_,h0⟩|⟨g,cap,cur,hv,_⟩
  ·omega
  ·exact⟨g,cap,hv⟩
 go_wp2;go_ret;refine⟨rfl,?_,?_⟩
 ·exact Lib.BuilderAt.put (T:=241) (e:=5) hB hb2 (bs':=bs++[.int .u8 c]) (by simpa using hown') (by decide)
 ·exact(((Below.refl B w1).alloc hBw _).grown hgrow (by simp;omega) (λk hk=>(hown.lt k hk).1)).setCell (p:=⟨b,1,none⟩) hB _
theorem B0i{x:Nat}{l:List Nat}(hx:x<W64)(hl:Dig W64 l)(ht:U7 l):B8 (val W64 (x::l))=x/\D3 (val W64 (x::l))=l:=by
 have e1:val W64 (x::l)%W64=x:=by simp only[val];rw[B98,Nat.mod_eq_of_lt hx]
 have e2:val W64 (x::l)/W64=val W64 l:=by simp only[val];rw[C0a _ _ C1,B9q hx,Nat.zero_add]
 refine⟨by unfold B8;rw[e1],?_⟩;unfold D3;rw[e2,A4z D8 _ hl ht]
theorem B4r(l:List UInt8)(c:UInt8):Lib.byteCells l++[.int .u8 (c.toNat:Int)]=Lib.byteCells (l++[c]):=by
 simp[Lib.byteCells]
theorem A77(x:Nat):∀(n k:Nat),k<n->(Lib.leBytes n x)[k]?=some ((x/256^k%256).toUInt8)
 | 0,_,h=>absurd h (C03 _)
 | n+1,0,_=>by simp[Lib.leBytes]
 | n+1,k+1,h=>by
  rw[Lib.leBytes,List.getElem?_cons_succ,A77 (x/256) n k (by omega),B9M,Nat.pow_succ,B9j]
theorem B8L(A:Option Addr)(l:List Nat)(c:Nat)(w:World)(h:Rd w A l)(hd:Dig W64 l)(hc:l.length<=c)(hm:l.length<=34359738368)(hcm:c<=9223372036854775807)(h2:2<=(D6 l).length) :
  Calls Tryz.prog 146 #[.slice A l.length c] w λe w'=>e = .returned (B2 (val W64 l))/\A4 w w':=by
 obtain⟨x0,y0,m,hl⟩:∃x y m,D6 l=x::y::m:=by
  match D6 l,h2 with
  | x::y::m,_=>exact⟨x,y,m,rfl⟩
 obtain⟨n,hn⟩:∃n,n=m.length:=⟨_,rfl⟩
 have hlen:(D6 l).length=n+2:=by rw[hl,hn];rfl
 have hle:=A2T l;obtain⟨b,off,hA,hw⟩:=h (by rintro rfl;simp[D6]at h2);subst hA;have hw2:Wds w b off (D6 l):=by rw[A21];exact hw.take _
 have hbw:=hw.lt;have Hw:=B9I hw2;have Hl:=B9I hl;have Hn:=B9I hn;have Hd:=B9I hd;have Hlen:=B9I hlen;have htrim:∀W:World,A4 w W->Calls Tryz.prog 179 #[.slice (some ⟨b,off,none⟩) l.length c] W λe w'=>e = .returned (.slice (some ⟨b,off,none⟩) (n+2) c)/\W=w':=by
  intro W hg;have:=A4h (some ⟨b,off,none⟩) l c W (h.grow hg) hc (by omega);rw[hlen]at this;exact this
 have Htrim:=B9I htrim;have hnc:n+2<=c:=by omega
 have hnm:n+2<=34359738368:=by omega
 clear hm;clear htrim hlen hd hn hl hw2 hw h h2 hle hc;go_enter Tryz.func146,Tryz.ntmps146;go_wp2_with (go_at_call 179;((with_reducible refine(Htrim.out _ (A4.alloc _ _)).mono ?_);rintro e w1 ⟨rfl,rfl⟩));rw[show(8*((n:Int)+2-1))=((8*(n+1):Nat):Int)from by omega];refine(Tryz.Builder_Grow_fresh_cap (w.heap.size+1) (w.heap.size+1) (8*(n+1)) _ (B8s _) (by have:=Blk.new (w.alloc (.cells #[.int .u64 0,.string ⟨#[]⟩] 44)) 241 #[.pointer none,.slice none 0 0];simpa [Blk]using this) (by simp) (by omega)).mono ?_;rintro e w1 ⟨rfl,⟨hat,hbel⟩,-⟩;have hG1:Below (w.heap.size+1) (w.alloc (.cells #[.int .u64 0,.string ⟨#[]⟩] 44)) w1:=((Below.refl _ _).alloc (by simp) _).trans hbel;have Hat:=B9I hat;have HG1:=B9I hG1;clear hat hbel hG1;have hc1:¬c=1:=by omega
 go_wp2_with fail;go_loopw [28] (λi wr=>∃j:Nat,j<=n+1/\i = .int .i64 j/\Lib.BuilderAt 241 5 (w.heap.size+1) (w.heap.size+1) (.pointer (some ⟨w.heap.size+1,0,none⟩)) (Lib.byteCells (((y0::m).take j).flatMap (Lib.leBytes 8))) wr/\Below (w.heap.size+1) (w.alloc (.cells #[.int .u64 0,.string ⟨#[]⟩] 44)) wr) (λi _=>n+1-(intOf i).toNat)
 case atStart=>exact⟨0,by omega,rfl,Hat.out,HG1.out⟩
 case round =>
  obtain⟨j,hj,rfl,hat,hbel⟩:=hrel;have Hat2:=B9I hat;have Hbel2:=B9I hbel;clear hat hbel Hat HG1 w1;rcases B8t j (n+1)with hlt|hge
  ·have hjl:j<(y0::m).length:=by rw[List.length_cons,<-Hn.out];omega
   have hcell:wr.cell? ⟨b,off+1+j,none⟩=some (.int .u64 ((y0::m)[j]:Nat)):=by
    rw[Hbel2.out.cell (p:=⟨b,off+1+j,none⟩) (by show b<_;omega),World.cell?_alloc_lt _ _ _ (show b<_ from hbw)];have:=Hw.out.cell (i:=1+j) (by rw[Hlen.out];omega);rw[<-C0W]at this;rw[this];have h3:(D6 l)[1+j]?=(y0::m)[j]?:=by rw[Hl.out,B96];rfl
    rw[B9Y (by rw[Hlen.out];omega),B9Y hjl]at h3;injection h3 with h3;rw[h3]
   obtain⟨x,hx⟩:∃x,x=(y0::m)[j]:=⟨_,rfl⟩
   rw[<-hx]at hcell;have hxW:x<18446744073709551616:=by
    rw[hx];refine A1X Hd.out _ ?_;rw[Hl.out];exact B8u _ (B86 _)
   have Hx:=B9I hx;clear hx;have hdj:decide ((j:Int)<(n:Int)+1)=true:=by simp;omega
   go_wp2_with fail;obtain⟨wo,hwo⟩:∃wo:World,wo=wr:=⟨_,rfl⟩
   go_loopw [32] (λi wi=>∃k:Nat,k<=8/\i = .int .i64 k/\Lib.BuilderAt 241 5 (w.heap.size+1) (w.heap.size+1) (.pointer (some ⟨w.heap.size+1,0,none⟩)) (Lib.byteCells (((y0::m).take j).flatMap (Lib.leBytes 8)++(Lib.leBytes 8 x).take k)) wi/\Below (w.heap.size+1) (w.alloc (.cells #[.int .u64 0,.string ⟨#[]⟩] 44)) wi) (λi _=>8-(intOf i).toNat)
   case atStart=>exact⟨0,by omega,rfl,by simpa using Hat2.out,Hbel2.out⟩
   case round =>
    obtain⟨k,hk,rfl,hat,hbel⟩:=hrel;have Hat3:=B9I hat;have Hbel3:=B9I hbel;clear hat hbel;rcases B8t k 8 with hk8|hk8
    ·have hlb:(Lib.byteCells (((y0::m).take j).flatMap (Lib.leBytes 8)++(Lib.leBytes 8 x).take k)).length+1<=140737488355328:=by
      have e1:(Lib.byteCells (((y0::m).take j).flatMap (Lib.leBytes 8)++(Lib.leBytes 8 x).take k)).length=(((y0::m).take j).flatMap (Lib.leBytes 8)++(Lib.leBytes 8 x).take k).length:=by simp[Lib.byteCells]
      rw[e1,List.length_append,A5U,List.length_take,List.length_take];omega
     have hsz:=Hbel3.out.size;simp only[I9]at hsz;go_wp2_with fail
     ((with_reducible refine(B3G _ _ _ _ _ Hat3.out hlb hsz).mono ?_);rintro e w2 ⟨rfl,hat4,hbel4⟩)
     have Hat4:=B9I hat4;have Hbel4:=B9I hbel4;clear hat4 hbel4 hlb hsz;go_wp2_with fail;go_roundw
     case rel =>
      refine⟨k+1,by omega,by go_num,?_,Hbel3.out.trans Hbel4.out⟩;have e2:((x:Int)/2^(8*k)%256)=(((x/256^k%256).toUInt8.toNat:Nat):Int):=by
       have h1:(x/256^k%256).toUInt8.toNat=x/256^k%256:=by
        simp only[Nat.toUInt8_eq,UInt8.toNat_ofNat'];omega
       rw[h1,show(256:Nat)=2^8 from rfl,<-B9O];simp
      have h5:=Hat4.out;rw[e2,B4r,B9U]at h5;have e3:(Lib.leBytes 8 x).take k++[(x/256^k%256).toUInt8]=(Lib.leBytes 8 x).take (k+1):=by
       have h6:=A77 x 8 k hk8;obtain⟨h7,h8⟩:=List.getElem?_eq_some_iff.1 h6;rw[B9X h7,h8]
      rw[e3]at h5;exact h5
     case measure=>simp[intOf];omega
    ·obtain rfl:k=8:=by omega
     go_wp2_with fail;go_roundw
     case rel =>
      refine⟨j+1,by omega,by go_num,?_,Hbel3.out⟩;have h5:=Hat3.out;rw[B9k (l:=Lib.leBytes 8 x) (i:=8) (by rw[A4R];exact B8s _)]at h5;have e4:((y0::m).take (j+1)).flatMap (Lib.leBytes 8)=((y0::m).take j).flatMap (Lib.leBytes 8)++Lib.leBytes 8 x:=by
       rw[B9X hjl,C0v,Hx.out];simp
      rw[e4];exact h5
     case measure=>simp[intOf];omega
  ·obtain rfl:j=n+1:=by omega
   have hbox:Blk wr w.heap.size 44 #[.int .u64 0,.string ⟨#[]⟩]:=(Hbel2.out.block w.heap.size (by omega)).trans (Blk.new w 44 _);have hcell:wr.cell? ⟨b,off,none⟩=some (.int .u64 (x0:Nat)):=by
    rw[Hbel2.out.cell (p:=⟨b,off,none⟩) (by show b<_;omega),World.cell?_alloc_lt _ _ _ (show b<_ from hbw)];have:=Hw.out.cell (i:=0) (by rw[Hlen.out];omega);rw[Nat.add_zero]at this;rw[this];have h3:(D6 l)[0]?=some x0:=by rw[Hl.out];rfl
    obtain⟨h4,h5⟩:=List.getElem?_eq_some_iff.1 h3;rw[h5]
   have hstr:Calls Tryz.prog 182 #[.pointer (some ⟨w.heap.size+1,0,none⟩)] wr.drew λe w'=>e = .returned (.string (B6 (val W64 l)))/\Below (w.heap.size+1) wr w':=by
    have hsz:=Hbel2.out.size;simp only[I9]at hsz;have hat:=Hat2.out;rw[B9k (by rw[List.length_cons,<-Hn.out];exact B8s _)]at hat;refine(Tryz.Builder_String_any (w.heap.size+1) (w.heap.size+1) _ wr.drew (.inr hat.drew) hsz).mono λe w' ⟨he,hb⟩=>⟨?_,((Below.refl _ wr).drew).trans hb⟩
    rw[he];have h6:=A1X Hd.out;have h7:=A47 l;rw[Hl.out]at h6 h7
    have h8:=(B0i (x:=x0) (l:=y0::m) (h6 x0 (by simp)) (λz hz=>h6 z (by simp[hz])) (by
     rcases h7 with h7|h7
     ·cases h7
     ·exact .inr (by simpa [C0Z]using h7))).2
    rw[<-Hl.out,A1B]at h8;unfold B6;rw[h8]
   have Hstr:=B9I hstr;have hlo:B8 (val W64 l)=(x0:Nat):=by
    have h6:=A1X Hd.out;have h7:=A47 l;rw[Hl.out]at h6 h7
    have h8:=(B0i (x:=x0) (l:=y0::m) (h6 x0 (by simp)) (λz hz=>h6 z (by simp[hz])) (by
     rcases h7 with h7|h7
     ·cases h7
     ·exact .inr (by simpa [C0Z]using h7))).1
    rw[<-Hl.out,A1B]at h8;exact h8
   have Hlo:=B9I hlo;clear hstr hlo;have hidx:(0:Int)<(n:Int)+2:=by omega
   go_wp2_with fail
   go_region_held3 (λw'=>w'.cell? ⟨b,off,none⟩=some (.int .u64 (x0:Nat))) (first|exact(hb5.cell (p:=⟨b,off,none⟩) (by show b<_;omega)).trans hcell|exact hcell|exact(World.cell?_setCell_far _ _ _ _ (by show w.heap.size≠b;omega)).trans ((World.cell?_setCell_far _ _ _ _ (by show w.heap.size≠b;omega)).trans ((hb5.cell (p:=⟨b,off,none⟩) (by show b<_;omega)).trans hcell)))
    (first|(go_at_call 182;(refine Hstr.out.mono ?_);rintro e w5 ⟨rfl,hb5⟩;have hbx5:Blk w5 w.heap.size 44 #[.int .u64 0,.string ⟨#[]⟩]:=(hb5.block w.heap.size (by omega)).trans hbox;have hq:=hbx5.cell;have hqf:=hbx5.frozen))
   go_wp2_with fail;have h6:=((hbx5.set_ 0 (.int .u64 (x0:Nat))).set_ 1 (.string (B6 (val W64 l)))).cell;simp only[List.setIfInBounds_toArray,List.set_cons_zero,List.set_cons_succ]at h6;refine B9B (v:=.agg #[.int .u64 (x0:Nat),.string (B6 (val W64 l))]) (by simp[results,Tryz.results146,go_sem,h6]) rfl ⟨?_,?_⟩
   ·rw[B2,Hlo.out]
   ·have h1:A4 w wr:=((Below.refl w.heap.size w).alloc (B8s _) _).trans (Hbel2.out.mono (by omega));have h2:A4 w w5:=Below.trans h1 (hb5.mono (by omega));exact(h2.setCell (p:=⟨w.heap.size,0,none⟩) (B8s _) _).setCell (p:=⟨w.heap.size,1,none⟩) (B8s _) _
theorem B7t(A:Option Addr)(l:List Nat)(c:Nat)(w:World)(h:Rd w A l)(hc:l.length<=c)(hcm:c<=9223372036854775807)(h0:D6 l=[]) :
  Calls Tryz.prog 146 #[.slice A l.length c] w λe w'=>e = .returned (B2 0)/\A4 w w':=by
 have htrim:∀W:World,A4 w W->Calls Tryz.prog 179 #[.slice A l.length c] W λe w'=>e = .returned (.slice A 0 c)/\W=w':=by
  intro W hg;have:=A4h A l c W (h.grow hg) hc (by omega);rw[h0]at this;exact this
 have Htrim:=B9I htrim;clear htrim h0 h;go_enter Tryz.func146,Tryz.ntmps146;go_wp2_with (go_at_call 179;((with_reducible refine(Htrim.out _ (A4.alloc _ _)).mono ?_);rintro e w1 ⟨rfl,rfl⟩));exact B9B (v:=.agg #[.int .u64 0,.string ⟨#[]⟩]) (by simp[results,Tryz.results146,go_sem]) rfl ⟨rfl,A4.alloc _ _⟩
theorem B4n(A:Option Addr)(l:List Nat)(c:Nat)(w:World)(h:Rd w A l)(hc:l.length<=c)(hcm:c<=9223372036854775807)(x:Nat)(h0:D6 l=[x]) :
  Calls Tryz.prog 146 #[.slice A l.length c] w λe w'=>e = .returned (.agg #[.int .u64 (x:Nat),.string ⟨#[]⟩])/\A4 w w':=by
 have htrim:∀W:World,A4 w W->Calls Tryz.prog 179 #[.slice A l.length c] W λe w'=>e = .returned (.slice A 1 c)/\W=w':=by
  intro W hg;have:=A4h A l c W (h.grow hg) hc (by omega);rw[h0]at this;exact this
 have hne:l≠[]:=by rintro rfl;cases h0
 obtain⟨b,off,hA,hw⟩:=h hne;have hlt:=hw.lt;have hcell:w.cell? ⟨b,off,none⟩=some (.int .u64 (x:Nat)):=by
  have h2:Wds w b off (D6 l):=by rw[A21];exact hw.take _
  rw[h0]at h2;exact h2.cell (i:=0) (by simp)
 subst hA;have hcell2:(w.alloc (.cells #[.int .u64 0,.string ⟨#[]⟩] 44)).cell? ⟨b,off,none⟩=some (.int .u64 (x:Nat)):=(World.cell?_alloc_lt _ _ _ hlt).trans hcell;have Htrim:=B9I htrim;clear htrim h0 h hw hne;go_enter Tryz.func146,Tryz.ntmps146;go_wp2_with (go_at_call 179;((with_reducible refine(Htrim.out _ (A4.alloc _ _)).mono ?_);rintro e w1 ⟨rfl,rfl⟩));exact B9B (v:=.agg #[.int .u64 (x:Nat),.string ⟨#[]⟩]) (by simp[results,Tryz.results146,go_sem]) rfl ⟨rfl,A4.alloc _ _⟩
theorem Z7(A:Option Addr)(l:List Nat)(c:Nat)(w:World)(h:Rd w A l)(hd:Dig W64 l)(hc:l.length<=c)(hm:l.length<=34359738368)(hcm:c<=9223372036854775807) :
  Calls Tryz.prog 146 #[.slice A l.length c] w λe w'=>e = .returned (B2 (val W64 l))/\A4 w w':=by
 cases ht:D6 l with
 | nil =>
  have:val W64 l=0:=by rw[<-A1B,ht];rfl
  rw[this];exact B7t A l c w h hc hcm ht
 | cons x m =>
  cases m with
  | nil =>
   have hx:x<W64:=A1X hd x (by rw[ht];simp);have:val W64 l=x:=by rw[<-A1B,ht];simp[val]
   rw[this,B2,O4 hx,A2s hx];exact B4n A l c w h hc hcm x ht
  | cons y m=>exact B8L A l c w h hd hc hm hcm (by rw[ht];simp)
end Go.Proofs.YtgpglgbcobeogaaGreatDoor
