import Derived.Test.YtgpglgbcobeogaaGreatDoorL4
set_option linter.unusedSimpArgs false
set_option linter.unusedVariables false
set_option maxHeartbeats 1000000
set_option maxRecDepth 100000
namespace Go.Proofs.YtgpglgbcobeogaaGreatDoor
open Go.RowKit
def Wds(u:World)(b off:Nat)(l:List Nat):Prop:=∃cs:Array Value,Blk u b 42 cs/\∀i x,l[i]?=some x->cs[off+i]?=some (.int .u64 (x:Nat))
theorem Wds.grow{u u':World}{b off:Nat}{l:List Nat}(hg:A4 u u')(h:Wds u b off l):Wds u' b off l:=by
 obtain⟨cs,hb,hc⟩:=h;exact⟨cs,hb.grow hg,hc⟩
theorem Wds.lt{u:World}{b off:Nat}{l:List Nat}(h:Wds u b off l):b<u.heap.size:=by
 obtain⟨cs,hb,hc⟩:=h;exact hb.lt
theorem Wds.cell{u:World}{b off:Nat}{l:List Nat}(h:Wds u b off l){i:Nat}(hi:i<l.length):u.cell? ⟨b,off+i,none⟩=some (.int .u64 (l[i]:Nat)):=by
 obtain⟨cs,hb,hc⟩:=h;rw[hb.cell];exact hc i _ (B8i hi)
theorem Wds.frozen{u:World}{b off:Nat}{l:List Nat}(h:Wds u b off l)(i:Nat):u.frozen? ⟨b,i,none⟩=false:=by
 obtain⟨cs,hb,hc⟩:=h;exact hb.frozen i
theorem Wds.set{u:World}{b off:Nat}{l:List Nat}(h:Wds u b off l)(i y:Nat)(hi:i<l.length):Wds (u.setCell ⟨b,off+i,none⟩ (.int .u64 (y:Nat))) b off (l.set i y):=by
 obtain⟨cs,hb,hc⟩:=h;refine⟨_,hb.set_ (off+i) _,λj x hj=>?_⟩;have hin:off+i<cs.size:=(Array.getElem?_eq_some_iff.1 (hc i _ (B8i hi))).1;rw[List.getElem?_set]at hj;by_cases hij:i=j
 ·subst hij;simp only[if_pos hi,if_true]at hj;injection hj with hj;subst hj;simp[hin]
 ·rw[if_neg hij]at hj;rw[Array.getElem?_setIfInBounds_ne (by omega)];exact hc j x hj
theorem Wds.far{u:World}{b off:Nat}{l:List Nat}(h:Wds u b off l){p:Addr}(hp:b≠p.block)(v:Value):Wds (u.setCell p v) b off l:=by
 obtain⟨cs,hb,hc⟩:=h;exact⟨cs,hb.far hp v,hc⟩
theorem Wds.take{u:World}{b off:Nat}{l:List Nat}(h:Wds u b off l)(n:Nat):Wds u b off (l.take n):=by
 obtain⟨cs,hb,hc⟩:=h;refine⟨cs,hb,λi x hi=>hc i x ?_⟩;rw[B9b]at hi;split at hi
 ·exact hi
 ·cases hi
theorem Wds.drop{u:World}{b off:Nat}{l:List Nat}(h:Wds u b off l)(n:Nat):Wds u b (off+n) (l.drop n):=by
 obtain⟨cs,hb,hc⟩:=h;refine⟨cs,hb,λi x hi=>?_⟩;rw[List.getElem?_drop]at hi;rw[B9g];exact hc _ x hi
def Rd(u:World)(A:Option Addr)(l:List Nat):Prop:=l≠[]->∃b off,A=some ⟨b,off,none⟩/\Wds u b off l
theorem Rd.nil(u:World)(A:Option Addr):Rd u A []:=λh=>absurd rfl h
theorem Rd.grow{u u':World}{A:Option Addr}{l:List Nat}(hg:A4 u u')(h:Rd u A l):Rd u' A l:=λhn=>by
 obtain⟨b,off,e,hw⟩:=h hn;exact⟨b,off,e,hw.grow hg⟩
theorem Rd.take{u:World}{A:Option Addr}{l:List Nat}(h:Rd u A l)(n:Nat):Rd u A (l.take n):=λhn=>by
 obtain⟨b,off,e,hw⟩:=h (λh0=>hn (by rw[h0];simp));exact⟨b,off,e,hw.take n⟩
def E4:List Nat->List Nat
 | []=>[]
 | x::l=>match E4 l with
  | []=>if x=0 then []else [x]
  | y::m=>x::y::m
theorem A5L(l:List Nat):E4 (l++[0])=E4 l:=by
 induction l with
 | nil=>rfl
 | cons x l ih=>simp only[List.cons_append,E4,ih]
theorem A55(l:List Nat){x:Nat}(hx:x≠0):E4 (l++[x])=l++[x]:=by
 induction l with
 | nil=>simp[E4,hx]
 | cons y l ih =>
  simp only[List.cons_append,E4,ih]
  cases h:l++[x]with
  | nil=>simp at h
  | cons z m=>rfl
theorem A2p(l:List Nat):(E4 l).length<=l.length:=by
 induction l with
 | nil=>simp[E4]
 | cons x l ih =>
  simp only[E4];split
  ·split<;>simp
  ·rename_i h;rw[h]at ih;simp at ih⊢;omega
theorem A2X(l:List Nat):E4 l=l.take (E4 l).length:=by
 induction l with
 | nil=>rfl
 | cons x l ih =>
  simp only[E4];split
  ·split<;>simp
  ·rename_i y m h;rw[h]at ih;simp only[List.length_cons,List.take_succ_cons]at ih⊢;rw[<-ih]
theorem A00(B:Nat)(l:List Nat):val B (E4 l)=val B l:=by
 induction l with
 | nil=>rfl
 | cons x l ih =>
  simp only[E4];split
  ·rename_i h;rw[h]at ih;simp only[A6k]at ih;split
   ·rename_i h0;subst h0;simp[val,<-ih]
   ·simp[val,<-ih]
  ·rename_i h;rw[h]at ih;rw[O7,ih,O7]
theorem A4v(l:List Nat):W6 (E4 l):=by
 induction l with
 | nil=>exact .inl rfl
 | cons x l ih =>
  simp only[E4];split
  ·split
   ·exact .inl rfl
   ·rename_i h0;exact .inr (by simpa using h0)
  ·rename_i h;rw[h]at ih;rcases ih with ih|ih
   ·cases ih
   ·exact .inr (by simpa [B9j]using ih)
theorem A1K{B:Nat}{l:List Nat}(h:Dig B l):Dig B (E4 l):=λx hx=>by
 rw[A2X]at hx;exact h x (B8p hx)
theorem A60{B:Nat}(hB:2<=B){l:List Nat}(h:Dig B l):E4 l=B4 B (val B l):=by
 rw[<-A00 B l,A4Y hB _ (A1K h) (A4v l)]
theorem A4P(A:Option Addr)(l:List Nat)(c:Nat)(w:World)(h:Rd w A l)(hc:l.length<=c)(hm:c<=9223372036854775807) :
  Calls Tryz.prog 179 #[.slice A l.length c] w λe w'=>e = .returned (.slice A (E4 l).length c)/\w=w':=by
 have H:=B8S h;clear h;obtain⟨n,hn⟩:∃n,n=l.length:=⟨_,rfl⟩
 rw[<-hn];rw[<-hn]at hc;have Hn:=B8S hn;clear hn;go_enter Tryz.func179,Tryz.ntmps179;go_wp2;go_loop [0] (λs=>∃k:Nat,k<=n/\s = .slice A k c/\E4 (l.take k)=E4 l) (λs=>match s with | .slice _ k _=>k|_=>0)
 case atStart=>exact⟨n,K2 _,rfl,by rw[B8u (by rw[Hn.out];exact K2 _)]⟩
 case round =>
  obtain⟨k,hk,rfl,ht⟩:=hrel;have Ht:=B8S ht;clear ht;rcases B8M k with rfl|hpos
  ·go_wp2;go_ret;refine⟨?_,rfl⟩;have:E4 l=[]:=by rw[<-Ht.out];rfl
   rw[this];rfl
  ·have hkl:k-1<l.length:=by rw[<-Hn.out];omega
   obtain⟨b,off,rfl,hw⟩:=H.out (by rintro rfl;simp at hkl);have hcell:=hw.cell hkl;have Hw:=B8S hw;clear hw;have hsn:l.take k=l.take (k-1)++[l[k-1]]:=by
    have:=B8h hkl;rw[show k-1+1=k by omega]at this;exact this
   have Hsn:=B8S hsn;clear hsn;obtain⟨x,hx⟩:∃x,x=l[k-1]:=⟨_,rfl⟩
   rw[<-hx]at hcell;have Hx:=B8S hx;clear hx;have hidx:(0:Int)<=(k:Int)-1:=by omega
   by_cases h0:x=0
   ·subst h0;go_wp2;go_round
    case rel=>exact⟨k-1,by omega,by go_num,by rw[<-Ht.out,Hsn.out,<-Hx.out,A5L]⟩
    case measure=>simp;omega
   ·have hb:((x:Int) == 0)=false:=by simpa using h0
    go_wp2;go_ret;refine⟨?_,rfl⟩;have:E4 l=l.take k:=by rw[<-Ht.out,Hsn.out,A55 _ (by rw[<-Hx.out];exact h0)]
    rw[this,List.length_take,B83 (by omega)];rfl
def D3(l:List Nat):Array Value:=(l.map λx=>Value.int .u64 (x:Nat)).toArray
theorem A0N(l:List Nat)(i:Nat):(D3 l)[i]?=(l[i]?).map λx=>Value.int .u64 (x:Nat):=by
 unfold D3;simp
def D8(u:World)(b:Nat)(l:List Nat):Prop:=Blk u b 42 (D3 l)
theorem D8.wds{u:World}{b:Nat}{l:List Nat}(h:D8 u b l):Wds u b 0 l:=by
 refine⟨_,h,λi x hi=>?_⟩;rw[Nat.zero_add,A0N,hi];rfl
theorem D8.grow{u u':World}{b:Nat}{l:List Nat}(hg:A4 u u')(h:D8 u b l):D8 u' b l:=Blk.grow hg h
theorem D8.cell{u:World}{b:Nat}{l:List Nat}(h:D8 u b l)(i:Nat):u.cell? ⟨b,i,none⟩=(l[i]?).map λx=>Value.int .u64 (x:Nat):=by
 rw[Blk.cell h,A0N]
theorem D8.frozen{u:World}{b:Nat}{l:List Nat}(h:D8 u b l)(i:Nat):u.frozen? ⟨b,i,none⟩=false:=Blk.frozen h i
theorem A2Z(l:List Nat)(i y:Nat):(D3 l).setIfInBounds i (.int .u64 (y:Nat))=D3 (l.set i y):=by
 unfold D3;rw[List.setIfInBounds_toArray,List.map_set]
theorem D8.set{u:World}{b:Nat}{l:List Nat}(h:D8 u b l)(i y:Nat):D8 (u.setCell ⟨b,i,none⟩ (.int .u64 (y:Nat))) b (l.set i y):=by
 have:=Blk.set_ h i (.int .u64 (y:Nat));rw[A2Z]at this;exact this
theorem D8.far{u:World}{b:Nat}{l:List Nat}(h:D8 u b l){p:Addr}(hp:b≠p.block)(v:Value):D8 (u.setCell p v) b l:=Blk.far h hp v
theorem D8.lt{u:World}{b:Nat}{l:List Nat}(h:D8 u b l):b<u.heap.size:=Blk.lt h
theorem A5e:(Tryz.prog.info? 42).map (λi=>(i.zero,i.size,i.bytes))=some (some (.int .u64 0),1,8):=by kernel_rfl
theorem B47(n:Nat):madeCells (Value.int .u64 0).cells (n*1)=D3 (List.replicate n 0):=by
 unfold D3 madeCells;refine Array.ext (by simp) λi h1 h2=>?_;simp[Value.cells,Nat.mod_one]
theorem A1X(n:Nat)(hn:n<=1099511627776)(x:Int)(hx:x=n)(W:World):(Instr.makeSlice 205 (.int .i64 x) (.int .i64 x)).run Tryz.prog W =
  .ok (.slice (some ⟨W.heap.size,0,none⟩) n n) (W.alloc (.cells (D3 (List.replicate n 0)) 42)):=by
 obtain⟨i0,hi0,hz0,hz1,hz2⟩:=B8d A5e;have hr:=run_make (P:=Tryz.prog) W 205 42 i0 (.int .u64 0) Tryz.underlying205 hi0 hz0 .i64 .i64 n n (by omega) (by omega) (by rw[hz2];omega) (by omega);rw[hx];rw[hr,hz1];simp only[Int.toNat_natCast];rw[B47]
def A1G(l:List Nat)(k:Nat):List Nat:=l.take k++List.replicate (l.length-k) 0
theorem B2v(l:List Nat){k:Nat}(h:k<l.length):(A1G l k)[k]?=some 0:=by
 unfold A1G;rw[B9v (by simp;omega),B9f,if_pos (by simp;omega)]
theorem B56(l:List Nat){k:Nat}(h:k<l.length):(A1G l k).set k l[k]=A1G l (k+1):=by
 unfold A1G;rw[List.set_append_right _ _ (by simp;omega),B8h h,B8e];congr 1;rw[List.length_take,B83 (by omega),B8g];obtain⟨m,hm⟩:∃m,l.length-k=m+1:=⟨l.length-k-1,by omega⟩
 rw[hm,show l.length-(k+1)=m by omega];rfl
theorem B7r(l:List Nat):A1G l l.length=l:=by
 unfold A1G;simp
def A0d(a i:Nat):List Nat:=A1G (B4 W64 a) i
theorem B7j(a:Nat)(ha:bl a<=1099511627776)(h0:a≠0)(w:World) :
  Calls Tryz.prog 148 #[B5 a] w λe w'=>∃b,w.heap.size<=b/\e = .returned (.slice (some ⟨b,0,none⟩) (B4 W64 a).length (B4 W64 a).length)/\D8 w' b (B4 W64 a)/\A4 w w':=by
 obtain⟨m,hm⟩:∃m,m=(D9 a).length:=⟨_,rfl⟩
 have hub:=A58 a;rw[<-hm]at hub;have hsz:(B8 a).size=8*m:=by rw[A0q,hm]
 have hq:((B8 a).size:Int)/8=(m:Int):=by omega
 have hmm:m<=1099511627776:=by omega
 have hmk:=A1X (m+1) (by omega) (1+(m:Int)) (by omega);have hlen:(B4 W64 a).length=m+1:=by rw[A4z h0,List.length_cons,hm]
 have Hlen:=B8S hlen;have Hm:=B8S hm;have Hsz:=B8S hsz;have hszl:(B8 a).size<=8796093022208:=by omega
 clear hub hlen hm;have hT:∃b1 b2:Bool,(B8 a).toList.isEmpty=b1/\(C4 a == 0)=b2/\(b1&&b2)=false:=by
  refine⟨_,_,rfl,rfl,?_⟩;rw[Q4,B8z];by_cases hs:a<W64
  ·right;rw[N9 hs]
   simpa using h0
  ·left
   simpa using hs
 obtain⟨b1,b2,hb1,hb2,hb12⟩:=hT;have fin:∀wr:World,D8 wr (w.heap.size+1) (A0d a (m+1))->A4 w wr->∃b,w.heap.size<=b/\Ending.returned (.slice (some ⟨w.heap.size+1,0,none⟩) (m+1) (m+1)) = .returned (.slice (some ⟨b,0,none⟩) (B4 W64 a).length (B4 W64 a).length)/\D8 wr b (B4 W64 a)/\A4 w wr:=by
  intro wr h1 h2;refine⟨w.heap.size+1,by omega,by rw[Hlen.out],?_,h2⟩;have:A0d a (m+1)=B4 W64 a:=by
   unfold A0d;rw[<-Hlen.out,B7r]
  rw[<-this];exact h1
 have Hfin:=B8S fin;clear fin;have start:∀W:World,D8 (W.alloc (.cells ((D3 (List.replicate (m+1) 0)).setIfInBounds 0 (.int .u64 (C4 a))) 42)) W.heap.size (A0d a 1):=by
  intro W;have h1:(D3 (List.replicate (m+1) 0)).setIfInBounds 0 (.int .u64 (C4 a))=D3 (A0d a 1):=by
   show(D3 (List.replicate (m+1) 0)).setIfInBounds 0 (.int .u64 ((a%W64:Nat):Int))=_;rw[A2Z];congr 1;unfold A0d A1G;rw[Hlen.out,A4z h0];rfl
  rw[h1];exact Blk.new W 42 _
 have Hstart:=B8S start;clear start;cases b1<;>cases b2<;>first|(exact absurd hb12 (by decide))|skip
 all_goals
  clear hb12;go_enter Tryz.func148,Tryz.ntmps148;go_wp2;clear hmk;go_loopw [4] (λi wr=>∃k:Nat,1<=k/\k<=m+1/\i = .int .i64 k/\D8 wr (w.heap.size+1) (A0d a k)/\Blk wr w.heap.size 44 #[.int .u64 (C4 a),.string (B8 a)]/\A4 w wr) (λi _=>m+1-(intOf i).toNat)
  case atStart=>exact⟨1,by omega,by omega,rfl,by simpa using Hstart.out (w.alloc (.cells #[.int .u64 (C4 a),.string (B8 a)] 44)),(Blk.new w 44 _).grow (A4.alloc _ _),(A4.alloc _ _).trans (A4.alloc _ _)⟩
  case round =>
   obtain⟨k,hk1,hk2,rfl,hrow,hbox,hG⟩:=hrel;rcases B73 k (m+1)with hlt|hge
   ·have hbc:=hbox.cell;have hiu:k-1<(D9 a).length:=by rw[<-Hm.out];omega
    have hu:(B4 W64 a)[k]?=some ((D9 a)[k-1]):=by
     rw[A4z h0];obtain⟨j,rfl⟩:∃j,k=j+1:=⟨k-1,by omega⟩
     simp
    obtain⟨x,hx⟩:∃x,x=(D9 a)[k-1]:=⟨_,rfl⟩
    rw[<-hx]at hu;have Hx:=B8S hx;have Hu:=B8S hu;clear hx hu;have hl1:(0:Int)<=(k:Int)-1:=by omega
    have hl2:8*((k:Int)-1)<=((B8 a).size:Int):=by rw[Hsz.out];omega
    have hword:∀W:World,Calls Tryz.prog 165 #[.string ((B8 a).extract (8*(k-1)) (8*m))] W λe w'=>e = .returned (.int .u64 (x:Nat))/\A4 W w':=by
     intro W;rw[Hx.out,<-Hsz.out];exact A4f a (k-1) hiu _ (Lib.extract_to_end _ _) W
    have Hword:=B8S hword;have Hrow:=B8S hrow;have Hbox:=B8S hbox;clear hword hrow hbox;have hz:(A0d a k)[k]?=some 0:=by
     exact B2v _ (by rw[Hlen.out];exact hlt)
    have Hz:=B8S hz;clear hz;have hst:∀w1:World,A4 wr w1->w1.cell? ⟨w.heap.size+1,k,none⟩=some (.int .u64 0)/\w1.frozen? ⟨w.heap.size+1,k,none⟩=false:=λw1 hb =>
     ⟨(((Hrow.out).grow hb).cell k).trans (by rw[Hz.out];rfl),((Hrow.out).grow hb).frozen k⟩
    have Hst:=B8S hst;clear hst;go_wp2_with (go_at_call 165;((with_reducible refine(Hword.out _).mono ?_);rintro e w1 ⟨rfl,hb⟩;obtain⟨hc1,hf1⟩:=Hst.out w1 hb));go_roundw
    case rel =>
     refine⟨k+1,by omega,by omega,by go_num,?_,?_,?_⟩
     ·have:=(Hrow.out.grow hb).set k x;have e:(A0d a k).set k x=A0d a (k+1):=by
       unfold A0d;rw[<-B56 _ (by rw[Hlen.out];exact hlt)];congr 1;have:=List.getElem?_eq_some_iff.1 Hu.out;exact this.2.symm
      rw[e]at this;exact this
     ·exact(Hbox.out.grow hb).far (by simp) _
     ·exact(hG.trans hb).setCell (by simp) _
    case measure=>simp[intOf];omega
   ·obtain rfl:k=m+1:=by omega
    go_wp2;go_ret;exact Hfin.out _ hrow hG
theorem B39(w:World):Calls Tryz.prog 148 #[B5 0] w λe w'=>e = .returned (.slice none 0 0)/\A4 w w':=by
 have hE:(B8 0).toList.isEmpty=true:=by rw[Q4];exact B87 C6
 have hZ:(C4 0 == 0)=true:=rfl;go_enter Tryz.func148,Tryz.ntmps148;go_wp2;go_ret;exact⟨rfl,A4.alloc _ _⟩
def Own(w u:World)(A:Option Addr)(l:List Nat):Prop:=l≠[]->∃b,w.heap.size<=b/\A=some ⟨b,0,none⟩/\D8 u b l
theorem Own.grow{w u u':World}{A:Option Addr}{l:List Nat}(hg:A4 u u')(h:Own w u A l):Own w u' A l:=λhn=>by
 obtain⟨b,hb,e,hw⟩:=h hn;exact⟨b,hb,e,hw.grow hg⟩
theorem Own.rd{w u:World}{A:Option Addr}{l:List Nat}(h:Own w u A l):Rd u A l:=λhn=>by
 obtain⟨b,hb,e,hw⟩:=h hn;exact⟨b,0,e,hw.wds⟩
theorem Own.since{w v u:World}{A:Option Addr}{l:List Nat}(hg:A4 w v)(h:Own v u A l):Own w u A l:=λhn=>by
 obtain⟨b,hb,e,hw⟩:=h hn;exact⟨b,B8K hg.size hb,e,hw⟩
theorem A01(a:Nat)(ha:bl a<=1099511627776)(w:World) :
  Calls Tryz.prog 148 #[B5 a] w λe w'=>∃A,e = .returned (.slice A (B4 W64 a).length (B4 W64 a).length)/\Own w w' A (B4 W64 a)/\A4 w w':=by
 by_cases h0:a=0
 ·subst h0;exact(B39 w).mono λe w' ⟨he,hg⟩=>⟨none,he,λh=>absurd rfl h,hg⟩
 ·exact(B7j a ha h0 w).mono λe w' ⟨b,hb,he,hr,hg⟩=>⟨_,he,λ_=>⟨b,hb,rfl,hr⟩,hg⟩
theorem B7T:(Tryz.prog.info? 241).map (·.size)=some 2:=by kernel_rfl
theorem A7J:(Tryz.prog.info? 5).map (λi=>(i.zero,i.size,i.bytes))=some (some (.int .u8 0),1,1):=by kernel_rfl
theorem B5b(b:Nat)(w:World)(h0:w.cell? ⟨b,0,none⟩=some (.pointer (some ⟨b,0,none⟩))) :
  Calls Tryz.prog 205 #[.pointer (some ⟨b,0,none⟩)] w λe w'=>e = .returned (.tuple #[])/\w'=w:=by
 obtain⟨j,hj,_⟩:=Option.map_eq_some_iff.1 B7T;go_enter Tryz.func205,Tryz.ntmps205;go_wp2;rw[Lib.run_neq_ptr_same w _ Tryz.underlying239 hj];go_wp2;go_end0;exact⟨rfl,rfl⟩
theorem B3t(B b:Nat)(bs:List Value)(c:Int)(w:World)(h:Lib.BuilderAt 241 5 B b (.pointer (some ⟨b,0,none⟩)) bs w)(hlen:bs.length+1<=140737488355328)(hBw:B<=w.heap.size) :
  Calls Tryz.prog 181 #[.pointer (some ⟨b,0,none⟩),.int .u8 c] w λe w'=>e = .returned .nilIface/\(Lib.BuilderAt 241 5 B b (.pointer (some ⟨b,0,none⟩)) (bs++[.int .u8 c]) w'/\Below B w w'):=by
 obtain⟨i0,hi,hz0,hz1,hz2⟩:=B8d A7J;obtain⟨hB,v,hbk,hown,hne⟩:=h;have c0:w.cell? ⟨b,0,none⟩=some (.pointer (some ⟨b,0,none⟩)):=by rw[Lib.cell_of_heap hbk];rfl
 have c1:w.cell? ⟨b,1,none⟩=some v:=by rw[Lib.cell_of_heap hbk];rfl
 go_enter Tryz.func181,Tryz.ntmps181
 go_wp2_with (first
  | (go_at_call 205;(refine(B5b b w c0).mono ?_);rintro e w1 ⟨rfl,rfl⟩)
  | (at_builtin;refine wpList_append_own _ rfl _ _ 186 rfl B 5 i0 (.int .u8 0) 1 1 Tryz.underlying186 hi hz0 hz1 hz2 rfl (by decide) _ _ _ rfl (hown.alloc _) ⟨_,0,none⟩ 1 1 [.int .u8 c] rfl rfl ?c1 ?c2 ?c3 ?c4 ?c5 ?_))
 case c1 =>
  intro j u hj
  match j,hj with
  | 0,hj=>simp at hj;subst hj;simp[Addr.add]
 case c2=>intro u hu;simp at hu;subst hu;rfl
 case c3=>unfold maxLen;omega
 case c4=>omega
 case c5=>simp;omega
 intro v' w2 hown' hgrow _;have hlt:b<w1.heap.size:=by
  rcases B73 b w1.heap.size with h'|h'
  ·exact h'
  ·simp[Array.getElem?_eq_none h']at hbk
 have hb2:w2.heap[b]?=some (.cells #[.pointer (some ⟨b,0,none⟩),v] 241 (0,0)):=by
  rw[hgrow.block b (by simp;omega) (λe=>hne e.symm),Lib.alloc_old w1 _ b hlt];exact hbk
 have d0:w2.cell? ⟨b,0,none⟩=some (.pointer (some ⟨b,0,none⟩)):=by rw[Lib.cell_of_heap hb2];rfl
 have d1:w2.cell? ⟨b,1,none⟩=some v:=by rw[Lib.cell_of_heap hb2];rfl
 have f1:w2.frozen? ⟨b,1,none⟩=false:=Lib.frozen_of_heap hb2 1;obtain⟨g,cap,rfl⟩:∃g cap,v' = .slice (some ⟨g,0,none⟩) (bs.length+1) cap:=by
  rcases hown'.2 with⟨_,h0⟩|⟨g,cap,cur,hv,_⟩
  ·omega
  ·exact⟨g,cap,hv⟩
 go_wp2;go_ret;refine⟨rfl,?_,?_⟩
 ·exact Lib.BuilderAt.put (T:=241) (e:=5) hB hb2 (bs':=bs++[.int .u8 c]) (by simpa using hown') (by decide)
 ·exact(((Below.refl B w1).alloc hBw _).grown hgrow (by simp;omega) (λk hk=>(hown.lt k hk).1)).setCell (p:=⟨b,1,none⟩) hB _
theorem A94{x:Nat}{l:List Nat}(hx:x<W64)(hl:Dig W64 l)(ht:W6 l):C4 (val W64 (x::l))=x/\D9 (val W64 (x::l))=l:=by
 have e1:val W64 (x::l)%W64=x:=by simp only[val];rw[B9I,Nat.mod_eq_of_lt hx]
 have e2:val W64 (x::l)/W64=val W64 l:=by simp only[val];rw[B9k _ _ C6,B80 hx,Nat.zero_add]
 refine⟨by unfold C4;rw[e1],?_⟩;unfold D9;rw[e2,A4Y E5 _ hl ht]
theorem B29(l:List UInt8)(c:UInt8):Lib.byteCells l++[.int .u8 (c.toNat:Int)]=Lib.byteCells (l++[c]):=by
 simp[Lib.byteCells]
theorem A9I(x:Nat):∀(n k:Nat),k<n->(Lib.leBytes n x)[k]?=some ((x/256^k%256).toUInt8)
 | 0,_,h=>absurd h (C0C _)
 | n+1,0,_=>by simp[Lib.leBytes]
 | n+1,k+1,h=>by
  rw[Lib.leBytes,List.getElem?_cons_succ,A9I (x/256) n k (by omega),B8W,Nat.pow_succ,B8t]
theorem B5g(A:Option Addr)(l:List Nat)(c:Nat)(w:World)(h:Rd w A l)(hd:Dig W64 l)(hc:l.length<=c)(hm:l.length<=34359738368)(hcm:c<=9223372036854775807)(h2:2<=(E4 l).length) :
  Calls Tryz.prog 146 #[.slice A l.length c] w λe w'=>e = .returned (B5 (val W64 l))/\A4 w w':=by
 obtain⟨x0,y0,m,hl⟩:∃x y m,E4 l=x::y::m:=by
  match E4 l,h2 with
  | x::y::m,_=>exact⟨x,y,m,rfl⟩
 obtain⟨n,hn⟩:∃n,n=m.length:=⟨_,rfl⟩
 have hlen:(E4 l).length=n+2:=by rw[hl,hn];rfl
 have hle:=A2p l;obtain⟨b,off,hA,hw⟩:=h (by rintro rfl;simp[E4]at h2);subst hA;have hw2:Wds w b off (E4 l):=by rw[A2X];exact hw.take _
 have hbw:=hw.lt;have Hw:=B8S hw2;have Hl:=B8S hl;have Hn:=B8S hn;have Hd:=B8S hd;have Hlen:=B8S hlen;have htrim:∀W:World,A4 w W->Calls Tryz.prog 179 #[.slice (some ⟨b,off,none⟩) l.length c] W λe w'=>e = .returned (.slice (some ⟨b,off,none⟩) (n+2) c)/\W=w':=by
  intro W hg;have:=A4P (some ⟨b,off,none⟩) l c W (h.grow hg) hc (by omega);rw[hlen]at this;exact this
 have Htrim:=B8S htrim;have hnc:n+2<=c:=by omega
 have hnm:n+2<=34359738368:=by omega
 clear hm;clear htrim hlen hd hn hl hw2 hw h h2 hle hc;go_enter Tryz.func146,Tryz.ntmps146;go_wp2_with (go_at_call 179;((with_reducible refine(Htrim.out _ (A4.alloc _ _)).mono ?_);rintro e w1 ⟨rfl,rfl⟩));rw[show(8*((n:Int)+2-1))=((8*(n+1):Nat):Int)from by omega];refine(Tryz.Builder_Grow_fresh_cap (w.heap.size+1) (w.heap.size+1) (8*(n+1)) _ (K2 _) (by have:=Blk.new (w.alloc (.cells #[.int .u64 0,.string ⟨#[]⟩] 44)) 241 #[.pointer none,.slice none 0 0];simpa [Blk]using this) (by simp) (by omega)).mono ?_;rintro e w1 ⟨rfl,⟨hat,hbel⟩,-⟩;have hG1:Below (w.heap.size+1) (w.alloc (.cells #[.int .u64 0,.string ⟨#[]⟩] 44)) w1:=((Below.refl _ _).alloc (by simp) _).trans hbel;have Hat:=B8S hat;have HG1:=B8S hG1;clear hat hbel hG1;have hc1:¬c=1:=by omega
 go_wp2_with fail;go_loopw [28] (λi wr=>∃j:Nat,j<=n+1/\i = .int .i64 j/\Lib.BuilderAt 241 5 (w.heap.size+1) (w.heap.size+1) (.pointer (some ⟨w.heap.size+1,0,none⟩)) (Lib.byteCells (((y0::m).take j).flatMap (Lib.leBytes 8))) wr/\Below (w.heap.size+1) (w.alloc (.cells #[.int .u64 0,.string ⟨#[]⟩] 44)) wr) (λi _=>n+1-(intOf i).toNat)
 case atStart=>exact⟨0,by omega,rfl,Hat.out,HG1.out⟩
 case round =>
  obtain⟨j,hj,rfl,hat,hbel⟩:=hrel;have Hat2:=B8S hat;have Hbel2:=B8S hbel;clear hat hbel Hat HG1 w1;rcases B73 j (n+1)with hlt|hge
  ·have hjl:j<(y0::m).length:=by rw[List.length_cons,<-Hn.out];omega
   have hcell:wr.cell? ⟨b,off+1+j,none⟩=some (.int .u64 ((y0::m)[j]:Nat)):=by
    rw[Hbel2.out.cell (p:=⟨b,off+1+j,none⟩) (by show b<_;omega),World.cell?_alloc_lt _ _ _ (show b<_ from hbw)];have:=Hw.out.cell (i:=1+j) (by rw[Hlen.out];omega);rw[<-B9g]at this;rw[this];have h3:(E4 l)[1+j]?=(y0::m)[j]?:=by rw[Hl.out,B9G];rfl
    rw[B8i (by rw[Hlen.out];omega),B8i hjl]at h3;injection h3 with h3;rw[h3]
   obtain⟨x,hx⟩:∃x,x=(y0::m)[j]:=⟨_,rfl⟩
   rw[<-hx]at hcell;have hxW:x<18446744073709551616:=by
    rw[hx];refine A1K Hd.out _ ?_;rw[Hl.out];exact B74 _ (B8G _)
   have Hx:=B8S hx;clear hx;have hdj:decide ((j:Int)<(n:Int)+1)=true:=by simp;omega
   go_wp2_with fail;obtain⟨wo,hwo⟩:∃wo:World,wo=wr:=⟨_,rfl⟩
   go_loopw [32] (λi wi=>∃k:Nat,k<=8/\i = .int .i64 k/\Lib.BuilderAt 241 5 (w.heap.size+1) (w.heap.size+1) (.pointer (some ⟨w.heap.size+1,0,none⟩)) (Lib.byteCells (((y0::m).take j).flatMap (Lib.leBytes 8)++(Lib.leBytes 8 x).take k)) wi/\Below (w.heap.size+1) (w.alloc (.cells #[.int .u64 0,.string ⟨#[]⟩] 44)) wi) (λi _=>8-(intOf i).toNat)
   case atStart=>exact⟨0,by omega,rfl,by simpa using Hat2.out,Hbel2.out⟩
   case round =>
    obtain⟨k,hk,rfl,hat,hbel⟩:=hrel;have Hat3:=B8S hat;have Hbel3:=B8S hbel;clear hat hbel;rcases B73 k 8 with hk8|hk8
    ·have hlb:(Lib.byteCells (((y0::m).take j).flatMap (Lib.leBytes 8)++(Lib.leBytes 8 x).take k)).length+1<=140737488355328:=by
      have e1:(Lib.byteCells (((y0::m).take j).flatMap (Lib.leBytes 8)++(Lib.leBytes 8 x).take k)).length=(((y0::m).take j).flatMap (Lib.leBytes 8)++(Lib.leBytes 8 x).take k).length:=by simp[Lib.byteCells]
      rw[e1,List.length_append,A6y,List.length_take,List.length_take];omega
     have hsz:=Hbel3.out.size;simp only[I7]at hsz;go_wp2_with fail
     ((with_reducible refine(B3t _ _ _ _ _ Hat3.out hlb hsz).mono ?_);rintro e w2 ⟨rfl,hat4,hbel4⟩)
     have Hat4:=B8S hat4;have Hbel4:=B8S hbel4;clear hat4 hbel4 hlb hsz;go_wp2_with fail;go_roundw
     case rel =>
      refine⟨k+1,by omega,by go_num,?_,Hbel3.out.trans Hbel4.out⟩;have e2:((x:Int)/2^(8*k)%256)=(((x/256^k%256).toUInt8.toNat:Nat):Int):=by
       have h1:(x/256^k%256).toUInt8.toNat=x/256^k%256:=by
        simp only[Nat.toUInt8_eq,UInt8.toNat_ofNat'];omega
       rw[h1,show(256:Nat)=2^8 from rfl,<-B8Y];simp
      have h5:=Hat4.out;rw[e2,B29,B8e]at h5;have e3:(Lib.leBytes 8 x).take k++[(x/256^k%256).toUInt8]=(Lib.leBytes 8 x).take (k+1):=by
       have h6:=A9I x 8 k hk8;obtain⟨h7,h8⟩:=List.getElem?_eq_some_iff.1 h6;rw[B8h h7,h8]
      rw[e3]at h5;exact h5
     case measure=>simp[intOf];omega
    ·obtain rfl:k=8:=by omega
     go_wp2_with fail;go_roundw
     case rel =>
      refine⟨j+1,by omega,by go_num,?_,Hbel3.out⟩;have h5:=Hat3.out;rw[B8u (l:=Lib.leBytes 8 x) (i:=8) (by rw[A4r];exact K2 _)]at h5;have e4:((y0::m).take (j+1)).flatMap (Lib.leBytes 8)=((y0::m).take j).flatMap (Lib.leBytes 8)++Lib.leBytes 8 x:=by
       rw[B8h hjl,B97,Hx.out];simp
      rw[e4];exact h5
     case measure=>simp[intOf];omega
  ·obtain rfl:j=n+1:=by omega
   have hbox:Blk wr w.heap.size 44 #[.int .u64 0,.string ⟨#[]⟩]:=(Hbel2.out.block w.heap.size (by omega)).trans (Blk.new w 44 _);have hcell:wr.cell? ⟨b,off,none⟩=some (.int .u64 (x0:Nat)):=by
    rw[Hbel2.out.cell (p:=⟨b,off,none⟩) (by show b<_;omega),World.cell?_alloc_lt _ _ _ (show b<_ from hbw)];have:=Hw.out.cell (i:=0) (by rw[Hlen.out];omega);rw[Nat.add_zero]at this;rw[this];have h3:(E4 l)[0]?=some x0:=by rw[Hl.out];rfl
    obtain⟨h4,h5⟩:=List.getElem?_eq_some_iff.1 h3;rw[h5]
   have hstr:Calls Tryz.prog 182 #[.pointer (some ⟨w.heap.size+1,0,none⟩)] wr.drew λe w'=>e = .returned (.string (B8 (val W64 l)))/\Below (w.heap.size+1) wr w':=by
    have hsz:=Hbel2.out.size;simp only[I7]at hsz;have hat:=Hat2.out;rw[B8u (by rw[List.length_cons,<-Hn.out];exact K2 _)]at hat;refine(Tryz.Builder_String_any (w.heap.size+1) (w.heap.size+1) _ wr.drew (.inr hat.drew) hsz).mono λe w' ⟨he,hb⟩=>⟨?_,((Below.refl _ wr).drew).trans hb⟩
    rw[he];have h6:=A1K Hd.out;have h7:=A4v l;rw[Hl.out]at h6 h7
    have h8:=(A94 (x:=x0) (l:=y0::m) (h6 x0 (by simp)) (λz hz=>h6 z (by simp[hz])) (by
     rcases h7 with h7|h7
     ·cases h7
     ·exact .inr (by simpa [B9j]using h7))).2
    rw[<-Hl.out,A00]at h8;unfold B8;rw[h8]
   have Hstr:=B8S hstr;have hlo:C4 (val W64 l)=(x0:Nat):=by
    have h6:=A1K Hd.out;have h7:=A4v l;rw[Hl.out]at h6 h7
    have h8:=(A94 (x:=x0) (l:=y0::m) (h6 x0 (by simp)) (λz hz=>h6 z (by simp[hz])) (by
     rcases h7 with h7|h7
     ·cases h7
     ·exact .inr (by simpa [B9j]using h7))).1
    rw[<-Hl.out,A00]at h8;exact h8
   have Hlo:=B8S hlo;clear hstr hlo;have hidx:(0:Int)<(n:Int)+2:=by omega
   go_wp2_with fail
   go_region_held3 (λw'=>w'.cell? ⟨b,off,none⟩=some (.int .u64 (x0:Nat))) (first|exact(hb5.cell (p:=⟨b,off,none⟩) (by show b<_;omega)).trans hcell|exact hcell|exact(World.cell?_setCell_far _ _ _ _ (by show w.heap.size≠b;omega)).trans ((World.cell?_setCell_far _ _ _ _ (by show w.heap.size≠b;omega)).trans ((hb5.cell (p:=⟨b,off,none⟩) (by show b<_;omega)).trans hcell)))
    (first|(go_at_call 182;(refine Hstr.out.mono ?_);rintro e w5 ⟨rfl,hb5⟩;have hbx5:Blk w5 w.heap.size 44 #[.int .u64 0,.string ⟨#[]⟩]:=(hb5.block w.heap.size (by omega)).trans hbox;have hq:=hbx5.cell;have hqf:=hbx5.frozen))
   go_wp2_with fail;have h6:=((hbx5.set_ 0 (.int .u64 (x0:Nat))).set_ 1 (.string (B8 (val W64 l)))).cell;simp only[List.setIfInBounds_toArray,List.set_cons_zero,List.set_cons_succ]at h6;refine B8L (v:=.agg #[.int .u64 (x0:Nat),.string (B8 (val W64 l))]) (by simp[results,Tryz.results146,go_sem,h6]) rfl ⟨?_,?_⟩
   ·rw[B5,Hlo.out]
   ·have h1:A4 w wr:=((Below.refl w.heap.size w).alloc (K2 _) _).trans (Hbel2.out.mono (by omega));have h2:A4 w w5:=Below.trans h1 (hb5.mono (by omega));exact(h2.setCell (p:=⟨w.heap.size,0,none⟩) (K2 _) _).setCell (p:=⟨w.heap.size,1,none⟩) (K2 _) _
theorem B04(A:Option Addr)(l:List Nat)(c:Nat)(w:World)(h:Rd w A l)(hc:l.length<=c)(hcm:c<=9223372036854775807)(h0:E4 l=[]) :
  Calls Tryz.prog 146 #[.slice A l.length c] w λe w'=>e = .returned (B5 0)/\A4 w w':=by
 have htrim:∀W:World,A4 w W->Calls Tryz.prog 179 #[.slice A l.length c] W λe w'=>e = .returned (.slice A 0 c)/\W=w':=by
  intro W hg;have:=A4P A l c W (h.grow hg) hc (by omega);rw[h0]at this;exact this
 have Htrim:=B8S htrim;clear htrim h0 h;go_enter Tryz.func146,Tryz.ntmps146;go_wp2_with (go_at_call 179;((with_reducible refine(Htrim.out _ (A4.alloc _ _)).mono ?_);rintro e w1 ⟨rfl,rfl⟩));exact B8L (v:=.agg #[.int .u64 0,.string ⟨#[]⟩]) (by simp[results,Tryz.results146,go_sem]) rfl ⟨rfl,A4.alloc _ _⟩
theorem B6F(A:Option Addr)(l:List Nat)(c:Nat)(w:World)(h:Rd w A l)(hc:l.length<=c)(hcm:c<=9223372036854775807)(x:Nat)(h0:E4 l=[x]) :
  Calls Tryz.prog 146 #[.slice A l.length c] w λe w'=>e = .returned (.agg #[.int .u64 (x:Nat),.string ⟨#[]⟩])/\A4 w w':=by
 have htrim:∀W:World,A4 w W->Calls Tryz.prog 179 #[.slice A l.length c] W λe w'=>e = .returned (.slice A 1 c)/\W=w':=by
  intro W hg;have:=A4P A l c W (h.grow hg) hc (by omega);rw[h0]at this;exact this
 have hne:l≠[]:=by rintro rfl;cases h0
 obtain⟨b,off,hA,hw⟩:=h hne;have hlt:=hw.lt;have hcell:w.cell? ⟨b,off,none⟩=some (.int .u64 (x:Nat)):=by
  have h2:Wds w b off (E4 l):=by rw[A2X];exact hw.take _
  rw[h0]at h2;exact h2.cell (i:=0) (by simp)
 subst hA;have hcell2:(w.alloc (.cells #[.int .u64 0,.string ⟨#[]⟩] 44)).cell? ⟨b,off,none⟩=some (.int .u64 (x:Nat)):=(World.cell?_alloc_lt _ _ _ hlt).trans hcell;have Htrim:=B8S htrim;clear htrim h0 h hw hne;go_enter Tryz.func146,Tryz.ntmps146;go_wp2_with (go_at_call 179;((with_reducible refine(Htrim.out _ (A4.alloc _ _)).mono ?_);rintro e w1 ⟨rfl,rfl⟩));exact B8L (v:=.agg #[.int .u64 (x:Nat),.string ⟨#[]⟩]) (by simp[results,Tryz.results146,go_sem]) rfl ⟨rfl,A4.alloc _ _⟩
theorem A0D(A:Option Addr)(l:List Nat)(c:Nat)(w:World)(h:Rd w A l)(hd:Dig W64 l)(hc:l.length<=c)(hm:l.length<=34359738368)(hcm:c<=9223372036854775807) :
  Calls Tryz.prog 146 #[.slice A l.length c] w λe w'=>e = .returned (B5 (val W64 l))/\A4 w w':=by
 cases ht:E4 l with
 | nil =>
  have:val W64 l=0:=by rw[<-A00,ht];rfl
  rw[this];exact B04 A l c w h hc hcm ht
 | cons x m =>
  cases m with
  | nil =>
   have hx:x<W64:=A1K hd x (by rw[ht];simp);have:val W64 l=x:=by rw[<-A00,ht];simp[val]
   rw[this,B5,N9 hx,A2Y hx];exact B6F A l c w h hc hcm x ht
  | cons y m=>exact B5g A l c w h hd hc hm hcm (by rw[ht];simp)
end Go.Proofs.YtgpglgbcobeogaaGreatDoor
