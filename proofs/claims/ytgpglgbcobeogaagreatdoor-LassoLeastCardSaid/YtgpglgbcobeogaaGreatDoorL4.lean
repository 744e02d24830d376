import Derived.Test.YtgpglgbcobeogaaGreatDoorL1
import Derived.Test.YtgpglgbcobeogaaGreatDoorL3
set_option linter.unusedSimpArgs false
set_option linter.unusedVariables false
set_option maxHeartbeats 2000000
set_option maxRecDepth 100000
namespace Go.Proofs.YtgpglgbcobeogaaGreatDoor
open Go
def W64:Nat:=18446744073709551616
theorem E5:2<=W64:=by unfold W64;omega
theorem C6:0<W64:=by unfold W64;omega
theorem A0B:W64=2^64:=rfl
def bl(a:Nat):Nat:=if a=0 then 0 else a.log2+1
theorem A1B:bl 0=0:=rfl
theorem R6{a k:Nat}:bl a<=k↔a<2^k:=by
 unfold bl;split
 ·rename_i h;subst h;simp[Nat.two_pow_pos]
 ·rename_i h;rw[Nat.add_one_le_iff,Nat.log2_lt h]
theorem A05{a k:Nat}:k<bl a↔2^k<=a:=by
 rw[<-Nat.not_le,R6,Nat.not_lt]
theorem A0Y(a:Nat):a<2^bl a:=R6.1 (K2 _)
theorem S8{a b:Nat}(h:a<=b):bl a<=bl b:=R6.2 (B8O h (A0Y b))
theorem A0J{a:Nat}:bl a=0↔a=0:=by
 rw[<-Nat.le_zero,R6];simp
theorem U9{a:Nat}:0<bl a↔a≠0:=by
 have:=@A0J a;omega
theorem A3R{a:Nat}:bl a=1↔a=1:=by
 have h1:=@R6 a 1;have h2:=@A0J a;simp at h1;omega
theorem B2i{a k:Nat}(h1:2^k<=a)(h2:a<2^(k+1)):bl a=k+1:=by
 have:=A05.2 h1;have:=R6.2 h2;omega
theorem A6S(a b:Nat):bl (a+b)<=max (bl a) (bl b)+1:=by
 rw[R6,Nat.pow_succ];have h1:=B8X (A0Y a) (B8Z (by omega) (Nat.le_max_left (bl a) (bl b)));have h2:=B8X (A0Y b) (B8Z (by omega) (Nat.le_max_right (bl a) (bl b)));omega
theorem Q5(a b:Nat):bl (a*b)<=bl a+bl b:=by
 rw[R6,B8a];rcases B8M b with rfl|hb
 ·simp[Nat.two_pow_pos]
 ·exact B8X (B9s (A0Y a) hb) (B9L _ (B8B (A0Y b)))
theorem O6(a b:Nat):bl (a/b)<=bl a:=S8 (B8P a b)
theorem A2V(a b:Nat):bl (a%b)<=bl a:=S8 (Nat.mod_le a b)
theorem A7n(a b:Nat):bl (a-b)<=bl a:=S8 (Nat.sub_le a b)
theorem B4C(a b:Nat)(ha:a≠0):bl (a.gcd b)<=bl a:=S8 (Nat.gcd_le_left b (by omega))
theorem A43(a b:Nat)(hb:b≠0):bl (a.gcd b)<=bl b:=S8 (Nat.gcd_le_right a (by omega))
theorem A42{x y k:Nat}(hx:x<2^k)(hy:y≠0):bl (x+2^k*y)=k+bl y:=by
 obtain⟨m,hm⟩:∃m,bl y=m+1:=⟨bl y-1,by have:=U9.2 hy;omega⟩
 have h1:2^m<=y:=A05.1 (by omega);have h2:y<2^(m+1):=by rw[<-hm];exact A0Y y
 rw[hm,<-B9g];refine B2i ?_ ?_
 ·rw[B8a];have:=B9L (2^k) h1;omega
 ·rw[B9g,B8a];have h3:2^k*(y+1)<=2^k*2^(m+1):=B9L _ h2;rw[B9o,B9P]at h3;omega
theorem A9e(x:Nat)(h:x<2^64):Lib.bitLen x=bl x:=by
  have key:∀f y,y<2^f->Lib.bitLenAux f y=bl y:=by
    intro f
    induction f with
    | zero => intro y hy; have : y = 0 := by simp at hy; omega
              subst this;rfl
    | succ f ih =>
      intro y hy;simp only[Lib.bitLenAux];split
      · rename_i h0;subst h0;rfl
      · rename_i h0
        rw[Nat.pow_succ]at hy;rw[ih (y/2) (by omega)];by_cases h1:y/2=0
        · have hy1:y=1:=by omega
          subst hy1;rfl
        · have:=A42 (x:=y%2) (y:=y/2) (k:=1) (by omega) h1
          rw[show y%2+2^1*(y/2)=y by omega]at this;omega
  exact key 64 x h
def D9(a:Nat):List Nat:=B4 W64 (a/W64)
def C4(a:Nat):Int:=(a%W64:Nat)
def B8(a:Nat):ByteArray:=⟨((D9 a).flatMap (Lib.leBytes 8)).toArray⟩
def F9(z:Int):Bool:=decide (z<0)
def U5(d:Nat):Nat:=if d=1 then 0 else d
abbrev B5(a:Nat):Value:=.agg #[.int .u64 (C4 a),.string (B8 a)]
abbrev F0(z:Int):Value:=.agg #[.bool (F9 z),.int .u64 (C4 z.natAbs),.string (B8 z.natAbs)]
abbrev qV(q:Rat):Value:=.agg #[.bool (F9 q.num),.int .u64 (C4 q.num.natAbs),.string (B8 q.num.natAbs),.int .u64 (C4 (U5 q.den)),.string (B8 (U5 q.den))]
theorem A9h{a:Nat}(h:a<W64):D9 a=[]:=by
 unfold D9;rw[B80 h];rfl
theorem A2Y{a:Nat}(h:a<W64):B8 a=⟨#[]⟩:=by
 unfold B8;rw[A9h h];rfl
theorem N9{a:Nat}(h:a<W64):C4 a=a:=by
 unfold C4;rw[Nat.mod_eq_of_lt h]
theorem A2S(a:Nat):0<=C4 a:=Int.natCast_nonneg _
theorem B0q(a:Nat):C4 a<18446744073709551616:=by
 have:=B8b a C6;unfold C4;unfold W64 at *;omega
theorem B58(a:Nat):(C4 a).toNat=a%W64:=by unfold C4;omega
theorem A4r(k v:Nat):(Lib.leBytes k v).length=k:=by
 induction k generalizing v with
 | zero=>rfl
 | succ k ih=>simp[Lib.leBytes,ih]
theorem A6y(l:List Nat):(l.flatMap (Lib.leBytes 8)).length=8*l.length:=by
 induction l with
 | nil=>rfl
 | cons x l ih=>simp[List.flatMap_cons,A4r,ih];omega
theorem A0q(a:Nat):(B8 a).size=8*(D9 a).length:=by
 show((D9 a).flatMap (Lib.leBytes 8)).toArray.size=_;rw[List.size_toArray,A6y]
theorem A8I(a:Nat):(B8 a).data.toList=(D9 a).flatMap (Lib.leBytes 8):=rfl
theorem B1c(l:List Nat)(i:Nat):(l.flatMap (Lib.leBytes 8)).drop (8*i)=(l.drop i).flatMap (Lib.leBytes 8):=by
 induction i generalizing l with
 | zero=>simp
 | succ i ih =>
  cases l with
  | nil=>simp
  | cons x l =>
   rw[List.flatMap_cons,show 8*(i+1)=8+8*i by omega,<-List.drop_drop,List.drop_left' (A4r 8 x),ih];rfl
theorem B0n(x:Nat)(l:List Nat):((x::l).flatMap (Lib.leBytes 8)).take 8=Lib.leBytes 8 x:=by
 rw[List.flatMap_cons,List.take_left' (A4r 8 x)]
theorem A2l(a:Nat):Dig W64 (D9 a):=G5 E5 _
theorem B09(a i:Nat)(h:i<(D9 a).length):Lib.leNat (((B8 a).data.toList.drop (8*i)).take 8)=(D9 a)[i]:=by
 rw[A8I,B1c,B9H h,B0n];exact Lib.leNat_leBytes 8 _ (by have:=A2l a (D9 a)[i] (B8G h);unfold W64 at this;omega)
theorem A4z{a:Nat}(h:a≠0):B4 W64 a=a%W64::D9 a:=A08 E5 h
theorem A4p{a:Nat}:D9 a=[]↔a<W64:=by
 constructor
 ·intro h;have h1:=E3 E5 (a/W64);have h2:B4 W64 (a/W64)=[]:=h;rw[h2]at h1;have h3:a/W64=0:=h1.symm;rcases Nat.div_eq_zero_iff.1 h3 with h4|h4
  ·exact absurd h4 (B9V C6)
  ·exact h4
 ·exact A9h
theorem Q4(a:Nat):(B8 a).toList.isEmpty=decide (a<W64):=by
 rw[Bool.eq_iff_iff,List.isEmpty_iff,decide_eq_true_eq,<-A4p];have hs:(B8 a).toList=(B8 a).data.toList:=ByteArray.toList_eq _;rw[hs,A8I];constructor
 ·intro h;have:=A6y (D9 a);rw[h]at this;simp only[List.length_nil]at this;exact B76 (by omega)
 ·intro h;rw[h];rfl
theorem A58(a:Nat):64*(D9 a).length<=bl a:=by
 rcases B8M (D9 a).length with h|h
 ·omega
 ·have hne:a/W64≠0:=by
   intro h0;have:D9 a=[]:=by unfold D9;rw[h0];rfl
   rw[this]at h;simp at h
  have ht:=(A40 (G5 E5 (a/W64))).1 (A2F E5 (a/W64));rw[E3 E5]at ht;rcases ht with ht|ht
  ·have:D9 a=[]:=ht;rw[this]at h;simp at h
  ·have h1:W64^(D9 a).length<=a:=by
    have h2:W64*W64^((D9 a).length-1)<=a:=B8K (B9L _ ht) (Nat.mul_div_le a W64);rw[<-Nat.pow_succ',Nat.succ_eq_add_one,Nat.sub_add_cancel h]at h2;exact h2
   rw[A0B,<-B8Y]at h1;exact B8B (A05.2 h1)
theorem B5M{a:Nat}(h:W64<=a):∃x,(D9 a).getLast?=some x/\x<2^64/\bl a=64*(D9 a).length+bl x:=by
 have hne:D9 a≠[]:=by rw[Ne,A4p];omega
 obtain⟨m,x,hmx⟩:∃m x,D9 a=m++[x]:=⟨_,_,(List.dropLast_concat_getLast hne).symm⟩
 have hx:x<W64:=A2l a x (by rw[hmx];simp);have hx0:x≠0:=by
  have ht:W6 (D9 a):=A2F E5 _;rcases ht with ht|ht
  ·exact absurd ht hne
  ·rw[hmx]at ht;simpa using ht
 refine⟨x,by rw[hmx];simp,by rw[<-A0B];exact hx,?_⟩;have hv:val W64 (a%W64::D9 a)=a:=by
  have h0:a≠0:=by have:=C6;omega
  rw[<-A4z h0,E3 E5]
 have hd:Dig W64 (a%W64::m):=by
  intro y hy;rcases List.mem_cons.1 hy with rfl|hy
  ·exact B8b _ C6
  ·exact A2l a y (by rw[hmx];simp[hy])
 have hs:a=val W64 (a%W64::m)+2^(64*(D9 a).length)*x:=by
  have h1:a%W64::D9 a=(a%W64::m)++[x]:=by rw[hmx];rfl
  rw[h1,A0g]at hv;rw[hmx];simp only[List.length_append,List.length_cons,List.length_nil]at hv⊢;rw[B8Y,<-A0B];exact hv.symm
 have hlt:val W64 (a%W64::m)<2^(64*(D9 a).length):=by
  have:=K6 hd;rw[hmx];simp only[List.length_append,List.length_cons,List.length_nil]at this⊢;rw[B8Y,<-A0B];exact this
 rw[hs,A42 hlt hx0,<-hs]
theorem A0T{a:Nat}(h:a<W64):bl a<=64:=R6.2 (by rw[<-A0B];exact h)
end Go.Proofs.YtgpglgbcobeogaaGreatDoor
namespace Go.Proofs
open Go.Shelf
def Tryz.lays169_ren:Go.Shelf.Ren:=⟨fun|169=>182|n=>n,fun|70=>239|9=>9|0=>0|72=>241|37=>186|127=>261|3=>3|5=>5|n=>n,fun|n=>n⟩
theorem Tryz.lays169:Go.Proofs.Lays.n169 Tryz.prog Tryz.lays169_ren:={
 mixed:=by kernel_rfl
 f169:=Tryz.func182.trans (congrArg some (by kernel_rfl))
 t0:=Tryz.underlying0
 a0:=Tryz.isAgg0
 z0:=Tryz.sizeOf0
 v0:=Tryz.zeroValue0
 t3:=Tryz.underlying3
 a3:=Tryz.isAgg3
 z3:=Tryz.sizeOf3
 v3:=Tryz.zeroValue3
 t9:=Tryz.underlying9
 a9:=Tryz.isAgg9
 z9:=Tryz.sizeOf9
 v9:=Tryz.zeroValue9
 t37:=Tryz.underlying186
 a37:=Tryz.isAgg186
 z37:=Tryz.sizeOf186
 v37:=Tryz.zeroValue186
 t70:=Tryz.underlying239
 a70:=Tryz.isAgg239
 z70:=Tryz.sizeOf239
 v70:=Tryz.zeroValue239
 t72:=Tryz.underlying241
 a72:=Tryz.isAgg241
 z72:=Tryz.sizeOf241
 v72:=Tryz.zeroValue241
 t127:=Tryz.underlying261
 a127:=Tryz.isAgg261
 z127:=Tryz.sizeOf261
 v127:=Tryz.zeroValue261 }
theorem Tryz.Builder_Extra_169:Builder.Extra Tryz.prog Tryz.lays169_ren:={
 sizeBuilder:=by kernel_rfl
 liesBuilder:=by kernel_rfl
 t5:=Tryz.underlying5
 a5:=Tryz.isAgg5
 z5:=Tryz.sizeOf5
 v5:=Tryz.zeroValue5
 infoByte:=by kernel_rfl
 cellsByte:=by kernel_rfl
 sizeByte:=by kernel_rfl
 neB5:=by decide }
open Go.RowKit in
theorem Tryz.Builder_String_any(B b:Nat)(l:List UInt8)(w:World)(h:Lib.IsBuilder 241 5 B b (Lib.byteCells l) w)(hBw:B<=w.heap.size) :
  Calls Tryz.prog 182 #[.pointer (some ⟨b,0,none⟩)] w λe w'=>e = .returned (.string ⟨l.toArray⟩)/\Below B w w':=Any.Builder_String_any Tryz.lays169 Tryz.Builder_Extra_169 B b l w h hBw
def Tryz.lays165_ren:Go.Shelf.Ren:=⟨fun|165=>180|240=>205|241=>206|276=>216|277=>217|n=>n,fun|70=>239|3=>3|0=>0|4=>4|9=>9|20=>20|72=>241|37=>186|164=>272|5=>5|n=>n,fun|n=>n⟩
theorem Tryz.lays165:Go.Proofs.Lays.n165 Tryz.prog Tryz.lays165_ren:={
 mixed:=by kernel_rfl
 f165:=Tryz.func180.trans (congrArg some (by kernel_rfl))
 f240:=Tryz.func205.trans (congrArg some (by kernel_rfl))
 f241:=Tryz.func206.trans (congrArg some (by kernel_rfl))
 f276:=Tryz.func216.trans (congrArg some (by kernel_rfl))
 f277:=Tryz.func217.trans (congrArg some (by kernel_rfl))
 t0:=Tryz.underlying0
 a0:=Tryz.isAgg0
 z0:=Tryz.sizeOf0
 v0:=Tryz.zeroValue0
 t3:=Tryz.underlying3
 a3:=Tryz.isAgg3
 z3:=Tryz.sizeOf3
 v3:=Tryz.zeroValue3
 t4:=Tryz.underlying4
 a4:=Tryz.isAgg4
 z4:=Tryz.sizeOf4
 v4:=Tryz.zeroValue4
 t9:=Tryz.underlying9
 a9:=Tryz.isAgg9
 z9:=Tryz.sizeOf9
 v9:=Tryz.zeroValue9
 t20:=Tryz.underlying20
 a20:=Tryz.isAgg20
 z20:=Tryz.sizeOf20
 v20:=Tryz.zeroValue20
 t37:=Tryz.underlying186
 a37:=Tryz.isAgg186
 z37:=Tryz.sizeOf186
 v37:=Tryz.zeroValue186
 t70:=Tryz.underlying239
 a70:=Tryz.isAgg239
 z70:=Tryz.sizeOf239
 v70:=Tryz.zeroValue239
 t72:=Tryz.underlying241
 a72:=Tryz.isAgg241
 z72:=Tryz.sizeOf241
 v72:=Tryz.zeroValue241
 t164:=Tryz.underlying272
 a164:=Tryz.isAgg272
 z164:=Tryz.sizeOf272
 v164:=Tryz.zeroValue272 }
theorem Tryz.Builder_Extra_165:Builder.Extra Tryz.prog Tryz.lays165_ren:={
 sizeBuilder:=by kernel_rfl
 liesBuilder:=by kernel_rfl
 t5:=Tryz.underlying5
 a5:=Tryz.isAgg5
 z5:=Tryz.sizeOf5
 v5:=Tryz.zeroValue5
 infoByte:=by kernel_rfl
 cellsByte:=by kernel_rfl
 sizeByte:=by kernel_rfl
 neB5:=by decide }
def Tryz.lays134_ren:Go.Shelf.Ren:=⟨fun|134=>198|129=>164|n=>n,fun|53=>42|3=>3|4=>4|46=>194|5=>5|9=>9|n=>n,fun|n=>n⟩
theorem Tryz.lays134:Go.Proofs.Lays.n134 Tryz.prog Tryz.lays134_ren:={
 mixed:=by kernel_rfl
 f129:=Tryz.func164.trans (congrArg some (by kernel_rfl))
 f134:=Tryz.func198.trans (congrArg some (by kernel_rfl))
 t3:=Tryz.underlying3
 a3:=Tryz.isAgg3
 z3:=Tryz.sizeOf3
 v3:=Tryz.zeroValue3
 t4:=Tryz.underlying4
 a4:=Tryz.isAgg4
 z4:=Tryz.sizeOf4
 v4:=Tryz.zeroValue4
 t5:=Tryz.underlying5
 a5:=Tryz.isAgg5
 z5:=Tryz.sizeOf5
 v5:=Tryz.zeroValue5
 t9:=Tryz.underlying9
 a9:=Tryz.isAgg9
 z9:=Tryz.sizeOf9
 v9:=Tryz.zeroValue9
 t46:=Tryz.underlying194
 a46:=Tryz.isAgg194
 z46:=Tryz.sizeOf194
 v46:=Tryz.zeroValue194
 t53:=Tryz.underlying42
 a53:=Tryz.isAgg42
 z53:=Tryz.sizeOf42
 v53:=Tryz.zeroValue42 }
theorem Tryz.bits_LeadingZeros64(x:Int)(w:World)(h0:0<=x)(h1:x<=18446744073709551615) :
  Calls Tryz.prog 198 #[.int .u64 x] w λe w'=>e = .returned (.int .i64 (64-(Lib.bitLen x.toNat:Int)))/\w'=w:=Any.bits_LeadingZeros64 Tryz.lays134 x w h0 h1
open Go.RowKit in
theorem Tryz.Builder_Grow_fresh_cap(B b n:Nat)(w:World)(hB:B<=b)(hbk:w.heap[b]?=some (.cells #[.pointer none,.slice none 0 0] 241 (0,0)))(hBw:B<=w.heap.size)(hn:n<=281474976710656) :
  Calls Tryz.prog 180 #[.pointer (some ⟨b,0,none⟩),.int .i64 n] w λe w'=>e = .returned (.tuple #[])/\(Lib.BuilderAt 241 5 B b (.pointer (some ⟨b,0,none⟩)) [] w'/\Below B w w')/\∃p cap,w'.cell? ⟨b,1,none⟩=some (.slice p 0 cap)/\n<=cap:=Any.Builder_Grow_fresh_cap Tryz.lays165 Tryz.Builder_Extra_165 B b n w hB hbk hBw hn
def Tryz.lays129_ren:Go.Shelf.Ren:=⟨fun|129=>164|n=>n,fun|53=>42|3=>3|4=>4|46=>194|5=>5|9=>9|n=>n,fun|n=>n⟩
theorem Tryz.lays129:Go.Proofs.Lays.n129 Tryz.prog Tryz.lays129_ren:={
 mixed:=by kernel_rfl
 f129:=Tryz.func164.trans (congrArg some (by kernel_rfl))
 t3:=Tryz.underlying3
 a3:=Tryz.isAgg3
 z3:=Tryz.sizeOf3
 v3:=Tryz.zeroValue3
 t4:=Tryz.underlying4
 a4:=Tryz.isAgg4
 z4:=Tryz.sizeOf4
 v4:=Tryz.zeroValue4
 t5:=Tryz.underlying5
 a5:=Tryz.isAgg5
 z5:=Tryz.sizeOf5
 v5:=Tryz.zeroValue5
 t9:=Tryz.underlying9
 a9:=Tryz.isAgg9
 z9:=Tryz.sizeOf9
 v9:=Tryz.zeroValue9
 t46:=Tryz.underlying194
 a46:=Tryz.isAgg194
 z46:=Tryz.sizeOf194
 v46:=Tryz.zeroValue194
 t53:=Tryz.underlying42
 a53:=Tryz.isAgg42
 z53:=Tryz.sizeOf42
 v53:=Tryz.zeroValue42 }
theorem Tryz.bits_Len64(x:Int)(w:World)(h0:0<=x)(h1:x<=18446744073709551615) :
  Calls Tryz.prog 164 #[.int .u64 x] w λe w'=>e = .returned (.int .i64 (Lib.bitLen x.toNat))/\w'=w:=Any.bits_Len64 Tryz.lays129 x w h0 h1
def Tryz.lays264_ren:Go.Shelf.Ren:=⟨fun|264=>145|n=>n,fun|53=>42|46=>194|n=>n,fun|n=>n⟩
theorem Tryz.lays264:Go.Proofs.Lays.n264 Tryz.prog Tryz.lays264_ren:={
 mixed:=by kernel_rfl
 f264:=Tryz.func145.trans (congrArg some (by kernel_rfl))
 t46:=Tryz.underlying194
 a46:=Tryz.isAgg194
 z46:=Tryz.sizeOf194
 v46:=Tryz.zeroValue194
 t53:=Tryz.underlying42
 a53:=Tryz.isAgg42
 z53:=Tryz.sizeOf42
 v53:=Tryz.zeroValue42 }
open Go.RowKit Go.Lib in
theorem Tryz.bits_Mul64(x y:Nat)(hx:x<18446744073709551616)(hy:y<18446744073709551616)(w:World) :
  Calls Tryz.prog 145 #[.int .u64 x,.int .u64 y] w λe w'=>e = .returned (.tuple #[.int .u64 ((x*y/18446744073709551616:Nat):Int),.int .u64 ((x*y%18446744073709551616:Nat):Int)])/\w'=w:=Any.bits_Mul64 Tryz.lays264 x y hx hy w
end Go.Proofs
namespace Go.Proofs.YtgpglgbcobeogaaGreatDoor
open Go.RowKit
theorem M7(d:Option Tmp)(ty:TypeId)(pos:String)(af:Array Edge)(gd:Option (Nat×Bool)):S3 Tryz.prog ⟨d,.alloc 44,ty,pos,af,gd⟩ = .cells #[.int .u64 0,.string ⟨#[]⟩] 44:=by kernel_rfl
theorem A25(d:Option Tmp)(ty:TypeId)(pos:String)(af:Array Edge)(gd:Option (Nat×Bool)):S3 Tryz.prog ⟨d,.alloc 46,ty,pos,af,gd⟩ = .cells #[.bool false,.int .u64 0,.string ⟨#[]⟩] 46:=by kernel_rfl
theorem Q3(d:Option Tmp)(ty:TypeId)(pos:String)(af:Array Edge)(gd:Option (Nat×Bool)):S3 Tryz.prog ⟨d,.alloc 48,ty,pos,af,gd⟩ = .cells #[.bool false,.int .u64 0,.string ⟨#[]⟩,.int .u64 0,.string ⟨#[]⟩] 48:=by kernel_rfl
theorem A8:∀t∈[44,46,48],R0 Tryz.prog t:=by
 intro t ht;simp only[List.mem_cons,List.not_mem_nil,or_false]at ht;rcases ht with rfl|rfl|rfl
 ·exact λ_ _ _ _ _ _=>by rw[M7];kernel_rfl
 ·exact λ_ _ _ _ _ _=>by rw[A25];kernel_rfl
 ·exact λ_ _ _ _ _ _=>by rw[Q3];kernel_rfl
theorem B2Y{w w':World}(h:w'=w):A4 w w':=h ▸ A4.refl _
theorem bits_Len64(x:Int)(w:World)(h0:0<=x)(h1:x<18446744073709551616):Calls Tryz.prog 164 #[.int .u64 x] w λe w'=>e = .returned (.int .i64 (bl x.toNat))/\A4 w w' :=
 (Tryz.bits_Len64 x w h0 (by omega)).mono λe w' ⟨he,hw⟩=>⟨by rw[he,A9e _ (by omega)],B2Y hw⟩
theorem B4d:∀(l:List UInt8) (h:8<=l.length),l.take 8=[l[0],l[1],l[2],l[3],l[4],l[5],l[6],l[7]]
 | _::_::_::_::_::_::_::_::_,_=>rfl
theorem B3e(a b c d e f g h:Nat):((a+256*(b+256*(c+256*(d+256*(e+256*(f+256*(g+256*(h+256*0))))))):Nat):Int) =
  (a:Int)+(b:Int)*256+(c:Int)*65536+(d:Int)*16777216+(e:Int)*4294967296+(f:Int)*1099511627776+(g:Int)*281474976710656+(h:Int)*72057594037927936:=by omega
theorem B0l(s:ByteArray)(hs:8<=s.size):((Lib.leNat (s.data.toList.take 8):Nat):Int)=(s[0].toNat:Int)+(s[1].toNat:Int)*256+(s[2].toNat:Int)*65536+(s[3].toNat:Int)*16777216+(s[4].toNat:Int)*4294967296+(s[5].toNat:Int)*1099511627776+(s[6].toNat:Int)*281474976710656+(s[7].toNat:Int)*72057594037927936:=by
 rw[B4d s.data.toList (by simpa using hs)];exact B3e s[0].toNat s[1].toNat s[2].toNat s[3].toNat s[4].toNat s[5].toNat s[6].toNat s[7].toNat
theorem B5D(s:ByteArray)(hs:8<=s.size)(w:World) :
  Calls Tryz.prog 165 #[.string s] w λe w'=>e = .returned (.int .u64 (Lib.leNat (s.data.toList.take 8)))/\∃n,w'=w.drewN n:=by
 have q0:0<s.size:=by omega
 have q1:(1:Int)<(s.size:Int):=by omega
 have q2:(2:Int)<(s.size:Int):=by omega
 have q3:(3:Int)<(s.size:Int):=by omega
 have q4:(4:Int)<(s.size:Int):=by omega
 have q5:(5:Int)<(s.size:Int):=by omega
 have q6:(6:Int)<(s.size:Int):=by omega
 have q7:(7:Int)<(s.size:Int):=by omega
 go_enter Tryz.func165,Tryz.ntmps165;go_wp2;go_quiet (fail);go_wp2;go_ret;refine⟨B9d (λn=>Ending.returned (.int .u64 n)) ?_,_,rfl⟩;rw[B0l s hs];have h0:=s[0].toNat_lt;have h1:=s[1].toNat_lt;have h2:=s[2].toNat_lt;have h3:=s[3].toNat_lt;have h4:=s[4].toNat_lt;have h5:=s[5].toNat_lt;have h6:=s[6].toNat_lt;have h7:=s[7].toNat_lt;simp (disch:=omega) only[u64_wrap_id,u64_or8,u64_or16,u64_or24,u64_or32,u64_or40,u64_or48,u64_or56];rfl
theorem T2(w:World)(n:Nat):A4 w (w.drewN n):=⟨rfl,rfl,rfl,K2 _,λ_ _=>rfl⟩
theorem A4f(a i:Nat)(hi:i<(D9 a).length)(s:ByteArray)(hs:s.data.toList=(B8 a).data.toList.drop (8*i))(w:World) :
  Calls Tryz.prog 165 #[.string s] w λe w'=>e = .returned (.int .u64 ((D9 a)[i]:Nat))/\A4 w w':=by
 have hsz:8<=s.size:=by
  have h1:s.size=s.data.toList.length:=by show s.data.size=_;simp
  have h2:(B8 a).data.toList.length=(B8 a).size:=by show _=(B8 a).data.size;simp
  rw[h1,hs,B9D,h2,A0q];omega
 refine(B5D s hsz w).mono λe w' ⟨he,n,hw⟩=>⟨?_,hw ▸ T2 w n⟩
 rw[he,hs,B09 a i hi]
theorem A8b(x y:Nat)(w:World):Calls Tryz.prog 169 #[.int .u64 x,.int .u64 y] w λe w'=>e = .returned (.int .i64 (G4 x y))/\A4 w w':=by
 by_cases h:x<y
 ·rw[V4 h];go_enter Tryz.func169,Tryz.ntmps169;go_wp2;go_ret;exact⟨rfl,A4.refl _⟩
 ·by_cases h':y<x
  ·rw[A0c h'];go_enter Tryz.func169,Tryz.ntmps169;go_wp2;go_ret;exact⟨rfl,A4.refl _⟩
  ·rw[A13 (show x=y by omega)];go_enter Tryz.func169,Tryz.ntmps169;go_wp2;go_ret;exact⟨rfl,A4.refl _⟩
theorem A3L(a:Nat)(ha:a<W64)(w:World):Calls Tryz.prog 143 #[.int .u64 a] w λe w'=>e = .returned (B5 a)/\A4 w w':=by
  go_enter Tryz.func143,Tryz.ntmps143;refine B8N (B8A NoP.up (B8C ?_));go_wp2_with fail;generalize hu:World.alloc w _=u;obtain⟨hB,hG⟩:=A0A [(_,_)] w u hu;have hF:=A0S w [(44,#[])];simp only[O8,List.map_cons,List.map_nil]at hB hF;clear hu;generalize w.heap.size=b2 at hB hF⊢;refine NoP.norm ?_;refine A6 ?_;refine B8N ?_;refine A12 (w:=w) A8 2 [0,0] (by kernel_rfl) hB hG ?_;simp only[List.zip_cons_cons,List.zip_nil_left]
  (apply gy
   · exact rfl
   · (rintro v-N hN;go_simp;exact hN))
  (apply gy
   · exact rfl
   · (rintro v-N hN;go_simp;exact hN))
  refine H8 ?_;rintro v ⟨-,hB1,hG1⟩;clear hB hG;have hB:=hB1;have hG:=hG1;clear hB1 hG1;simp only[List.drop_succ_cons,List.drop_zero];have r:=hB.r;simp only[BxR]at r;go_wp2_with fail;clear r;generalize hu0:World.setCell (World.setCell v _ _) _ _=u0;have hBG:=hB.over hF hG 0 rfl 0 [_,_] hu0;clear hB hG hu0;simp only[List.modify_zero_cons,I3,List.setIfInBounds_toArray,List.set_cons_zero,List.set_cons_succ,Nat.zero_add]at hBG;obtain⟨hB,hG⟩:=hBG;clear v;obtain⟨u,rfl⟩:=exQ u0;refine NoP.norm ?_;refine A6 ?_;refine B0P rfl ?_;intro N hN;have r:=hB.r;simp only[BxR]at r;simp only[results,Tryz.results143];go_simp;refine hN _ ?_;clear hN N r;refine And.intro ?_ hG;rw[B5,N9 ha,A2Y ha]
theorem B2Z(a:Nat)(hs:a<W64)(w:World):Calls Tryz.prog 131 #[B5 a] w λe w'=>e = .returned (.int .i64 (bl a))/\A4 w w':=by
 have hE:(B8 a).toList.isEmpty=true:=by rw[Q4];simpa using hs
 have hlo:=A2S a;have hhi:=B0q a;go_enter Tryz.func131,Tryz.ntmps131;go_wp2_with (go_at_call 164;refine(bits_Len64 _ _ hlo hhi).mono ?_;rintro e w1 ⟨rfl,hb⟩);go_ret;refine⟨?_,(A4.alloc w _).trans hb⟩;simp only[B58,Nat.mod_eq_of_lt hs];rfl
def A1i(a:Nat):Nat:=(D9 a).getLastD 0
theorem B6t(a:Nat)(hs:¬a<W64)(s:ByteArray)(hsl:s.data.toList=(B8 a).data.toList.drop ((B8 a).size-8))(w:World) :
  Calls Tryz.prog 165 #[.string s] w λe w'=>e = .returned (.int .u64 (A1i a:Nat))/\A4 w w':=by
 have hne:D9 a≠[]:=by rw[Ne,A4p];exact hs
 have hl:0<(D9 a).length:=List.length_pos_iff.2 hne;have h8:(B8 a).size-8=8*((D9 a).length-1):=by rw[A0q];omega
 refine(A4f a ((D9 a).length-1) (by omega) s (by rw[hsl,h8]) w).mono λe w' ⟨he,hg⟩=>⟨?_,hg⟩
 rw[he,A1i,C0M,B82,B8i (by omega)];rfl
theorem B3G(a:Nat)(hs:¬a<W64)(ha:bl a<=1099511627776)(w:World):Calls Tryz.prog 131 #[B5 a] w λe w'=>e = .returned (.int .i64 (bl a))/\A4 w w':=by
  have hE:(B8 a).toList.isEmpty=false:=by rw[Q4];simpa using hs
  have hub:=A58 a;have hne:D9 a≠[]:=by rw[Ne,A4p];exact hs
  have hl:0<(D9 a).length:=List.length_pos_iff.2 hne;have h8:8<=(B8 a).size:=by rw[A0q];omega
  have hm:(B8 a).size<=1099511627776:=by rw[A0q];omega
  have hw1:IntKind.i64.wrap (8*((B8 a).size:Int))=8*((B8 a).size:Int):=B8j _ (by omega);have hw2:IntKind.i64.wrap (((B8 a).size:Int)-8)=((B8 a).size:Int)-8:=B8j _ (by omega);have hw3:(((B8 a).size:Int)-8).toNat=(B8 a).size-8:=by omega
  have hw4:(8:Int)<=((B8 a).size:Int):=by omega
  have hw5:((B8 a).size:Int)-8<=((B8 a).size:Int):=by omega
  have hgl:A1i a<18446744073709551616:=by
    rw[A1i,C0M,B82,B8i (by omega)];exact A2l a _ (B8G _)
  have hw6:IntKind.i64.wrap (8*((B8 a).size:Int)+(bl (A1i a):Int))=8*((B8 a).size:Int)+(bl (A1i a):Int):=B8j _ (by have:=A0T hgl;omega);have hfin:(8*((B8 a).size:Int)+(bl (A1i a):Int))=(bl a:Int):=by
    obtain⟨x,hx,_,hbl⟩:=B5M (Nat.le_of_not_lt hs);rw[A0q,A1i,C0M,hx,hbl];simp only[Option.getD_some];omega
  have Hfin:=B8S hfin;clear hub hl hfin;go_enter Tryz.func131,Tryz.ntmps131;refine B8N (B8A NoP.up (B8C ?_));go_wp2_with fail;generalize hu:World.alloc w _=u;obtain⟨hB,hG⟩:=A0A [(_,_)] w u hu;have hF:=A0S w [(44,#[])];simp only[O8,List.map_cons,List.map_nil]at hB hF;clear hu;generalize w.heap.size=b1 at hB hF⊢;refine NoP.norm ?_;refine A6 ?_;refine B8N ?_;refine B8N ?_;refine A12 (w:=w) A8 3 [0,0,0] (by kernel_rfl) hB hG ?_;simp only[List.zip_cons_cons,List.zip_nil_left]
  (apply gy
   · exact rfl
   · (rintro v-N hN;go_simp;exact hN))
  (apply gy
   · exact rfl
   · (rintro v ⟨-,hB,hG⟩ N hN;have r:=hB.r;simp only[BxR]at r;go_simp;exact hN))
  (apply gy
   · exact rfl
   · (rintro v-N hN;go_simp;exact hN))
  refine H8 ?_;rintro v ⟨-,hB1,hG1⟩;clear hB hG;have hB:=hB1;have hG:=hG1;clear hB1 hG1;simp only[List.drop_succ_cons,List.drop_nil];refine wpList_nil ?_;refine NoP.norm ?_;refine A6 ?_;refine B88 rfl ?_ ?_
  · intro ht
    cases ht
  · intro ht
    refine B8U ?_;refine A6 ?_;refine B8N ?_;refine A3U (w:=w) A8 14 [(0,0),(0,1),(0,2),(0,3),(0,4),(0,5),(0,6),(0,7),(0,8),(0,9),(0,10),(1,11),(1,12),(0,13)] (by kernel_rfl) (by kernel_rfl) hB hG ?_;simp only[H6,List.getElem?_toArray,List.getElem?_cons_zero,List.getElem?_cons_succ]
    (apply gy
     · exact rfl
     · (rintro v-N hN;go_simp;exact hN))
    (apply gy
     · exact rfl
     · (rintro v ⟨-,hB,hG⟩ N hN;have r:=hB.r;simp only[BxR]at r;go_simp;exact hN))
    (apply gy
     · exact rfl
     · (rintro v-N hN;go_simp;exact hN))
    (apply gy
     · exact rfl
     · (rintro v-N hN;go_simp;exact hN))
    (apply gy
     · exact rfl
     · (rintro v-N hN;go_simp;exact hN))
    (apply gy
     · exact rfl
     · (rintro v ⟨-,hB,hG⟩ N hN;have r:=hB.r;simp only[BxR]at r;go_simp;exact hN))
    (apply gy
     · exact rfl
     · (rintro v-N hN;go_simp;exact hN))
    (apply gy
     · exact rfl
     · (rintro v ⟨-,hB,hG⟩ N hN;have r:=hB.r;simp only[BxR]at r;go_simp;exact hN))
    (apply gy
     · exact rfl
     · (rintro v-N hN;go_simp;exact hN))
    (apply gy
     · exact rfl
     · (rintro v-N hN;go_simp;exact hN))
    (apply gy
     · exact rfl
     · (rintro v-N hN;go_simp;exact hN))
    (apply gm
     · exact rfl
     · (rintro v-N hN;go_simp;((with_reducible refine(B6t a hs _ (Lib.extract_to_end _ _) _).mono ?_);rintro e w1 ⟨rfl,hb⟩;exact⟨_,rfl,hN _ hb⟩)))
    (apply gm
     · exact rfl
     · (rintro v-N hN;go_simp;((with_reducible refine(bits_Len64 _ _ (by omega) (by omega)).mono ?_);rintro e w1 ⟨rfl,hb⟩;exact⟨_,rfl,hN _ hb⟩)))
    (apply gy
     · exact rfl
     · (rintro v-N hN;go_simp;exact hN))
    refine H8 ?_;rintro v ⟨-,hB1,hG1⟩;clear hB hG;have hB:=hB1;have hG:=hG1;clear hB1 hG1;simp only[List.drop_succ_cons,List.drop_zero];go_wp2_with fail;refine NoP.norm ?_;refine A6 ?_;refine B0P rfl ?_;intro N hN;have r:=hB.r;simp only[BxR]at r;simp only[results,Tryz.results131];go_simp;refine hN _ ?_;clear hN N r;refine And.intro ?_ hG;rw[Hfin.out]
theorem Q6(a:Nat)(ha:bl a<=1099511627776)(w:World):Calls Tryz.prog 131 #[B5 a] w λe w'=>e = .returned (.int .i64 (bl a))/\A4 w w':=by
 by_cases hs:a<W64
 ·exact B2Z a hs w
 ·exact B3G a hs ha w
theorem B0a(a:Nat)(w:World):Calls Tryz.prog 142 #[B5 a] w λe w'=>e = .returned (if a<W64 then .tuple #[.int .u64 (a:Nat),.bool true]else .tuple #[.int .u64 0,.bool false])/\A4 w w':=by
 by_cases hs:a<W64
 ·have hE:(B8 a).toList.isEmpty=true:=by rw[Q4];simpa using hs
  rw[if_pos hs];go_enter Tryz.func142,Tryz.ntmps142;go_wp2;go_ret2;refine⟨?_,A4.alloc w _⟩;rw[<-N9 hs];rfl
 ·have hE:(B8 a).toList.isEmpty=false:=by rw[Q4];simpa using hs
  rw[if_neg hs];go_enter Tryz.func142,Tryz.ntmps142;go_wp2;go_ret2;exact⟨rfl,A4.alloc w _⟩
end Go.Proofs.YtgpglgbcobeogaaGreatDoor
namespace Go.Proofs.YtgpglgbcobeogaaGreatDoor
theorem B4g:W64=2^64:=rfl
theorem B4b{ly vs:List Nat}{n1 s top:Nat}(hd:Dig W64 ly)(hl:ly.length=n1+1)(htop:top=dg ly n1)(h0:top≠0)(hs:s=64-bl top)(htW:top<W64)(hv:Dig W64 vs)(hvv:val W64 vs=val W64 ly*2^s) :
  val W64 vs<W64^(n1+1)/\W64^n1*2^s<=val W64 vs/\0<dg vs n1/\0<val W64 ly:=by
 have h1:=N2 W64 ly n1;rw[show ly.take (n1+1)=ly by rw[<-hl,B9r],<-htop]at h1;have h2:=K6 (B:=W64) (l:=ly.take n1) λx hx=>hd x (B8p hx);rw[show(ly.take n1).length=n1 by simp;omega]at h2;have hb:bl top<=64:=A0T htW;have hlt:=A0Y top;have hp:0<W64^n1:=B9t C6;have hbl:1<=bl top:=U9.2 h0;have h3:val W64 ly<W64^n1*2^bl top:=by
  have:W64^n1*(top+1)<=W64^n1*2^bl top:=B9L _ hlt;rw[B9o,B9P]at this;omega
 have h4:W64^n1*1<=W64^n1*top:=B9L _ (by omega);have h5:val W64 vs<W64^(n1+1):=by
  rw[hvv,Nat.pow_succ]
  calc val W64 ly*2^s<W64^n1*2^bl top*2^s:=B9s h3 (Nat.two_pow_pos _)
   _=W64^n1*W64:=by rw[B9Q,<-B8a,show bl top+s=64 by omega,B4g]
 have h6:W64^n1*2^s<=val W64 vs:=by rw[hvv];exact B8q _ (by omega)
 refine⟨h5,h6,?_,by omega⟩;rcases B8M (dg vs n1)with hz|hz
 ·exfalso;have h7:=A2r C6 hv (k:=n1) λt ht=>by
   rcases B73 n1 t with h|h
   ·exact A3Z C6 hv h5 t h
   ·obtain rfl:t=n1:=by omega
    exact hz
  have:W64^n1*1<=W64^n1*2^s:=B9L _ (Nat.two_pow_pos _);omega
 ·exact hz
theorem B6Y{lx us vs:List Nat}{m n1 s k0:Nat}(hd:Dig W64 lx)(hl:lx.length=m)(hu:Dig W64 us)(huv:val W64 us=val W64 lx*2^s)(hvn:W64^n1*2^s<=val W64 vs)(hk:n1+k0=m) :
  DvI W64 (val W64 vs) (val W64 us) k0 us (List.replicate k0 0):=by
 refine⟨hu,λx hx=>by rw[(List.mem_replicate.1 hx).2];exact C6,by rw[A1S];simp,?_,λt _=>by unfold dg;rw[B9f];split<;>rfl⟩;have h1:=K6 hd;rw[hl]at h1;rw[huv]
 calc val W64 lx*2^s<W64^m*2^s:=B9s h1 (Nat.two_pow_pos _)
  _=W64^n1*2^s*W64^k0:=by rw[<-hk,B8a];grind
  _<=val W64 vs*W64^k0:=B8q _ hvn
theorem DvI.top{X j n2:Nat}{us qs vs:List Nat}(h:DvI W64 (val W64 vs) X (j+1) us qs)(hv:Dig W64 vs)(hvW:val W64 vs<W64^(n2+2)) :
  Dig W64 (us.drop j)/\(∀t,n2+3<=t->dg (us.drop j) t=0)/\(∀t,n2+2<=t->dg vs t=0)/\val W64 (us.drop j)<val W64 vs*W64/\(∀t,j+n2+3<=t->dg us t=0):=by
 have hW:=C6;have hp:0<W64^j:=B9t hW;have h1:val W64 us<W64^(j+n2+3):=by
  refine B8X h.2.2.2.1 ?_
  calc val W64 vs*W64^(j+1)<=W64^(n2+2)*W64^(j+1):=B8q _ (B8B hvW)
   _=W64^(j+n2+3):=by rw[<-B8a];congr 1;omega
 have h2:=A3Z hW h.1 h1;refine⟨λx hx=>h.1 x (B9E hx),λt ht=>by rw[A1A];exact h2 _ (by omega),A3Z hW hv hvW,?_,h2⟩;rw[<-A3J hW h.1,B9q hp,B9Q,B8t W64,<-Nat.pow_succ];exact h.2.2.2.1
theorem A6B{vs:List Nat}{n:Nat}(hv:Dig W64 vs)(h:val W64 vs<W64^n):val W64 (vs.take n)=val W64 vs:=by
 have h1:=A0O W64 (vs.take n) (vs.drop n);rw[B8D]at h1;have h2:=A3J C6 hv n;rw[B80 h]at h2;rw[<-h2,B9N,Nat.add_zero]at h1;exact h1.symm
theorem A7K{M g V p a b:Nat}(hy:a<M)(hv:a+g*V*p=b+1*M):0<g:=by
 rcases B8M g with h|h
 ·rw[h,B8s,B8s]at hv;omega
 ·exact h
theorem DvA.last{W j n:Nat}{vs us:List Nat}{c:Nat}{zs:List Nat}(h:DvA W j vs us n c zs)(hW:0<W)(hi:j+n<us.length)(hvn:val W (vs.take n)=val W vs) :
  (zs.set (j+n) ((dg us (j+n)+c)%W)).length=us.length/\Dig W (zs.set (j+n) ((dg us (j+n)+c)%W))/\(∀t,j+n+1<=t->dg (zs.set (j+n) ((dg us (j+n)+c)%W)) t=dg us t) /\
  val W (zs.set (j+n) ((dg us (j+n)+c)%W))+(dg us (j+n)+c)/W*W^(j+n+1)=val W us+val W vs*W^j:=by
 obtain⟨h1,h2,h3,h4,h5⟩:=h;rw[hvn]at h4;have b1:=B9c (dg us (j+n)+c) W;have b2:=B8b (dg us (j+n)+c) hW;obtain⟨z,hz⟩:∃z,z=(dg us (j+n)+c)%W:=⟨_,rfl⟩
 obtain⟨e,he⟩:∃e,e=(dg us (j+n)+c)/W:=⟨_,rfl⟩
 rw[<-hz,<-he]at b1;rw[<-hz]at b2;rw[<-hz,<-he];have e1:=Y7 W zs (j+n) z (by omega);rw[h3 (j+n) (K2 _)]at e1;refine⟨by simp[h1],S7 h2 _ b2,λt ht=>by rw[R4 _ _ (by omega)];exact h3 t (by omega),?_⟩;have e2:val W (zs.set (j+n) z)+e*W^(j+n+1)+W^(j+n)*dg us (j+n)=val W us+val W vs*W^j+W^(j+n)*dg us (j+n):=by
  calc val W (zs.set (j+n) z)+e*W^(j+n+1)+W^(j+n)*dg us (j+n)
    = val W zs+W^(j+n)*(W*e+z):=by rw[Nat.pow_succ];grind
   _=val W zs+c*W^(j+n)+W^(j+n)*dg us (j+n):=by rw[b1];grind
   _=val W us+val W vs*W^j+W^(j+n)*dg us (j+n):=by rw[h4]
 omega
theorem B2K(W:Nat)(l:List Nat)(k:Nat):W^k*dg l k<=val W l:=by
 have h1:=N2 W l k;have h2:=A0O W (l.take (k+1)) (l.drop (k+1));rw[B8D]at h2;omega
theorem A52(i:Nat):(256:Nat)^i=W64^(i/8)*2^(8*(i%8)):=by
 rw[A0B,show(256:Nat)=2^8 from rfl,<-B8Y,<-B8Y,<-B8a];congr 1;omega
theorem B6a{zs:List Nat}{i y:Nat}(hi:i/8<zs.length)(hv:val W64 zs<256^i)(hy:y<256) :
  dg zs (i/8) ||| y*2^(8*(i%8))=dg zs (i/8)+y*2^(8*(i%8))/\dg zs (i/8)+y*2^(8*(i%8))<W64 /\
  val W64 (zs.set (i/8) (dg zs (i/8)+y*2^(8*(i%8))))=val W64 zs+y*256^i:=by
 have h1:=B2K W64 zs (i/8);have h2:dg zs (i/8)<2^(8*(i%8)):=by
  rw[A52 i]at hv;exact Nat.lt_of_mul_lt_mul_left (B8O h1 hv)
 have h3:=Y7 W64 zs (i/8) (dg zs (i/8)+y*2^(8*(i%8))) hi;have h4:y*256^i=W64^(i/8)*(y*2^(8*(i%8))):=by rw[A52];grind
 have h5:(y+1)*2^(8*(i%8))<=256*2^(8*(i%8)):=B8q _ hy;have h6:256*2^(8*(i%8))<=W64:=by
  rw[show(256:Nat)=2^8 from rfl,<-B8a,A0B];exact B8Z (by omega) (by omega)
 rw[B9h,B9Y]at h5;refine⟨?_,by omega,?_⟩
 ·rw[A2Q h2 (B9F _ _),B9G]
 ·rw[B9o]at h3;omega
theorem A5o{W:Nat}(hW:0<W){l:List Nat}(h:Dig W l)(k:Nat):val W (l.take k)<W^k:=by
 rcases B73 k l.length with hk|hk
 ·have:=K6 (B:=W) (l:=l.take k) (λx hx=>h x (B8p hx))
  rwa [List.length_take,B83 (by omega)]at this
 ·rw[A0H W l k hk];exact B8X (K6 h) (B8Z hW hk)
def Tz(V z:Nat):Prop:=∃m,V=2^z*(2*m+1)
theorem A8G{W:Nat}{l:List Nat}{k:Nat}(h:∀i,i<k->dg l i=0):val W (l.take k)=0:=by
 induction k with
 | zero=>rfl
 | succ k ih=>rw[N2,ih (λi hi=>h i (by omega)),h k (by omega)];simp
theorem B3q{l:List Nat}{k t m:Nat}(h0:∀i,i<k->dg l i=0)(hk:k<l.length)(hx:dg l k=2^t*(2*m+1))(ht:t<64):Tz (val W64 l) (64*k+t):=by
 have h1:=A0O W64 (l.take k) (l.drop k);rw[B8D,A8G h0,List.length_take,B83 (by omega),B9H hk,<-E8 hk,O7,hx,Nat.zero_add]at h1;refine⟨m+2^(63-t)*val W64 (l.drop (k+1)),?_⟩;rw[h1,B8a,B8Y];have e:W64=2^t*(2*2^(63-t)):=by
  rw[<-Nat.pow_succ',<-B8a,A0B];congr 1;omega
 rw[show(2:Nat)^64=W64 from rfl,B9Q];congr 1;rw[e];grind
theorem Tz.inj{V z z':Nat}(h:Tz V z)(h':Tz V z'):z=z':=by
 obtain⟨m,hm⟩:=h;obtain⟨m',hm'⟩:=h';have key:∀a b x y:Nat,a<b->2^a*(2*x+1)=2^b*(2*y+1)->False:=by
  intro a b x y hab he;obtain⟨d,rfl⟩:∃d,b=a+(d+1):=⟨b-a-1,by omega⟩
  rw[B8a,B9Q]at he;have:=Nat.eq_of_mul_eq_mul_left (Nat.two_pow_pos a) he;rw[Nat.pow_succ,B8t (2^d) 2,B9Q]at this;omega
 rcases B85 z z' with h|h|h
 ·exact(key _ _ _ _ h (hm.symm.trans hm')).elim
 ·exact h
 ·exact(key _ _ _ _ h (hm'.symm.trans hm)).elim
def DnI(P R:Nat)(l:List Nat)(i:Nat)(zs:List Nat):Prop :=
 zs.length=l.length/\(∀t,t<i->dg zs t=dg l t/P+dg l (t+1)%P*R)/\∀t,i<=t->dg zs t=dg l t
theorem DnI.start(P R:Nat)(l:List Nat):DnI P R l 0 l:=⟨rfl,λt ht=>by omega,λ_ _=>rfl⟩
theorem DnI.next{P R:Nat}{l zs:List Nat}{i:Nat}(h:DnI P R l i zs)(hi:i<l.length):DnI P R l (i+1) (zs.set i (dg l i/P+dg l (i+1)%P*R)):=by
 refine⟨by rw[B8r];exact h.1,λt ht=>?_,λt ht=>by rw[R4 _ _ (by omega)];exact h.2.2 t (by omega)⟩;rcases B73 t i with hlt|hge
 ·rw[R4 _ _ (by omega)];exact h.2.1 t hlt
 ·obtain rfl:t=i:=by omega
  rw[A50 (by rw[h.1];exact hi)]
theorem DnI.done{W P R:Nat}{l zs:List Nat}(hW:W=P*R)(hP:0<P)(hW0:0<W)(hd:Dig W l)(h:DnI P R l l.length zs):val W zs=val W l/P/\Dig W zs :=
 ⟨A4s hW hP hW0 l zs hd h.1 h.2.1,λx hx=>by
  obtain⟨t,ht,rfl⟩:=B9w hx;rw[<-E8 ht,h.2.1 t (by rw[<-h.1];exact ht)]
  exact(A2R hW hP (D1 hW0 hd _)).1⟩
def SbI(W:Nat)(lx ly:List Nat)(k br:Nat)(zs:List Nat):Prop :=
 zs.length=lx.length/\Dig W zs/\br<=1/\(∀t,k<=t->dg zs t=dg lx t)/\val W (zs.take k)+val W (ly.take k)=val W (lx.take k)+br*W^k
theorem SbI.start(W:Nat){lx:List Nat}(ly:List Nat)(h:Dig W lx):SbI W lx ly 0 0 lx:=⟨rfl,h,by omega,λ_ _=>rfl,by simp[val]⟩
theorem A5j{zs:List Nat}{k z:Nat}(h:k<zs.length):(zs.set k z).take (k+1)=zs.take k++[z]:=by
 rw[B8h (by rw[B8r];exact h),List.take_set_of_le (K2 k),List.getElem_set_self]
theorem SbI.next{W:Nat}{lx ly zs:List Nat}{k br:Nat}(h:SbI W lx ly k br zs)(hW:0<W)(hx:Dig W lx)(hy:Dig W ly)(hk:k<lx.length) :
  SbI W lx ly (k+1) (if dg lx k<dg ly k+br then 1 else 0) (zs.set k ((dg lx k+W-dg ly k-br)%W)):=by
 obtain⟨h1,h2,h3,h4,h5⟩:=h;refine⟨by rw[B8r];exact h1,S7 h2 _ (B8b _ hW),by split<;>omega,λt ht=>by rw[R4 _ _ (by omega)];exact h4 t (by omega),?_⟩;rw[A5j (by omega)];exact A6P h3 (D1 hW hx k) (D1 hW hy k) (by rw[List.length_take];omega) h5
theorem SbI.done{W:Nat}{lx ly zs:List Nat}{k br:Nat}(h:SbI W lx ly k br zs)(hk:k=lx.length)(hl:ly.length<=lx.length)(hle:val W ly<=val W lx):val W zs=val W lx-val W ly:=by
 obtain⟨h1,h2,h3,h4,h5⟩:=h;subst hk;have h6:=K6 h2;rw[B8u (by omega),B8u hl,B9r]at h5;rw[h1]at h6;rcases B8M br with rfl|hp
 ·omega
 ·obtain rfl:br=1:=by omega
  omega
theorem B2u{v w z m g:Nat}(hw:w%2=1)(hlt:w<v)(hz:v-w=2^z*m)(h:Nat.gcd v w=g):Nat.gcd m w=g:=by
 rw[<-h,<-Nat.gcd_sub_self_left (B8B hlt),hz];refine(C0N m ?_).symm
 exact Nat.Coprime.pow_left z (by
  rw[Nat.coprime_iff_gcd_eq_one];show Nat.gcd 2 w=1
  rw[Nat.gcd_rec,hw];rfl)
theorem A7m{w:Nat}(hw:w%2=1)(z:Nat):Nat.Coprime (2^z) w:=Nat.Coprime.pow_left z (by
  show Nat.gcd 2 w=1
  rw[Nat.gcd_rec,hw];rfl)
theorem B5m{x y a b v w:Nat}(hx:x=2^a*v)(hy:y=2^b*w)(hv:v%2=1)(hw:w%2=1):Nat.gcd x y=2^min a b*Nat.gcd v w:=by
 subst hx;subst hy;rcases Nat.le_total a b with h|h
 ·obtain⟨d,rfl⟩:∃d,b=a+d:=⟨b-a,by omega⟩
  rw[B83 h,B8a,B9Q,Nat.gcd_mul_left];congr 1;rw[B9K,C0N w (A7m hv d),B9K]
 ·obtain⟨d,rfl⟩:∃d,a=b+d:=⟨a-b,by omega⟩
  rw[Nat.min_eq_right h,B8a,B9Q,Nat.gcd_mul_left];congr 1;exact C0N v (A7m hw d)
theorem B2L(x:Nat)(h0:x≠0)(h:x<W64):∃m,x=2^Lib.ctz 64 x*(2*m+1)/\Lib.ctz 64 x<64:=by
 have:=Lib.ctzFrom_spec 64 x (by omega) h;unfold Lib.ctz;rw[if_neg h0];exact this
end Go.Proofs.YtgpglgbcobeogaaGreatDoor
