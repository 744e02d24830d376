import Derived.Test.YtgpglgbcobeogaaGreatDoorN1
import Derived.Test.YtgpglgbcobeogaaGreatDoorN3
set_option linter.unusedSimpArgs false
set_option linter.unusedVariables false
set_option maxHeartbeats 2000000
set_option maxRecDepth 100000
namespace Go.Proofs.YtgpglgbcobeogaaGreatDoor
open Go
def W64:Nat:=18446744073709551616
theorem D8:2<=W64:=by unfold W64;omega
theorem C1:0<W64:=by unfold W64;omega
theorem X5:W64=2^64:=rfl
def bl(a:Nat):Nat:=if a=0 then 0 else a.log2+1
theorem A0w:bl 0=0:=rfl
theorem T9{a k:Nat}:bl a<=k↔a<2^k:=by
 unfold bl;split
 ·rename_i h;subst h;simp[Nat.two_pow_pos]
 ·rename_i h;rw[Nat.add_one_le_iff,Nat.log2_lt h]
theorem A1c{a k:Nat}:k<bl a↔2^k<=a:=by
 rw[<-Nat.not_le,T9,Nat.not_lt]
theorem A0i(a:Nat):a<2^bl a:=T9.1 (B8s _)
theorem S3{a b:Nat}(h:a<=b):bl a<=bl b:=T9.2 (B9E h (A0i b))
theorem A0P{a:Nat}:bl a=0↔a=0:=by
 rw[<-Nat.le_zero,T9];simp
theorem T2{a:Nat}:0<bl a↔a≠0:=by
 have:=@A0P a;omega
theorem A2p{a:Nat}:bl a=1↔a=1:=by
 have h1:=@T9 a 1;have h2:=@A0P a;simp at h1;omega
theorem B6t{a k:Nat}(h1:2^k<=a)(h2:a<2^(k+1)):bl a=k+1:=by
 have:=A1c.2 h1;have:=T9.2 h2;omega
theorem A8b(a b:Nat):bl (a+b)<=max (bl a) (bl b)+1:=by
 rw[T9,Nat.pow_succ];have h1:=B9N (A0i a) (B9P (by omega) (Nat.le_max_left (bl a) (bl b)));have h2:=B9N (A0i b) (B9P (by omega) (Nat.le_max_right (bl a) (bl b)));omega
theorem T0(a b:Nat):bl (a*b)<=bl a+bl b:=by
 rw[T9,B9Q];rcases B9C b with rfl|hb
 ·simp[Nat.two_pow_pos]
 ·exact B9N (C0i (A0i a) hb) (C0B _ (B81 (A0i b)))
theorem R0(a b:Nat):bl (a/b)<=bl a:=S3 (B9F a b)
theorem A2f(a b:Nat):bl (a%b)<=bl a:=S3 (Nat.mod_le a b)
theorem A7A(a b:Nat):bl (a-b)<=bl a:=S3 (Nat.sub_le a b)
theorem B3f(a b:Nat)(ha:a≠0):bl (a.gcd b)<=bl a:=S3 (Nat.gcd_le_left b (by omega))
theorem A35(a b:Nat)(hb:b≠0):bl (a.gcd b)<=bl b:=S3 (Nat.gcd_le_right a (by omega))
theorem A3t{x y k:Nat}(hx:x<2^k)(hy:y≠0):bl (x+2^k*y)=k+bl y:=by
 obtain⟨m,hm⟩:∃m,bl y=m+1:=⟨bl y-1,by have:=T2.2 hy;omega⟩
 have h1:2^m<=y:=A1c.1 (by omega);have h2:y<2^(m+1):=by rw[<-hm];exact A0i y
 rw[hm,<-C0W];refine B6t ?_ ?_
 ·rw[B9Q];have:=C0B (2^k) h1;omega
 ·rw[C0W,B9Q];have h3:2^k*(y+1)<=2^k*2^(m+1):=C0B _ h2;rw[C0e,C0F]at h3;omega
theorem A66(x:Nat)(h:x<2^64):Lib.bitLen x=bl x:=by
  have key:∀f y,y<2^f->Lib.bitLenAux f y=bl y:=by
    intro f
    induction f with
    | zero => intro y hy; have : y = 0 := by simp at hy; omega
              subst this;rfl
    | succ f ih =>
      intro y hy;simp only[Lib.bitLenAux];split
      · rename_i h0;subst h0;rfl
      · rename_i h0
        rw[Nat.pow_succ]at hy;rw[ih (y/2) (by omega)];by_cases h1:y/2=0
        · have hy1:y=1:=by omega
          subst hy1;rfl
        · have:=A3t (x:=y%2) (y:=y/2) (k:=1) (by omega) h1
          rw[show y%2+2^1*(y/2)=y by omega]at this;omega
  exact key 64 x h
def D3(a:Nat):List Nat:=B5 W64 (a/W64)
def B8(a:Nat):Int:=(a%W64:Nat)
def B6(a:Nat):ByteArray:=⟨((D3 a).flatMap (Lib.leBytes 8)).toArray⟩
def E0(z:Int):Bool:=decide (z<0)
def H6(d:Nat):Nat:=if d=1 then 0 else d
abbrev B2(a:Nat):Value:=.agg #[.int .u64 (B8 a),.string (B6 a)]
abbrev E5(z:Int):Value:=.agg #[.bool (E0 z),.int .u64 (B8 z.natAbs),.string (B6 z.natAbs)]
abbrev qV(q:Rat):Value:=.agg #[.bool (E0 q.num),.int .u64 (B8 q.num.natAbs),.string (B6 q.num.natAbs),.int .u64 (B8 (H6 q.den)),.string (B6 (H6 q.den))]
theorem A9X{a:Nat}(h:a<W64):D3 a=[]:=by
 unfold D3;rw[B9q h];rfl
theorem A2s{a:Nat}(h:a<W64):B6 a=⟨#[]⟩:=by
 unfold B6;rw[A9X h];rfl
theorem O4{a:Nat}(h:a<W64):B8 a=a:=by
 unfold B8;rw[Nat.mod_eq_of_lt h]
theorem A2t(a:Nat):0<=B8 a:=Int.natCast_nonneg _
theorem B1g(a:Nat):B8 a<18446744073709551616:=by
 have:=B9R a C1;unfold B8;unfold W64 at *;omega
theorem B6n(a:Nat):(B8 a).toNat=a%W64:=by unfold B8;omega
theorem A4R(k v:Nat):(Lib.leBytes k v).length=k:=by
 induction k generalizing v with
 | zero=>rfl
 | succ k ih=>simp[Lib.leBytes,ih]
theorem A5U(l:List Nat):(l.flatMap (Lib.leBytes 8)).length=8*l.length:=by
 induction l with
 | nil=>rfl
 | cons x l ih=>simp[List.flatMap_cons,A4R,ih];omega
theorem A0u(a:Nat):(B6 a).size=8*(D3 a).length:=by
 show((D3 a).flatMap (Lib.leBytes 8)).toArray.size=_;rw[List.size_toArray,A5U]
theorem A7S(a:Nat):(B6 a).data.toList=(D3 a).flatMap (Lib.leBytes 8):=rfl
theorem B2G(l:List Nat)(i:Nat):(l.flatMap (Lib.leBytes 8)).drop (8*i)=(l.drop i).flatMap (Lib.leBytes 8):=by
 induction i generalizing l with
 | zero=>simp
 | succ i ih =>
  cases l with
  | nil=>simp
  | cons x l =>
   rw[List.flatMap_cons,show 8*(i+1)=8+8*i by omega,<-List.drop_drop,List.drop_left' (A4R 8 x),ih];rfl
theorem B2z(x:Nat)(l:List Nat):((x::l).flatMap (Lib.leBytes 8)).take 8=Lib.leBytes 8 x:=by
 rw[List.flatMap_cons,List.take_left' (A4R 8 x)]
theorem A2S(a:Nat):Dig W64 (D3 a):=H8 D8 _
theorem B5o(a i:Nat)(h:i<(D3 a).length):Lib.leNat (((B6 a).data.toList.drop (8*i)).take 8)=(D3 a)[i]:=by
 rw[A7S,B2G,B97 h,B2z];exact Lib.leNat_leBytes 8 _ (by have:=A2S a (D3 a)[i] (B86 h);unfold W64 at this;omega)
theorem A4L{a:Nat}(h:a≠0):B5 W64 a=a%W64::D3 a:=A07 D8 h
theorem A37{a:Nat}:D3 a=[]↔a<W64:=by
 constructor
 ·intro h;have h1:=E6 D8 (a/W64);have h2:B5 W64 (a/W64)=[]:=h;rw[h2]at h1;have h3:a/W64=0:=h1.symm;rcases Nat.div_eq_zero_iff.1 h3 with h4|h4
  ·exact absurd h4 (C0L C1)
  ·exact h4
 ·exact A9X
theorem P5(a:Nat):(B6 a).toList.isEmpty=decide (a<W64):=by
 rw[Bool.eq_iff_iff,List.isEmpty_iff,decide_eq_true_eq,<-A37];have hs:(B6 a).toList=(B6 a).data.toList:=ByteArray.toList_eq _;rw[hs,A7S];constructor
 ·intro h;have:=A5U (D3 a);rw[h]at this;simp only[List.length_nil]at this;exact B8w (by omega)
 ·intro h;rw[h];rfl
theorem A60(a:Nat):64*(D3 a).length<=bl a:=by
 rcases B9C (D3 a).length with h|h
 ·omega
 ·have hne:a/W64≠0:=by
   intro h0;have:D3 a=[]:=by unfold D3;rw[h0];rfl
   rw[this]at h;simp at h
  have ht:=(A4O (H8 D8 (a/W64))).1 (A1z D8 (a/W64));rw[E6 D8]at ht;rcases ht with ht|ht
  ·have:D3 a=[]:=ht;rw[this]at h;simp at h
  ·have h1:W64^(D3 a).length<=a:=by
    have h2:W64*W64^((D3 a).length-1)<=a:=B9A (C0B _ ht) (Nat.mul_div_le a W64);rw[<-Nat.pow_succ',Nat.succ_eq_add_one,Nat.sub_add_cancel h]at h2;exact h2
   rw[X5,<-B9O]at h1;exact B81 (A1c.2 h1)
theorem B4B{a:Nat}(h:W64<=a):∃x,(D3 a).getLast?=some x/\x<2^64/\bl a=64*(D3 a).length+bl x:=by
 have hne:D3 a≠[]:=by rw[Ne,A37];omega
 obtain⟨m,x,hmx⟩:∃m x,D3 a=m++[x]:=⟨_,_,(List.dropLast_concat_getLast hne).symm⟩
 have hx:x<W64:=A2S a x (by rw[hmx];simp);have hx0:x≠0:=by
  have ht:U7 (D3 a):=A1z D8 _;rcases ht with ht|ht
  ·exact absurd ht hne
  ·rw[hmx]at ht;simpa using ht
 refine⟨x,by rw[hmx];simp,by rw[<-X5];exact hx,?_⟩;have hv:val W64 (a%W64::D3 a)=a:=by
  have h0:a≠0:=by have:=C1;omega
  rw[<-A4L h0,E6 D8]
 have hd:Dig W64 (a%W64::m):=by
  intro y hy;rcases List.mem_cons.1 hy with rfl|hy
  ·exact B9R _ C1
  ·exact A2S a y (by rw[hmx];simp[hy])
 have hs:a=val W64 (a%W64::m)+2^(64*(D3 a).length)*x:=by
  have h1:a%W64::D3 a=(a%W64::m)++[x]:=by rw[hmx];rfl
  rw[h1,A0o]at hv;rw[hmx];simp only[List.length_append,List.length_cons,List.length_nil]at hv⊢;rw[B9O,<-X5];exact hv.symm
 have hlt:val W64 (a%W64::m)<2^(64*(D3 a).length):=by
  have:=K4 hd;rw[hmx];simp only[List.length_append,List.length_cons,List.length_nil]at this⊢;rw[B9O,<-X5];exact this
 rw[hs,A3t hlt hx0,<-hs]
theorem A0d{a:Nat}(h:a<W64):bl a<=64:=T9.2 (by rw[<-X5];exact h)
end Go.Proofs.YtgpglgbcobeogaaGreatDoor
namespace Go.Proofs
open Go.Shelf
def Tryz.lays169_ren:Go.Shelf.Ren:=⟨fun|169=>182|n=>n,fun|70=>239|9=>9|0=>0|72=>241|37=>186|127=>261|3=>3|5=>5|n=>n,fun|n=>n⟩
theorem Tryz.lays169:Go.Proofs.Lays.n169 Tryz.prog Tryz.lays169_ren:={
 mixed:=by kernel_rfl
 f169:=Tryz.func182.trans (congrArg some (by kernel_rfl))
 t0:=Tryz.underlying0
 a0:=Tryz.isAgg0
 z0:=Tryz.sizeOf0
 v0:=Tryz.zeroValue0
 t3:=Tryz.underlying3
 a3:=Tryz.isAgg3
 z3:=Tryz.sizeOf3
 v3:=Tryz.zeroValue3
 t9:=Tryz.underlying9
 a9:=Tryz.isAgg9
 z9:=Tryz.sizeOf9
 v9:=Tryz.zeroValue9
 t37:=Tryz.underlying186
 a37:=Tryz.isAgg186
 z37:=Tryz.sizeOf186
 v37:=Tryz.zeroValue186
 t70:=Tryz.underlying239
 a70:=Tryz.isAgg239
 z70:=Tryz.sizeOf239
 v70:=Tryz.zeroValue239
 t72:=Tryz.underlying241
 a72:=Tryz.isAgg241
 z72:=Tryz.sizeOf241
 v72:=Tryz.zeroValue241
 t127:=Tryz.underlying261
 a127:=Tryz.isAgg261
 z127:=Tryz.sizeOf261
 v127:=Tryz.zeroValue261 }
theorem Tryz.Builder_Extra_169:Builder.Extra Tryz.prog Tryz.lays169_ren:={
 sizeBuilder:=by kernel_rfl
 liesBuilder:=by kernel_rfl
 t5:=Tryz.underlying5
 a5:=Tryz.isAgg5
 z5:=Tryz.sizeOf5
 v5:=Tryz.zeroValue5
 infoByte:=by kernel_rfl
 cellsByte:=by kernel_rfl
 sizeByte:=by kernel_rfl
 neB5:=by decide }
open Go.RowKit in
theorem Tryz.Builder_String_any(B b:Nat)(l:List UInt8)(w:World)(h:Lib.IsBuilder 241 5 B b (Lib.byteCells l) w)(hBw:B<=w.heap.size) :
  Calls Tryz.prog 182 #[.pointer (some ⟨b,0,none⟩)] w λe w'=>e = .returned (.string ⟨l.toArray⟩)/\Below B w w':=Any.Builder_String_any Tryz.lays169 Tryz.Builder_Extra_169 B b l w h hBw
def Tryz.lays165_ren:Go.Shelf.Ren:=⟨fun|165=>180|240=>205|241=>206|276=>216|277=>217|n=>n,fun|70=>239|3=>3|0=>0|4=>4|9=>9|20=>20|72=>241|37=>186|164=>272|5=>5|n=>n,fun|n=>n⟩
theorem Tryz.lays165:Go.Proofs.Lays.n165 Tryz.prog Tryz.lays165_ren:={
 mixed:=by kernel_rfl
 f165:=Tryz.func180.trans (congrArg some (by kernel_rfl))
 f240:=Tryz.func205.trans (congrArg some (by kernel_rfl))
 f241:=Tryz.func206.trans (congrArg some (by kernel_rfl))
 f276:=Tryz.func216.trans (congrArg some (by kernel_rfl))
 f277:=Tryz.func217.trans (congrArg some (by kernel_rfl))
 t0:=Tryz.underlying0
 a0:=Tryz.isAgg0
 z0:=Tryz.sizeOf0
 v0:=Tryz.zeroValue0
 t3:=Tryz.underlying3
 a3:=Tryz.isAgg3
 z3:=Tryz.sizeOf3
 v3:=Tryz.zeroValue3
 t4:=Tryz.underlying4
 a4:=Tryz.isAgg4
 z4:=Tryz.sizeOf4
 v4:=Tryz.zeroValue4
 t9:=Tryz.underlying9
 a9:=Tryz.isAgg9
 z9:=Tryz.sizeOf9
 v9:=Tryz.zeroValue9
 t20:=Tryz.underlying20
 a20:=Tryz.isAgg20
 z20:=Tryz.sizeOf20
 v20:=Tryz.zeroValue20
 t37:=Tryz.underlying186
 a37:=Tryz.isAgg186
 z37:=Tryz.sizeOf186
 v37:=Tryz.zeroValue186
 t70:=Tryz.underlying239
 a70:=Tryz.isAgg239
 z70:=Tryz.sizeOf239
 v70:=Tryz.zeroValue239
 t72:=Tryz.underlying241
 a72:=Tryz.isAgg241
 z72:=Tryz.sizeOf241
 v72:=Tryz.zeroValue241
 t164:=Tryz.underlying272
 a164:=Tryz.isAgg272
 z164:=Tryz.sizeOf272
 v164:=Tryz.zeroValue272 }
theorem Tryz.Builder_Extra_165:Builder.Extra Tryz.prog Tryz.lays165_ren:={
 sizeBuilder:=by kernel_rfl
 liesBuilder:=by kernel_rfl
 t5:=Tryz.underlying5
 a5:=Tryz.isAgg5
 z5:=Tryz.sizeOf5
 v5:=Tryz.zeroValue5
 infoByte:=by kernel_rfl
 cellsByte:=by kernel_rfl
 sizeByte:=by kernel_rfl
 neB5:=by decide }
def Tryz.lays134_ren:Go.Shelf.Ren:=⟨fun|134=>198|129=>164|n=>n,fun|53=>42|3=>3|4=>4|46=>194|5=>5|9=>9|n=>n,fun|n=>n⟩
theorem Tryz.lays134:Go.Proofs.Lays.n134 Tryz.prog Tryz.lays134_ren:={
 mixed:=by kernel_rfl
 f129:=Tryz.func164.trans (congrArg some (by kernel_rfl))
 f134:=Tryz.func198.trans (congrArg some (by kernel_rfl))
 t3:=Tryz.underlying3
 a3:=Tryz.isAgg3
 z3:=Tryz.sizeOf3
 v3:=Tryz.zeroValue3
 t4:=Tryz.underlying4
 a4:=Tryz.isAgg4
 z4:=Tryz.sizeOf4
 v4:=Tryz.zeroValue4
 t5:=Tryz.underlying5
 a5:=Tryz.isAgg5
 z5:=Tryz.sizeOf5
 v5:=Tryz.zeroValue5
 t9:=Tryz.underlying9
 a9:=Tryz.isAgg9
 z9:=Tryz.sizeOf9
 v9:=Tryz.zeroValue9
 t46:=Tryz.underlying194
 a46:=Tryz.isAgg194
 z46:=Tryz.sizeOf194
 v46:=Tryz.zeroValue194
 t53:=Tryz.underlying42
 a53:=Tryz.isAgg42
 z53:=Tryz.sizeOf42
 v53:=Tryz.zeroValue42 }
theorem Tryz.bits_LeadingZeros64(x:Int)(w:World)(h0:0<=x)(h1:x<=18446744073709551615) :
  Calls Tryz.prog 198 #[.int .u64 x] w λe w'=>e = .returned (.int .i64 (64-(Lib.bitLen x.toNat:Int)))/\w'=w:=Any.bits_LeadingZeros64 Tryz.lays134 x w h0 h1
open Go.RowKit in
theorem Tryz.Builder_Grow_fresh_cap(B b n:Nat)(w:World)(hB:B<=b)(hbk:w.heap[b]?=some (.cells #[.pointer none,.slice none 0 0] 241 (0,0)))(hBw:B<=w.heap.size)(hn:n<=281474976710656) :
  Calls Tryz.prog 180 #[.pointer (some ⟨b,0,none⟩),.int .i64 n] w λe w'=>e = .returned (.tuple #[])/\(Lib.BuilderAt 241 5 B b (.pointer (some ⟨b,0,none⟩)) [] w'/\Below B w w')/\∃p cap,w'.cell? ⟨b,1,none⟩=some (.slice p 0 cap)/\n<=cap:=Any.Builder_Grow_fresh_cap Tryz.lays165 Tryz.Builder_Extra_165 B b n w hB hbk hBw hn
def Tryz.lays129_ren:Go.Shelf.Ren:=⟨fun|129=>164|n=>n,fun|53=>42|3=>3|4=>4|46=>194|5=>5|9=>9|n=>n,fun|n=>n⟩
theorem Tryz.lays129:Go.Proofs.Lays.n129 Tryz.prog Tryz.lays129_ren:={
 mixed:=by kernel_rfl
 f129:=Tryz.func164.trans (congrArg some (by kernel_rfl))
 t3:=Tryz.underlying3
 a3:=Tryz.isAgg3
 z3:=Tryz.sizeOf3
 v3:=Tryz.zeroValue3
 t4:=Tryz.underlying4
 a4:=Tryz.isAgg4
 z4:=Tryz.sizeOf4
 v4:=Tryz.zeroValue4
 t5:=Tryz.underlying5
 a5:=Tryz.isAgg5
 z5:=Tryz.sizeOf5
 v5:=Tryz.zeroValue5
 t9:=Tryz.underlying9
 a9:=Tryz.isAgg9
 z9:=Tryz.sizeOf9
 v9:=Tryz.zeroValue9
 t46:=Tryz.underlying194
 a46:=Tryz.isAgg194
 z46:=Tryz.sizeOf194
 v46:=Tryz.zeroValue194
 t53:=Tryz.underlying42
 a53:=Tryz.isAgg42
 z53:=Tryz.sizeOf42
 v53:=Tryz.zeroValue42 }
theorem Tryz.bits_Len64(x:Int)(w:World)(h0:0<=x)(h1:x<=18446744073709551615) :
  Calls Tryz.prog 164 #[.int .u64 x] w λe w'=>e = .returned (.int .i64 (Lib.bitLen x.toNat))/\w'=w:=Any.bits_Len64 Tryz.lays129 x w h0 h1
def Tryz.lays264_ren:Go.Shelf.Ren:=⟨fun|264=>145|n=>n,fun|53=>42|46=>194|n=>n,fun|n=>n⟩
theorem Tryz.lays264:Go.Proofs.Lays.n264 Tryz.prog Tryz.lays264_ren:={
 mixed:=by kernel_rfl
 f264:=Tryz.func145.trans (congrArg some (by kernel_rfl))
 t46:=Tryz.underlying194
 a46:=Tryz.isAgg194
 z46:=Tryz.sizeOf194
 v46:=Tryz.zeroValue194
 t53:=Tryz.underlying42
 a53:=Tryz.isAgg42
 z53:=Tryz.sizeOf42
 v53:=Tryz.zeroValue42 }
open Go.RowKit Go.Lib in
theorem Tryz.bits_Mul64(x y:Nat)(hx:x<18446744073709551616)(hy:y<18446744073709551616)(w:World) :
  Calls Tryz.prog 145 #[.int .u64 x,.int .u64 y] w λe w'=>e = .returned (.tuple #[.int .u64 ((x*y/18446744073709551616:Nat):Int),.int .u64 ((x*y%18446744073709551616:Nat):Int)])/\w'=w:=Any.bits_Mul64 Tryz.lays264 x y hx hy w
end Go.Proofs
namespace Go.Proofs.YtgpglgbcobeogaaGreatDoor
open Go.RowKit
theorem L8(d:Option Tmp)(ty:TypeId)(pos:String)(af:Array Edge)(gd:Option (Nat×Bool)):N5 Tryz.prog ⟨d,.alloc 44,ty,pos,af,gd⟩ = .cells #[.int .u64 0,.string ⟨#[]⟩] 44:=by kernel_rfl
theorem A2m(d:Option Tmp)(ty:TypeId)(pos:String)(af:Array Edge)(gd:Option (Nat×Bool)):N5 Tryz.prog ⟨d,.alloc 46,ty,pos,af,gd⟩ = .cells #[.bool false,.int .u64 0,.string ⟨#[]⟩] 46:=by kernel_rfl
theorem G6(d:Option Tmp)(ty:TypeId)(pos:String)(af:Array Edge)(gd:Option (Nat×Bool)):N5 Tryz.prog ⟨d,.alloc 48,ty,pos,af,gd⟩ = .cells #[.bool false,.int .u64 0,.string ⟨#[]⟩,.int .u64 0,.string ⟨#[]⟩] 48:=by kernel_rfl
theorem A8:∀t∈[44,46,48],N8 Tryz.prog t:=by
 intro t ht;simp only[List.mem_cons,List.not_mem_nil,or_false]at ht;rcases ht with rfl|rfl|rfl
 ·exact λ_ _ _ _ _ _=>by rw[L8];kernel_rfl
 ·exact λ_ _ _ _ _ _=>by rw[A2m];kernel_rfl
 ·exact λ_ _ _ _ _ _=>by rw[G6];kernel_rfl
theorem B2N{w w':World}(h:w'=w):A4 w w':=h ▸ A4.refl _
theorem bits_Len64(x:Int)(w:World)(h0:0<=x)(h1:x<18446744073709551616):Calls Tryz.prog 164 #[.int .u64 x] w λe w'=>e = .returned (.int .i64 (bl x.toNat))/\A4 w w' :=
 (Tryz.bits_Len64 x w h0 (by omega)).mono λe w' ⟨he,hw⟩=>⟨by rw[he,A66 _ (by omega)],B2N hw⟩
theorem B4G:∀(l:List UInt8) (h:8<=l.length),l.take 8=[l[0],l[1],l[2],l[3],l[4],l[5],l[6],l[7]]
 | _::_::_::_::_::_::_::_::_,_=>rfl
theorem B57(a b c d e f g h:Nat):((a+256*(b+256*(c+256*(d+256*(e+256*(f+256*(g+256*(h+256*0))))))):Nat):Int) =
  (a:Int)+(b:Int)*256+(c:Int)*65536+(d:Int)*16777216+(e:Int)*4294967296+(f:Int)*1099511627776+(g:Int)*281474976710656+(h:Int)*72057594037927936:=by omega
theorem B7P(s:ByteArray)(hs:8<=s.size):((Lib.leNat (s.data.toList.take 8):Nat):Int)=(s[0].toNat:Int)+(s[1].toNat:Int)*256+(s[2].toNat:Int)*65536+(s[3].toNat:Int)*16777216+(s[4].toNat:Int)*4294967296+(s[5].toNat:Int)*1099511627776+(s[6].toNat:Int)*281474976710656+(s[7].toNat:Int)*72057594037927936:=by
 rw[B4G s.data.toList (by simpa using hs)];exact B57 s[0].toNat s[1].toNat s[2].toNat s[3].toNat s[4].toNat s[5].toNat s[6].toNat s[7].toNat
theorem B8c(s:ByteArray)(hs:8<=s.size)(w:World) :
  Calls Tryz.prog 165 #[.string s] w λe w'=>e = .returned (.int .u64 (Lib.leNat (s.data.toList.take 8)))/\∃n,w'=w.drewN n:=by
 have q0:0<s.size:=by omega
 have q1:(1:Int)<(s.size:Int):=by omega
 have q2:(2:Int)<(s.size:Int):=by omega
 have q3:(3:Int)<(s.size:Int):=by omega
 have q4:(4:Int)<(s.size:Int):=by omega
 have q5:(5:Int)<(s.size:Int):=by omega
 have q6:(6:Int)<(s.size:Int):=by omega
 have q7:(7:Int)<(s.size:Int):=by omega
 go_enter Tryz.func165,Tryz.ntmps165;go_wp2;go_quiet (fail);go_wp2;go_ret;refine⟨C0T (λn=>Ending.returned (.int .u64 n)) ?_,_,rfl⟩;rw[B7P s hs];have h0:=s[0].toNat_lt;have h1:=s[1].toNat_lt;have h2:=s[2].toNat_lt;have h3:=s[3].toNat_lt;have h4:=s[4].toNat_lt;have h5:=s[5].toNat_lt;have h6:=s[6].toNat_lt;have h7:=s[7].toNat_lt;simp (disch:=omega) only[u64_wrap_id,u64_or8,u64_or16,u64_or24,u64_or32,u64_or40,u64_or48,u64_or56];rfl
theorem R5(w:World)(n:Nat):A4 w (w.drewN n):=⟨rfl,rfl,rfl,B8s _,λ_ _=>rfl⟩
theorem A4k(a i:Nat)(hi:i<(D3 a).length)(s:ByteArray)(hs:s.data.toList=(B6 a).data.toList.drop (8*i))(w:World) :
  Calls Tryz.prog 165 #[.string s] w λe w'=>e = .returned (.int .u64 ((D3 a)[i]:Nat))/\A4 w w':=by
 have hsz:8<=s.size:=by
  have h1:s.size=s.data.toList.length:=by show s.data.size=_;simp
  have h2:(B6 a).data.toList.length=(B6 a).size:=by show _=(B6 a).data.size;simp
  rw[h1,hs,B93,h2,A0u];omega
 refine(B8c s hsz w).mono λe w' ⟨he,n,hw⟩=>⟨?_,hw ▸ R5 w n⟩
 rw[he,hs,B5o a i hi]
theorem A7T(x y:Nat)(w:World):Calls Tryz.prog 169 #[.int .u64 x,.int .u64 y] w λe w'=>e = .returned (.int .i64 (G8 x y))/\A4 w w':=by
 by_cases h:x<y
 ·rw[T8 h];go_enter Tryz.func169,Tryz.ntmps169;go_wp2;go_ret;exact⟨rfl,A4.refl _⟩
 ·by_cases h':y<x
  ·rw[A0V h'];go_enter Tryz.func169,Tryz.ntmps169;go_wp2;go_ret;exact⟨rfl,A4.refl _⟩
  ·rw[A14 (show x=y by omega)];go_enter Tryz.func169,Tryz.ntmps169;go_wp2;go_ret;exact⟨rfl,A4.refl _⟩
theorem A3j(a:Nat)(ha:a<W64)(w:World):Calls Tryz.prog 143 #[.int .u64 a] w λe w'=>e = .returned (B2 a)/\A4 w w':=by
  go_enter Tryz.func143,Tryz.ntmps143;refine B9D (B80 NoP.up (B82 ?_));go_wp2_with fail;generalize hu:World.alloc w _=u;obtain⟨hB,hG⟩:=Z5 [(_,_)] w u hu;have hF:=A0b w [(44,#[])];simp only[O6,List.map_cons,List.map_nil]at hB hF;clear hu;generalize w.heap.size=b2 at hB hF⊢;refine NoP.norm ?_;refine A6 ?_;refine B9D ?_;refine A1u (w:=w) A8 2 [0,0] (by kernel_rfl) hB hG ?_;simp only[List.zip_cons_cons,List.zip_nil_left]
  (apply gy
   · exact rfl
   · (rintro v-N hN;go_simp;exact hN))
  (apply gy
   · exact rfl
   · (rintro v-N hN;go_simp;exact hN))
  refine I8 ?_;rintro v ⟨-,hB1,hG1⟩;clear hB hG;have hB:=hB1;have hG:=hG1;clear hB1 hG1;simp only[List.drop_succ_cons,List.drop_zero];have r:=hB.r;simp only[BxR]at r;go_wp2_with fail;clear r;generalize hu0:World.setCell (World.setCell v _ _) _ _=u0;have hBG:=hB.over hF hG 0 rfl 0 [_,_] hu0;clear hB hG hu0;simp only[List.modify_zero_cons,I7,List.setIfInBounds_toArray,List.set_cons_zero,List.set_cons_succ,Nat.zero_add]at hBG;obtain⟨hB,hG⟩:=hBG;clear v;obtain⟨u,rfl⟩:=exQ u0;refine NoP.norm ?_;refine A6 ?_;refine B0J rfl ?_;intro N hN;have r:=hB.r;simp only[BxR]at r;simp only[results,Tryz.results143];go_simp;refine hN _ ?_;clear hN N r;refine And.intro ?_ hG;rw[B2,O4 ha,A2s ha]
theorem B1V(a:Nat)(hs:a<W64)(w:World):Calls Tryz.prog 131 #[B2 a] w λe w'=>e = .returned (.int .i64 (bl a))/\A4 w w':=by
 have hE:(B6 a).toList.isEmpty=true:=by rw[P5];simpa using hs
 have hlo:=A2t a;have hhi:=B1g a;go_enter Tryz.func131,Tryz.ntmps131;go_wp2_with (go_at_call 164;refine(bits_Len64 _ _ hlo hhi).mono ?_;rintro e w1 ⟨rfl,hb⟩);go_ret;refine⟨?_,(A4.alloc w _).trans hb⟩;simp only[B6n,Nat.mod_eq_of_lt hs];rfl
def A1Q(a:Nat):Nat:=(D3 a).getLastD 0
theorem B8J(a:Nat)(hs:¬a<W64)(s:ByteArray)(hsl:s.data.toList=(B6 a).data.toList.drop ((B6 a).size-8))(w:World) :
  Calls Tryz.prog 165 #[.string s] w λe w'=>e = .returned (.int .u64 (A1Q a:Nat))/\A4 w w':=by
 have hne:D3 a≠[]:=by rw[Ne,A37];exact hs
 have hl:0<(D3 a).length:=List.length_pos_iff.2 hne;have h8:(B6 a).size-8=8*((D3 a).length-1):=by rw[A0u];omega
 refine(A4k a ((D3 a).length-1) (by omega) s (by rw[hsl,h8]) w).mono λe w' ⟨he,hg⟩=>⟨?_,hg⟩
 rw[he,A1Q,C1G,B9s,B9Y (by omega)];rfl
theorem B4c(a:Nat)(hs:¬a<W64)(ha:bl a<=1099511627776)(w:World):Calls Tryz.prog 131 #[B2 a] w λe w'=>e = .returned (.int .i64 (bl a))/\A4 w w':=by
  have hE:(B6 a).toList.isEmpty=false:=by rw[P5];simpa using hs
  have hub:=A60 a;have hne:D3 a≠[]:=by rw[Ne,A37];exact hs
  have hl:0<(D3 a).length:=List.length_pos_iff.2 hne;have h8:8<=(B6 a).size:=by rw[A0u];omega
  have hm:(B6 a).size<=1099511627776:=by rw[A0u];omega
  have hw1:IntKind.i64.wrap (8*((B6 a).size:Int))=8*((B6 a).size:Int):=B9Z _ (by omega);have hw2:IntKind.i64.wrap (((B6 a).size:Int)-8)=((B6 a).size:Int)-8:=B9Z _ (by omega);have hw3:(((B6 a).size:Int)-8).toNat=(B6 a).size-8:=by omega
  have hw4:(8:Int)<=((B6 a).size:Int):=by omega
  have hw5:((B6 a).size:Int)-8<=((B6 a).size:Int):=by omega
  have hgl:A1Q a<18446744073709551616:=by
    rw[A1Q,C1G,B9s,B9Y (by omega)];exact A2S a _ (B86 _)
  have hw6:IntKind.i64.wrap (8*((B6 a).size:Int)+(bl (A1Q a):Int))=8*((B6 a).size:Int)+(bl (A1Q a):Int):=B9Z _ (by have:=A0d hgl;omega);have hfin:(8*((B6 a).size:Int)+(bl (A1Q a):Int))=(bl a:Int):=by
    obtain⟨x,hx,_,hbl⟩:=B4B (Nat.le_of_not_lt hs);rw[A0u,A1Q,C1G,hx,hbl];simp only[Option.getD_some];omega
  have Hfin:=B9I hfin;clear hub hl hfin;go_enter Tryz.func131,Tryz.ntmps131;refine B9D (B80 NoP.up (B82 ?_));go_wp2_with fail;generalize hu:World.alloc w _=u;obtain⟨hB,hG⟩:=Z5 [(_,_)] w u hu;have hF:=A0b w [(44,#[])];simp only[O6,List.map_cons,List.map_nil]at hB hF;clear hu;generalize w.heap.size=b1 at hB hF⊢;refine NoP.norm ?_;refine A6 ?_;refine B9D ?_;refine B9D ?_;refine A1u (w:=w) A8 3 [0,0,0] (by kernel_rfl) hB hG ?_;simp only[List.zip_cons_cons,List.zip_nil_left]
  (apply gy
   · exact rfl
   · (rintro v-N hN;go_simp;exact hN))
  (apply gy
   · exact rfl
   · (rintro v ⟨-,hB,hG⟩ N hN;have r:=hB.r;simp only[BxR]at r;go_simp;exact hN))
  (apply gy
   · exact rfl
   · (rintro v-N hN;go_simp;exact hN))
  refine I8 ?_;rintro v ⟨-,hB1,hG1⟩;clear hB hG;have hB:=hB1;have hG:=hG1;clear hB1 hG1;simp only[List.drop_succ_cons,List.drop_nil];refine wpList_nil ?_;refine NoP.norm ?_;refine A6 ?_;refine B9y rfl ?_ ?_
  · intro ht
    cases ht
  · intro ht
    refine B9K ?_;refine A6 ?_;refine B9D ?_;refine A3W (w:=w) A8 14 [(0,0),(0,1),(0,2),(0,3),(0,4),(0,5),(0,6),(0,7),(0,8),(0,9),(0,10),(1,11),(1,12),(0,13)] (by kernel_rfl) (by kernel_rfl) hB hG ?_;simp only[H3,List.getElem?_toArray,List.getElem?_cons_zero,List.getElem?_cons_succ]
    (apply gy
     · exact rfl
     · (rintro v-N hN;go_simp;exact hN))
    (apply gy
     · exact rfl
     · (rintro v ⟨-,hB,hG⟩ N hN;have r:=hB.r;simp only[BxR]at r;go_simp;exact hN))
    (apply gy
     · exact rfl
     · (rintro v-N hN;go_simp;exact hN))
    (apply gy
     · exact rfl
     · (rintro v-N hN;go_simp;exact hN))
    (apply gy
     · exact rfl
     · (rintro v-N hN;go_simp;exact hN))
    (apply gy
     · exact rfl
     · (rintro v ⟨-,hB,hG⟩ N hN;have r:=hB.r;simp only[BxR]at r;go_simp;exact hN))
    (apply gy
     · exact rfl
     · (rintro v-N hN;go_simp;exact hN))
    (apply gy
     · exact rfl
     · (rintro v ⟨-,hB,hG⟩ N hN;have r:=hB.r;simp only[BxR]at r;go_simp;exact hN))
    (apply gy
     · exact rfl
     · (rintro v-N hN;go_simp;exact hN))
    (apply gy
     · exact rfl
     · (rintro v-N hN;go_simp;exact hN))
    (apply gy
     · exact rfl
     · (rintro v-N hN;go_simp;exact hN))
    (apply gm
     · exact rfl
     · (rintro v-N hN;go_simp;((with_reducible refine(B8J a hs _ (Lib.extract_to_end _ _) _).mono ?_);rintro e w1 ⟨rfl,hb⟩;exact⟨_,rfl,hN _ hb⟩)))
    (apply gm
     · exact rfl
     · (rintro v-N hN;go_simp;((with_reducible refine(bits_Len64 _ _ (by omega) (by omega)).mono ?_);rintro e w1 ⟨rfl,hb⟩;exact⟨_,rfl,hN _ hb⟩)))
    (apply gy
     · exact rfl
     · (rintro v-N hN;go_simp;exact hN))
    refine I8 ?_;rintro v ⟨-,hB1,hG1⟩;clear hB hG;have hB:=hB1;have hG:=hG1;clear hB1 hG1;simp only[List.drop_succ_cons,List.drop_zero];go_wp2_with fail;refine NoP.norm ?_;refine A6 ?_;refine B0J rfl ?_;intro N hN;have r:=hB.r;simp only[BxR]at r;simp only[results,Tryz.results131];go_simp;refine hN _ ?_;clear hN N r;refine And.intro ?_ hG;rw[Hfin.out]
theorem P4(a:Nat)(ha:bl a<=1099511627776)(w:World):Calls Tryz.prog 131 #[B2 a] w λe w'=>e = .returned (.int .i64 (bl a))/\A4 w w':=by
 by_cases hs:a<W64
 ·exact B1V a hs w
 ·exact B4c a hs ha w
theorem A8g(a:Nat)(w:World):Calls Tryz.prog 142 #[B2 a] w λe w'=>e = .returned (if a<W64 then .tuple #[.int .u64 (a:Nat),.bool true]else .tuple #[.int .u64 0,.bool false])/\A4 w w':=by
 by_cases hs:a<W64
 ·have hE:(B6 a).toList.isEmpty=true:=by rw[P5];simpa using hs
  rw[if_pos hs];go_enter Tryz.func142,Tryz.ntmps142;go_wp2;go_ret2;refine⟨?_,A4.alloc w _⟩;rw[<-O4 hs];rfl
 ·have hE:(B6 a).toList.isEmpty=false:=by rw[P5];simpa using hs
  rw[if_neg hs];go_enter Tryz.func142,Tryz.ntmps142;go_wp2;go_ret2;exact⟨rfl,A4.alloc w _⟩
end Go.Proofs.YtgpglgbcobeogaaGreatDoor
namespace Go.Proofs.YtgpglgbcobeogaaGreatDoor
theorem B3I:W64=2^64:=rfl
theorem B5l{ly vs:List Nat}{n1 s top:Nat}(hd:Dig W64 ly)(hl:ly.length=n1+1)(htop:top=dg ly n1)(h0:top≠0)(hs:s=64-bl top)(htW:top<W64)(hv:Dig W64 vs)(hvv:val W64 vs=val W64 ly*2^s) :
  val W64 vs<W64^(n1+1)/\W64^n1*2^s<=val W64 vs/\0<dg vs n1/\0<val W64 ly:=by
 have h1:=N1 W64 ly n1;rw[show ly.take (n1+1)=ly by rw[<-hl,C0h],<-htop]at h1;have h2:=K4 (B:=W64) (l:=ly.take n1) λx hx=>hd x (B9f hx);rw[show(ly.take n1).length=n1 by simp;omega]at h2;have hb:bl top<=64:=A0d htW;have hlt:=A0i top;have hp:0<W64^n1:=C0j C1;have hbl:1<=bl top:=T2.2 h0;have h3:val W64 ly<W64^n1*2^bl top:=by
  have:W64^n1*(top+1)<=W64^n1*2^bl top:=C0B _ hlt;rw[C0e,C0F]at this;omega
 have h4:W64^n1*1<=W64^n1*top:=C0B _ (by omega);have h5:val W64 vs<W64^(n1+1):=by
  rw[hvv,Nat.pow_succ]
  calc val W64 ly*2^s<W64^n1*2^bl top*2^s:=C0i h3 (Nat.two_pow_pos _)
   _=W64^n1*W64:=by rw[C0G,<-B9Q,show bl top+s=64 by omega,B3I]
 have h6:W64^n1*2^s<=val W64 vs:=by rw[hvv];exact B9g _ (by omega)
 refine⟨h5,h6,?_,by omega⟩;rcases B9C (dg vs n1)with hz|hz
 ·exfalso;have h7:=A2u C1 hv (k:=n1) λt ht=>by
   rcases B8t n1 t with h|h
   ·exact A3H C1 hv h5 t h
   ·obtain rfl:t=n1:=by omega
    exact hz
  have:W64^n1*1<=W64^n1*2^s:=C0B _ (Nat.two_pow_pos _);omega
 ·exact hz
theorem B7r{lx us vs:List Nat}{m n1 s k0:Nat}(hd:Dig W64 lx)(hl:lx.length=m)(hu:Dig W64 us)(huv:val W64 us=val W64 lx*2^s)(hvn:W64^n1*2^s<=val W64 vs)(hk:n1+k0=m) :
  DvI W64 (val W64 vs) (val W64 us) k0 us (List.replicate k0 0):=by
 refine⟨hu,λx hx=>by rw[(List.mem_replicate.1 hx).2];exact C1,by rw[A1V];simp,?_,λt _=>by unfold dg;rw[C0V];split<;>rfl⟩;have h1:=K4 hd;rw[hl]at h1;rw[huv]
 calc val W64 lx*2^s<W64^m*2^s:=C0i h1 (Nat.two_pow_pos _)
  _=W64^n1*2^s*W64^k0:=by rw[<-hk,B9Q];grind
  _<=val W64 vs*W64^k0:=B9g _ hvn
theorem DvI.top{X j n2:Nat}{us qs vs:List Nat}(h:DvI W64 (val W64 vs) X (j+1) us qs)(hv:Dig W64 vs)(hvW:val W64 vs<W64^(n2+2)) :
  Dig W64 (us.drop j)/\(∀t,n2+3<=t->dg (us.drop j) t=0)/\(∀t,n2+2<=t->dg vs t=0)/\val W64 (us.drop j)<val W64 vs*W64/\(∀t,j+n2+3<=t->dg us t=0):=by
 have hW:=C1;have hp:0<W64^j:=C0j hW;have h1:val W64 us<W64^(j+n2+3):=by
  refine B9N h.2.2.2.1 ?_
  calc val W64 vs*W64^(j+1)<=W64^(n2+2)*W64^(j+1):=B9g _ (B81 hvW)
   _=W64^(j+n2+3):=by rw[<-B9Q];congr 1;omega
 have h2:=A3H hW h.1 h1;refine⟨λx hx=>h.1 x (B94 hx),λt ht=>by rw[A03];exact h2 _ (by omega),A3H hW hv hvW,?_,h2⟩;rw[<-A3O hW h.1,C0g hp,C0G,B9j W64,<-Nat.pow_succ];exact h.2.2.2.1
theorem A6P{vs:List Nat}{n:Nat}(hv:Dig W64 vs)(h:val W64 vs<W64^n):val W64 (vs.take n)=val W64 vs:=by
 have h1:=A0B W64 (vs.take n) (vs.drop n);rw[B83]at h1;have h2:=A3O C1 hv n;rw[B9q h]at h2;rw[<-h2,C0D,Nat.add_zero]at h1;exact h1.symm
theorem A8C{M g V p a b:Nat}(hy:a<M)(hv:a+g*V*p=b+1*M):0<g:=by
 rcases B9C g with h|h
 ·rw[h,B9i,B9i]at hv;omega
 ·exact h
theorem DvA.last{W j n:Nat}{vs us:List Nat}{c:Nat}{zs:List Nat}(h:DvA W j vs us n c zs)(hW:0<W)(hi:j+n<us.length)(hvn:val W (vs.take n)=val W vs) :
  (zs.set (j+n) ((dg us (j+n)+c)%W)).length=us.length/\Dig W (zs.set (j+n) ((dg us (j+n)+c)%W))/\(∀t,j+n+1<=t->dg (zs.set (j+n) ((dg us (j+n)+c)%W)) t=dg us t) /\
  val W (zs.set (j+n) ((dg us (j+n)+c)%W))+(dg us (j+n)+c)/W*W^(j+n+1)=val W us+val W vs*W^j:=by
 obtain⟨h1,h2,h3,h4,h5⟩:=h;rw[hvn]at h4;have b1:=C0S (dg us (j+n)+c) W;have b2:=B9R (dg us (j+n)+c) hW;obtain⟨z,hz⟩:∃z,z=(dg us (j+n)+c)%W:=⟨_,rfl⟩
 obtain⟨e,he⟩:∃e,e=(dg us (j+n)+c)/W:=⟨_,rfl⟩
 rw[<-hz,<-he]at b1;rw[<-hz]at b2;rw[<-hz,<-he];have e1:=X9 W zs (j+n) z (by omega);rw[h3 (j+n) (B8s _)]at e1;refine⟨by simp[h1],Q6 h2 _ b2,λt ht=>by rw[P6 _ _ (by omega)];exact h3 t (by omega),?_⟩;have e2:val W (zs.set (j+n) z)+e*W^(j+n+1)+W^(j+n)*dg us (j+n)=val W us+val W vs*W^j+W^(j+n)*dg us (j+n):=by
  calc val W (zs.set (j+n) z)+e*W^(j+n+1)+W^(j+n)*dg us (j+n)
    = val W zs+W^(j+n)*(W*e+z):=by rw[Nat.pow_succ];grind
   _=val W zs+c*W^(j+n)+W^(j+n)*dg us (j+n):=by rw[b1];grind
   _=val W us+val W vs*W^j+W^(j+n)*dg us (j+n):=by rw[h4]
 omega
theorem B7z(W:Nat)(l:List Nat)(k:Nat):W^k*dg l k<=val W l:=by
 have h1:=N1 W l k;have h2:=A0B W (l.take (k+1)) (l.drop (k+1));rw[B83]at h2;omega
theorem A6T(i:Nat):(256:Nat)^i=W64^(i/8)*2^(8*(i%8)):=by
 rw[X5,show(256:Nat)=2^8 from rfl,<-B9O,<-B9O,<-B9Q];congr 1;omega
theorem B2u{zs:List Nat}{i y:Nat}(hi:i/8<zs.length)(hv:val W64 zs<256^i)(hy:y<256) :
  dg zs (i/8) ||| y*2^(8*(i%8))=dg zs (i/8)+y*2^(8*(i%8))/\dg zs (i/8)+y*2^(8*(i%8))<W64 /\
  val W64 (zs.set (i/8) (dg zs (i/8)+y*2^(8*(i%8))))=val W64 zs+y*256^i:=by
 have h1:=B7z W64 zs (i/8);have h2:dg zs (i/8)<2^(8*(i%8)):=by
  rw[A6T i]at hv;exact Nat.lt_of_mul_lt_mul_left (B9E h1 hv)
 have h3:=X9 W64 zs (i/8) (dg zs (i/8)+y*2^(8*(i%8))) hi;have h4:y*256^i=W64^(i/8)*(y*2^(8*(i%8))):=by rw[A6T];grind
 have h5:(y+1)*2^(8*(i%8))<=256*2^(8*(i%8)):=B9g _ hy;have h6:256*2^(8*(i%8))<=W64:=by
  rw[show(256:Nat)=2^8 from rfl,<-B9Q,X5];exact B9P (by omega) (by omega)
 rw[C0X,C0O]at h5;refine⟨?_,by omega,?_⟩
 ·rw[A20 h2 (B95 _ _),B96]
 ·rw[C0e]at h3;omega
theorem A6U{W:Nat}(hW:0<W){l:List Nat}(h:Dig W l)(k:Nat):val W (l.take k)<W^k:=by
 rcases B8t k l.length with hk|hk
 ·have:=K4 (B:=W) (l:=l.take k) (λx hx=>h x (B9f hx))
  rwa [List.length_take,B9t (by omega)]at this
 ·rw[A0T W l k hk];exact B9N (K4 h) (B9P hW hk)
def Tz(V z:Nat):Prop:=∃m,V=2^z*(2*m+1)
theorem A8Z{W:Nat}{l:List Nat}{k:Nat}(h:∀i,i<k->dg l i=0):val W (l.take k)=0:=by
 induction k with
 | zero=>rfl
 | succ k ih=>rw[N1,ih (λi hi=>h i (by omega)),h k (by omega)];simp
theorem B1C{l:List Nat}{k t m:Nat}(h0:∀i,i<k->dg l i=0)(hk:k<l.length)(hx:dg l k=2^t*(2*m+1))(ht:t<64):Tz (val W64 l) (64*k+t):=by
 have h1:=A0B W64 (l.take k) (l.drop k);rw[B83,A8Z h0,List.length_take,B9t (by omega),B97 hk,<-E3 hk,O7,hx,Nat.zero_add]at h1;refine⟨m+2^(63-t)*val W64 (l.drop (k+1)),?_⟩;rw[h1,B9Q,B9O];have e:W64=2^t*(2*2^(63-t)):=by
  rw[<-Nat.pow_succ',<-B9Q,X5];congr 1;omega
 rw[show(2:Nat)^64=W64 from rfl,C0G];congr 1;rw[e];grind
theorem Tz.inj{V z z':Nat}(h:Tz V z)(h':Tz V z'):z=z':=by
 obtain⟨m,hm⟩:=h;obtain⟨m',hm'⟩:=h';have key:∀a b x y:Nat,a<b->2^a*(2*x+1)=2^b*(2*y+1)->False:=by
  intro a b x y hab he;obtain⟨d,rfl⟩:∃d,b=a+(d+1):=⟨b-a-1,by omega⟩
  rw[B9Q,C0G]at he;have:=Nat.eq_of_mul_eq_mul_left (Nat.two_pow_pos a) he;rw[Nat.pow_succ,B9j (2^d) 2,C0G]at this;omega
 rcases B9v z z' with h|h|h
 ·exact(key _ _ _ _ h (hm.symm.trans hm')).elim
 ·exact h
 ·exact(key _ _ _ _ h (hm'.symm.trans hm)).elim
def DnI(P R:Nat)(l:List Nat)(i:Nat)(zs:List Nat):Prop :=
 zs.length=l.length/\(∀t,t<i->dg zs t=dg l t/P+dg l (t+1)%P*R)/\∀t,i<=t->dg zs t=dg l t
theorem DnI.start(P R:Nat)(l:List Nat):DnI P R l 0 l:=⟨rfl,λt ht=>by omega,λ_ _=>rfl⟩
theorem DnI.next{P R:Nat}{l zs:List Nat}{i:Nat}(h:DnI P R l i zs)(hi:i<l.length):DnI P R l (i+1) (zs.set i (dg l i/P+dg l (i+1)%P*R)):=by
 refine⟨by rw[B9h];exact h.1,λt ht=>?_,λt ht=>by rw[P6 _ _ (by omega)];exact h.2.2 t (by omega)⟩;rcases B8t t i with hlt|hge
 ·rw[P6 _ _ (by omega)];exact h.2.1 t hlt
 ·obtain rfl:t=i:=by omega
  rw[A55 (by rw[h.1];exact hi)]
theorem DnI.done{W P R:Nat}{l zs:List Nat}(hW:W=P*R)(hP:0<P)(hW0:0<W)(hd:Dig W l)(h:DnI P R l l.length zs):val W zs=val W l/P/\Dig W zs :=
 ⟨A4v hW hP hW0 l zs hd h.1 h.2.1,λx hx=>by
  obtain⟨t,ht,rfl⟩:=C0m hx;rw[<-E3 ht,h.2.1 t (by rw[<-h.1];exact ht)]
  exact(A2R hW hP (C6 hW0 hd _)).1⟩
def SbI(W:Nat)(lx ly:List Nat)(k br:Nat)(zs:List Nat):Prop :=
 zs.length=lx.length/\Dig W zs/\br<=1/\(∀t,k<=t->dg zs t=dg lx t)/\val W (zs.take k)+val W (ly.take k)=val W (lx.take k)+br*W^k
theorem SbI.start(W:Nat){lx:List Nat}(ly:List Nat)(h:Dig W lx):SbI W lx ly 0 0 lx:=⟨rfl,h,by omega,λ_ _=>rfl,by simp[val]⟩
theorem A6W{zs:List Nat}{k z:Nat}(h:k<zs.length):(zs.set k z).take (k+1)=zs.take k++[z]:=by
 rw[B9X (by rw[B9h];exact h),List.take_set_of_le (B8s k),List.getElem_set_self]
theorem SbI.next{W:Nat}{lx ly zs:List Nat}{k br:Nat}(h:SbI W lx ly k br zs)(hW:0<W)(hx:Dig W lx)(hy:Dig W ly)(hk:k<lx.length) :
  SbI W lx ly (k+1) (if dg lx k<dg ly k+br then 1 else 0) (zs.set k ((dg lx k+W-dg ly k-br)%W)):=by
 obtain⟨h1,h2,h3,h4,h5⟩:=h;refine⟨by rw[B9h];exact h1,Q6 h2 _ (B9R _ hW),by split<;>omega,λt ht=>by rw[P6 _ _ (by omega)];exact h4 t (by omega),?_⟩;rw[A6W (by omega)];exact A54 h3 (C6 hW hx k) (C6 hW hy k) (by rw[List.length_take];omega) h5
theorem SbI.done{W:Nat}{lx ly zs:List Nat}{k br:Nat}(h:SbI W lx ly k br zs)(hk:k=lx.length)(hl:ly.length<=lx.length)(hle:val W ly<=val W lx):val W zs=val W lx-val W ly:=by
 obtain⟨h1,h2,h3,h4,h5⟩:=h;subst hk;have h6:=K4 h2;rw[B9k (by omega),B9k hl,C0h]at h5;rw[h1]at h6;rcases B9C br with rfl|hp
 ·omega
 ·obtain rfl:br=1:=by omega
  omega
theorem B5n{v w z m g:Nat}(hw:w%2=1)(hlt:w<v)(hz:v-w=2^z*m)(h:Nat.gcd v w=g):Nat.gcd m w=g:=by
 rw[<-h,<-Nat.gcd_sub_self_left (B81 hlt),hz];refine(C1H m ?_).symm
 exact Nat.Coprime.pow_left z (by
  rw[Nat.coprime_iff_gcd_eq_one];show Nat.gcd 2 w=1
  rw[Nat.gcd_rec,hw];rfl)
theorem A7O{w:Nat}(hw:w%2=1)(z:Nat):Nat.Coprime (2^z) w:=Nat.Coprime.pow_left z (by
  show Nat.gcd 2 w=1
  rw[Nat.gcd_rec,hw];rfl)
theorem B7D{x y a b v w:Nat}(hx:x=2^a*v)(hy:y=2^b*w)(hv:v%2=1)(hw:w%2=1):Nat.gcd x y=2^min a b*Nat.gcd v w:=by
 subst hx;subst hy;rcases Nat.le_total a b with h|h
 ·obtain⟨d,rfl⟩:∃d,b=a+d:=⟨b-a,by omega⟩
  rw[B9t h,B9Q,C0G,Nat.gcd_mul_left];congr 1;rw[C0A,C1H w (A7O hv d),C0A]
 ·obtain⟨d,rfl⟩:∃d,a=b+d:=⟨a-b,by omega⟩
  rw[Nat.min_eq_right h,B9Q,C0G,Nat.gcd_mul_left];congr 1;exact C1H v (A7O hw d)
theorem B26(x:Nat)(h0:x≠0)(h:x<W64):∃m,x=2^Lib.ctz 64 x*(2*m+1)/\Lib.ctz 64 x<64:=by
 have:=Lib.ctzFrom_spec 64 x (by omega) h;unfold Lib.ctz;rw[if_neg h0];exact this
end Go.Proofs.YtgpglgbcobeogaaGreatDoor
