import Derived.Test.YtgpglgbcobeogaaGreatDoorW1
import Derived.Test.YtgpglgbcobeogaaGreatDoorW3
set_option linter.unusedSimpArgs false
set_option linter.unusedVariables false
set_option maxHeartbeats 2000000
set_option maxRecDepth 100000
namespace Go.Proofs.YtgpglgbcobeogaaGreatDoor
open Go
def W64:Nat:=18446744073709551616
theorem D7:2≤W64:=by unfold W64;omega
theorem C3:0<W64:=by unfold W64;omega
theorem Z4:W64=2^64:=rfl
def bl(a:Nat):Nat:=if a=0 then 0 else a.log2+1
theorem A0m:bl 0=0:=rfl
theorem Q9{a k:Nat}:bl a≤k↔a<2^k:=by
 unfold bl;split
 ·rename_i h;subst h;simp[Nat.two_pow_pos]
 ·rename_i h;rw[Nat.add_one_le_iff,Nat.log2_lt h]
theorem A1G{a k:Nat}:k<bl a↔2^k≤a:=by
 rw[←Nat.not_le,Q9,Nat.not_lt]
theorem A0c(a:Nat):a<2^bl a:=Q9.1 (B9G _)
theorem S5{a b:Nat}(h:a≤b):bl a≤bl b:=Q9.2 (B9c h (A0c b))
theorem Z8{a:Nat}:bl a=0↔a=0:=by
 rw[←Nat.le_zero,Q9];simp
theorem U6{a:Nat}:0<bl a↔a≠0:=by
 have:=@Z8 a;omega
theorem A2V{a:Nat}:bl a=1↔a=1:=by
 have h1:=@Q9 a 1;have h2:=@Z8 a;simp at h1;omega
theorem B73{a k:Nat}(h1:2^k≤a)(h2:a<2^(k+1)):bl a=k+1:=by
 have:=A1G.2 h1;have:=Q9.2 h2;omega
theorem A71(a b:Nat):bl (a+b)≤max (bl a) (bl b)+1:=by
 rw[Q9,Nat.pow_succ];have h1:=B9l (A0c a) (B9n (by omega) (Nat.le_max_left (bl a) (bl b)));have h2:=B9l (A0c b) (B9n (by omega) (Nat.le_max_right (bl a) (bl b)));omega
theorem T9(a b:Nat):bl (a*b)≤bl a+bl b:=by
 rw[Q9,B9o];rcases B9a b with rfl|hb
 ·simp[Nat.two_pow_pos]
 ·exact B9l (C06 (A0c a) hb) (C0Z _ (B9P (A0c b)))
theorem O5(a b:Nat):bl (a/b)≤bl a:=S5 (B9d a b)
theorem A2W(a b:Nat):bl (a%b)≤bl a:=S5 (Nat.mod_le a b)
theorem A8t(a b:Nat):bl (a-b)≤bl a:=S5 (Nat.sub_le a b)
theorem B7H(a b:Nat)(ha:a≠0):bl (a.gcd b)≤bl a:=S5 (Nat.gcd_le_left b (by omega))
theorem A4o(a b:Nat)(hb:b≠0):bl (a.gcd b)≤bl b:=S5 (Nat.gcd_le_right a (by omega))
theorem A5G{x y k:Nat}(hx:x<2^k)(hy:y≠0):bl (x+2^k*y)=k+bl y:=by
 obtain⟨m,hm⟩:∃m,bl y=m+1:=⟨bl y-1,by have:=U6.2 hy;omega⟩
 have h1:2^m≤y:=A1G.1 (by omega);have h2:y<2^(m+1):=by rw[←hm];exact A0c y
 rw[hm,←C0u];refine B73 ?_ ?_
 ·rw[B9o];have:=C0Z (2^k) h1;omega
 ·rw[C0u,B9o];have h3:2^k*(y+1)≤2^k*2^(m+1):=C0Z _ h2;rw[C02,C0d]at h3;omega
theorem A7x(x:Nat)(h:x<2^64):Lib.bitLen x=bl x:=by
  have key:∀f y,y<2^f→Lib.bitLenAux f y=bl y:=by
    intro f
    induction f with
    | zero => intro y hy; have : y = 0 := by simp at hy; omega
              subst this;rfl
    | succ f ih =>
      intro y hy;simp only[Lib.bitLenAux];split
      · rename_i h0;subst h0;rfl
      · rename_i h0
        rw[Nat.pow_succ]at hy;rw[ih (y/2) (by omega)];by_cases h1:y/2=0
        · have hy1:y=1:=by omega
          subst hy1;rfl
        · have:=A5G (x:=y%2) (y:=y/2) (k:=1) (by omega) h1
          rw[show y%2+2^1*(y/2)=y by omega]at this;omega
  exact key 64 x h
def D0(a:Nat):List Nat:=B5 W64 (a/W64)
def B8(a:Nat):Int:=(a%W64:Nat)
def B6(a:Nat):ByteArray:=⟨((D0 a).flatMap (Lib.leBytes 8)).toArray⟩
def D6(z:Int):Bool:=decide (z<0)
def G9(d:Nat):Nat:=if d=1 then 0 else d
abbrev B4(a:Nat):Value:=.agg #[.int .u64 (B8 a),.string (B6 a)]
abbrev E0(z:Int):Value:=.agg #[.bool (D6 z),.int .u64 (B8 z.natAbs),.string (B6 z.natAbs)]
abbrev qV(q:Rat):Value:=.agg #[.bool (D6 q.num),.int .u64 (B8 q.num.natAbs),.string (B6 q.num.natAbs),.int .u64 (B8 (G9 q.den)),.string (B6 (G9 q.den))]
theorem A9a{a:Nat}(h:a<W64):D0 a=[]:=by
 unfold D0;rw[C0E h];rfl
theorem A24{a:Nat}(h:a<W64):B6 a=⟨#[]⟩:=by
 unfold B6;rw[A9a h];rfl
theorem O3{a:Nat}(h:a<W64):B8 a=a:=by
 unfold B8;rw[Nat.mod_eq_of_lt h]
theorem A2p(a:Nat):0≤B8 a:=Int.natCast_nonneg _
theorem B3D(a:Nat):B8 a<18446744073709551616:=by
 have:=B9p a C3;unfold B8;unfold W64 at *;omega
theorem B56(a:Nat):(B8 a).toNat=a%W64:=by unfold B8;omega
theorem A4w(k v:Nat):(Lib.leBytes k v).length=k:=by
 induction k generalizing v with
 | zero=>rfl
 | succ k ih=>simp[Lib.leBytes,ih]
theorem A6Y(l:List Nat):(l.flatMap (Lib.leBytes 8)).length=8*l.length:=by
 induction l with
 | nil=>rfl
 | cons x l ih=>simp[List.flatMap_cons,A4w,ih];omega
theorem A0w(a:Nat):(B6 a).size=8*(D0 a).length:=by
 show((D0 a).flatMap (Lib.leBytes 8)).toArray.size=_;rw[List.size_toArray,A6Y]
theorem B0l(a:Nat):(B6 a).data.toList=(D0 a).flatMap (Lib.leBytes 8):=rfl
theorem B6O(l:List Nat)(i:Nat):(l.flatMap (Lib.leBytes 8)).drop (8*i)=(l.drop i).flatMap (Lib.leBytes 8):=by
 induction i generalizing l with
 | zero=>simp
 | succ i ih =>
  cases l with
  | nil=>simp
  | cons x l =>
   rw[List.flatMap_cons,show 8*(i+1)=8+8*i by omega,←List.drop_drop,List.drop_left' (A4w 8 x),ih];rfl
theorem B52(x:Nat)(l:List Nat):((x::l).flatMap (Lib.leBytes 8)).take 8=Lib.leBytes 8 x:=by
 rw[List.flatMap_cons,List.take_left' (A4w 8 x)]
theorem A2l(a:Nat):Dig W64 (D0 a):=H4 D7 _
theorem B42(a i:Nat)(h:i<(D0 a).length):Lib.leNat (((B6 a).data.toList.drop (8*i)).take 8)=(D0 a)[i]:=by
 rw[B0l,B6O,C0V h,B52];exact Lib.leNat_leBytes 8 _ (by have:=A2l a (D0 a)[i] (B9U h);unfold W64 at this;omega)
theorem A4K{a:Nat}(h:a≠0):B5 W64 a=a%W64::D0 a:=A04 D7 h
theorem A5D{a:Nat}:D0 a=[]↔a<W64:=by
 constructor
 ·intro h;have h1:=E3 D7 (a/W64);have h2:B5 W64 (a/W64)=[]:=h;rw[h2]at h1;have h3:a/W64=0:=h1.symm;rcases Nat.div_eq_zero_iff.1 h3 with h4|h4
  ·exact absurd h4 (C0j C3)
  ·exact h4
 ·exact A9a
theorem P9(a:Nat):(B6 a).toList.isEmpty=decide (a<W64):=by
 rw[Bool.eq_iff_iff,List.isEmpty_iff,decide_eq_true_eq,←A5D];have hs:(B6 a).toList=(B6 a).data.toList:=ByteArray.toList_eq _;rw[hs,B0l];constructor
 ·intro h;have:=A6Y (D0 a);rw[h]at this;simp only[List.length_nil]at this;exact B9K (by omega)
 ·intro h;rw[h];rfl
theorem A6Z(a:Nat):64*(D0 a).length≤bl a:=by
 rcases B9a (D0 a).length with h|h
 ·omega
 ·have hne:a/W64≠0:=by
   intro h0;have:D0 a=[]:=by unfold D0;rw[h0];rfl
   rw[this]at h;simp at h
  have ht:=(A4V (H4 D7 (a/W64))).1 (A2K D7 (a/W64));rw[E3 D7]at ht;rcases ht with ht|ht
  ·have:D0 a=[]:=ht;rw[this]at h;simp at h
  ·have h1:W64^(D0 a).length≤a:=by
    have h2:W64*W64^((D0 a).length-1)≤a:=B9Y (C0Z _ ht) (Nat.mul_div_le a W64);rw[←Nat.pow_succ',Nat.succ_eq_add_one,Nat.sub_add_cancel h]at h2;exact h2
   rw[Z4,←B9m]at h1;exact B9P (A1G.2 h1)
theorem B87{a:Nat}(h:W64≤a):∃x,(D0 a).getLast?=some x∧x<2^64∧bl a=64*(D0 a).length+bl x:=by
 have hne:D0 a≠[]:=by rw[Ne,A5D];omega
 obtain⟨m,x,hmx⟩:∃m x,D0 a=m++[x]:=⟨_,_,(List.dropLast_concat_getLast hne).symm⟩
 have hx:x<W64:=A2l a x (by rw[hmx];simp);have hx0:x≠0:=by
  have ht:V4 (D0 a):=A2K D7 _;rcases ht with ht|ht
  ·exact absurd ht hne
  ·rw[hmx]at ht;simpa using ht
 refine⟨x,by rw[hmx];simp,by rw[←Z4];exact hx,?_⟩;have hv:val W64 (a%W64::D0 a)=a:=by
  have h0:a≠0:=by have:=C3;omega
  rw[←A4K h0,E3 D7]
 have hd:Dig W64 (a%W64::m):=by
  intro y hy;rcases List.mem_cons.1 hy with rfl|hy
  ·exact B9p _ C3
  ·exact A2l a y (by rw[hmx];simp[hy])
 have hs:a=val W64 (a%W64::m)+2^(64*(D0 a).length)*x:=by
  have h1:a%W64::D0 a=(a%W64::m)++[x]:=by rw[hmx];rfl
  rw[h1,A0r]at hv;rw[hmx];simp only[List.length_append,List.length_cons,List.length_nil]at hv⊢;rw[B9m,←Z4];exact hv.symm
 have hlt:val W64 (a%W64::m)<2^(64*(D0 a).length):=by
  have:=J7 hd;rw[hmx];simp only[List.length_append,List.length_cons,List.length_nil]at this⊢;rw[B9m,←Z4];exact this
 rw[hs,A5G hlt hx0,←hs]
theorem A0j{a:Nat}(h:a<W64):bl a≤64:=Q9.2 (by rw[←Z4];exact h)
end Go.Proofs.YtgpglgbcobeogaaGreatDoor
namespace Go.Proofs
open Go.Shelf
def Tryz.lays169_ren:Go.Shelf.Ren:=⟨fun|169=>182|n=>n,fun|70=>239|9=>9|0=>0|72=>241|37=>186|127=>261|3=>3|5=>5|n=>n,fun|n=>n⟩
theorem Tryz.lays169:Go.Proofs.Lays.n169 Tryz.prog Tryz.lays169_ren:={
 mixed:=by kernel_rfl
 f169:=Tryz.func182.trans (congrArg some (by kernel_rfl))
 t0:=Tryz.underlying0
 a0:=Tryz.isAgg0
 z0:=Tryz.sizeOf0
 v0:=Tryz.zeroValue0
 t3:=Tryz.underlying3
 a3:=Tryz.isAgg3
 z3:=Tryz.sizeOf3
 v3:=Tryz.zeroValue3
 t9:=Tryz.underlying9
 a9:=Tryz.isAgg9
 z9:=Tryz.sizeOf9
 v9:=Tryz.zeroValue9
 t37:=Tryz.underlying186
 a37:=Tryz.isAgg186
 z37:=Tryz.sizeOf186
 v37:=Tryz.zeroValue186
 t70:=Tryz.underlying239
 a70:=Tryz.isAgg239
 z70:=Tryz.sizeOf239
 v70:=Tryz.zeroValue239
 t72:=Tryz.underlying241
 a72:=Tryz.isAgg241
 z72:=Tryz.sizeOf241
 v72:=Tryz.zeroValue241
 t127:=Tryz.underlying261
 a127:=Tryz.isAgg261
 z127:=Tryz.sizeOf261
 v127:=Tryz.zeroValue261 }
theorem Tryz.Builder_Extra_169:Builder.Extra Tryz.prog Tryz.lays169_ren:={
 sizeBuilder:=by kernel_rfl
 liesBuilder:=by kernel_rfl
 t5:=Tryz.underlying5
 a5:=Tryz.isAgg5
 z5:=Tryz.sizeOf5
 v5:=Tryz.zeroValue5
 infoByte:=by kernel_rfl
 cellsByte:=by kernel_rfl
 sizeByte:=by kernel_rfl
 neB5:=by decide }
open Go.RowKit in
theorem Tryz.Builder_String_any(B b:Nat)(l:List UInt8)(w:World)(h:Lib.IsBuilder 241 5 B b (Lib.byteCells l) w)(hBw:B≤w.heap.size) :
  Calls Tryz.prog 182 #[.pointer (some ⟨b,0,none⟩)] w fun e w'=>e = .returned (.string ⟨l.toArray⟩)∧Below B w w':=Any.Builder_String_any Tryz.lays169 Tryz.Builder_Extra_169 B b l w h hBw
def Tryz.lays165_ren:Go.Shelf.Ren:=⟨fun|165=>180|240=>205|241=>206|276=>216|277=>217|n=>n,fun|70=>239|3=>3|0=>0|4=>4|9=>9|20=>20|72=>241|37=>186|164=>272|5=>5|n=>n,fun|n=>n⟩
theorem Tryz.lays165:Go.Proofs.Lays.n165 Tryz.prog Tryz.lays165_ren:={
 mixed:=by kernel_rfl
 f165:=Tryz.func180.trans (congrArg some (by kernel_rfl))
 f240:=Tryz.func205.trans (congrArg some (by kernel_rfl))
 f241:=Tryz.func206.trans (congrArg some (by kernel_rfl))
 f276:=Tryz.func216.trans (congrArg some (by kernel_rfl))
 f277:=Tryz.func217.trans (congrArg some (by kernel_rfl))
 t0:=Tryz.underlying0
 a0:=Tryz.isAgg0
 z0:=Tryz.sizeOf0
 v0:=Tryz.zeroValue0
 t3:=Tryz.underlying3
 a3:=Tryz.isAgg3
 z3:=Tryz.sizeOf3
 v3:=Tryz.zeroValue3
 t4:=Tryz.underlying4
 a4:=Tryz.isAgg4
 z4:=Tryz.sizeOf4
 v4:=Tryz.zeroValue4
 t9:=Tryz.underlying9
 a9:=Tryz.isAgg9
 z9:=Tryz.sizeOf9
 v9:=Tryz.zeroValue9
 t20:=Tryz.underlying20
 a20:=Tryz.isAgg20
 z20:=Tryz.sizeOf20
 v20:=Tryz.zeroValue20
 t37:=Tryz.underlying186
 a37:=Tryz.isAgg186
 z37:=Tryz.sizeOf186
 v37:=Tryz.zeroValue186
 t70:=Tryz.underlying239
 a70:=Tryz.isAgg239
 z70:=Tryz.sizeOf239
 v70:=Tryz.zeroValue239
 t72:=Tryz.underlying241
 a72:=Tryz.isAgg241
 z72:=Tryz.sizeOf241
 v72:=Tryz.zeroValue241
 t164:=Tryz.underlying272
 a164:=Tryz.isAgg272
 z164:=Tryz.sizeOf272
 v164:=Tryz.zeroValue272 }
theorem Tryz.Builder_Extra_165:Builder.Extra Tryz.prog Tryz.lays165_ren:={
 sizeBuilder:=by kernel_rfl
 liesBuilder:=by kernel_rfl
 t5:=Tryz.underlying5
 a5:=Tryz.isAgg5
 z5:=Tryz.sizeOf5
 v5:=Tryz.zeroValue5
 infoByte:=by kernel_rfl
 cellsByte:=by kernel_rfl
 sizeByte:=by kernel_rfl
 neB5:=by decide }
def Tryz.lays134_ren:Go.Shelf.Ren:=⟨fun|134=>198|129=>164|n=>n,fun|53=>42|3=>3|4=>4|46=>194|5=>5|9=>9|n=>n,fun|n=>n⟩
theorem Tryz.lays134:Go.Proofs.Lays.n134 Tryz.prog Tryz.lays134_ren:={
 mixed:=by kernel_rfl
 f129:=Tryz.func164.trans (congrArg some (by kernel_rfl))
 f134:=Tryz.func198.trans (congrArg some (by kernel_rfl))
 t3:=Tryz.underlying3
 a3:=Tryz.isAgg3
 z3:=Tryz.sizeOf3
 v3:=Tryz.zeroValue3
 t4:=Tryz.underlying4
 a4:=Tryz.isAgg4
 z4:=Tryz.sizeOf4
 v4:=Tryz.zeroValue4
 t5:=Tryz.underlying5
 a5:=Tryz.isAgg5
 z5:=Tryz.sizeOf5
 v5:=Tryz.zeroValue5
 t9:=Tryz.underlying9
 a9:=Tryz.isAgg9
 z9:=Tryz.sizeOf9
 v9:=Tryz.zeroValue9
 t46:=Tryz.underlying194
 a46:=Tryz.isAgg194
 z46:=Tryz.sizeOf194
 v46:=Tryz.zeroValue194
 t53:=Tryz.underlying42
 a53:=Tryz.isAgg42
 z53:=Tryz.sizeOf42
 v53:=Tryz.zeroValue42 }
theorem Tryz.bits_LeadingZeros64(x:Int)(w:World)(h0:0≤x)(h1:x≤18446744073709551615) :
  Calls Tryz.prog 198 #[.int .u64 x] w fun e w'=>e = .returned (.int .i64 (64-(Lib.bitLen x.toNat:Int)))∧w'=w:=Any.bits_LeadingZeros64 Tryz.lays134 x w h0 h1
open Go.RowKit in
theorem Tryz.Builder_Grow_fresh_cap(B b n:Nat)(w:World)(hB:B≤b)(hbk:w.heap[b]?=some (.cells #[.pointer none,.slice none 0 0] 241 (0,0)))(hBw:B≤w.heap.size)(hn:n≤281474976710656) :
  Calls Tryz.prog 180 #[.pointer (some ⟨b,0,none⟩),.int .i64 n] w fun e w'=>e = .returned (.tuple #[])∧(Lib.BuilderAt 241 5 B b (.pointer (some ⟨b,0,none⟩)) [] w'∧Below B w w')∧∃p cap,w'.cell? ⟨b,1,none⟩=some (.slice p 0 cap)∧n≤cap:=Any.Builder_Grow_fresh_cap Tryz.lays165 Tryz.Builder_Extra_165 B b n w hB hbk hBw hn
def Tryz.lays129_ren:Go.Shelf.Ren:=⟨fun|129=>164|n=>n,fun|53=>42|3=>3|4=>4|46=>194|5=>5|9=>9|n=>n,fun|n=>n⟩
theorem Tryz.lays129:Go.Proofs.Lays.n129 Tryz.prog Tryz.lays129_ren:={
 mixed:=by kernel_rfl
 f129:=Tryz.func164.trans (congrArg some (by kernel_rfl))
 t3:=Tryz.underlying3
 a3:=Tryz.isAgg3
 z3:=Tryz.sizeOf3
 v3:=Tryz.zeroValue3
 t4:=Tryz.underlying4
 a4:=Tryz.isAgg4
 z4:=Tryz.sizeOf4
 v4:=Tryz.zeroValue4
 t5:=Tryz.underlying5
 a5:=Tryz.isAgg5
 z5:=Tryz.sizeOf5
 v5:=Tryz.zeroValue5
 t9:=Tryz.underlying9
 a9:=Tryz.isAgg9
 z9:=Tryz.sizeOf9
 v9:=Tryz.zeroValue9
 t46:=Tryz.underlying194
 a46:=Tryz.isAgg194
 z46:=Tryz.sizeOf194
 v46:=Tryz.zeroValue194
 t53:=Tryz.underlying42
 a53:=Tryz.isAgg42
 z53:=Tryz.sizeOf42
 v53:=Tryz.zeroValue42 }
theorem Tryz.bits_Len64(x:Int)(w:World)(h0:0≤x)(h1:x≤18446744073709551615) :
  Calls Tryz.prog 164 #[.int .u64 x] w fun e w'=>e = .returned (.int .i64 (Lib.bitLen x.toNat))∧w'=w:=Any.bits_Len64 Tryz.lays129 x w h0 h1
def Tryz.lays264_ren:Go.Shelf.Ren:=⟨fun|264=>145|n=>n,fun|53=>42|46=>194|n=>n,fun|n=>n⟩
theorem Tryz.lays264:Go.Proofs.Lays.n264 Tryz.prog Tryz.lays264_ren:={
 mixed:=by kernel_rfl
 f264:=Tryz.func145.trans (congrArg some (by kernel_rfl))
 t46:=Tryz.underlying194
 a46:=Tryz.isAgg194
 z46:=Tryz.sizeOf194
 v46:=Tryz.zeroValue194
 t53:=Tryz.underlying42
 a53:=Tryz.isAgg42
 z53:=Tryz.sizeOf42
 v53:=Tryz.zeroValue42 }
open Go.RowKit Go.Lib in
theorem Tryz.bits_Mul64(x y:Nat)(hx:x<18446744073709551616)(hy:y<18446744073709551616)(w:World) :
  Calls Tryz.prog 145 #[.int .u64 x,.int .u64 y] w fun e w'=>e = .returned (.tuple #[.int .u64 ((x*y/18446744073709551616:Nat):Int),.int .u64 ((x*y%18446744073709551616:Nat):Int)])∧w'=w:=Any.bits_Mul64 Tryz.lays264 x y hx hy w
end Go.Proofs
namespace Go.Proofs.YtgpglgbcobeogaaGreatDoor
open Go.RowKit
theorem M3(d:Option Tmp)(ty:TypeId)(pos:String)(af:Array Edge)(gd:Option (Nat×Bool)):M8 Tryz.prog ⟨d,.alloc 44,ty,pos,af,gd⟩ = .cells #[.int .u64 0,.string ⟨#[]⟩] 44:=by kernel_rfl
theorem A2f(d:Option Tmp)(ty:TypeId)(pos:String)(af:Array Edge)(gd:Option (Nat×Bool)):M8 Tryz.prog ⟨d,.alloc 46,ty,pos,af,gd⟩ = .cells #[.bool false,.int .u64 0,.string ⟨#[]⟩] 46:=by kernel_rfl
theorem J5(d:Option Tmp)(ty:TypeId)(pos:String)(af:Array Edge)(gd:Option (Nat×Bool)):M8 Tryz.prog ⟨d,.alloc 48,ty,pos,af,gd⟩ = .cells #[.bool false,.int .u64 0,.string ⟨#[]⟩,.int .u64 0,.string ⟨#[]⟩] 48:=by kernel_rfl
theorem A8:∀t∈[44,46,48],O1 Tryz.prog t:=by
 intro t ht;simp only[List.mem_cons,List.not_mem_nil,or_false]at ht;rcases ht with rfl|rfl|rfl
 ·exact fun _ _ _ _ _ _=>by rw[M3];kernel_rfl
 ·exact fun _ _ _ _ _ _=>by rw[A2f];kernel_rfl
 ·exact fun _ _ _ _ _ _=>by rw[J5];kernel_rfl
theorem B2G{w w':World}(h:w'=w):A4 w w':=h ▸ A4.refl _
theorem bits_Len64(x:Int)(w:World)(h0:0≤x)(h1:x<18446744073709551616):Calls Tryz.prog 164 #[.int .u64 x] w fun e w'=>e = .returned (.int .i64 (bl x.toNat))∧A4 w w' :=
 (Tryz.bits_Len64 x w h0 (by omega)).mono fun e w' ⟨he,hw⟩=>⟨by rw[he,A7x _ (by omega)],B2G hw⟩
theorem B4l:∀(l:List UInt8) (h:8≤l.length),l.take 8=[l[0],l[1],l[2],l[3],l[4],l[5],l[6],l[7]]
 | _::_::_::_::_::_::_::_::_,_=>rfl
theorem B7A(a b c d e f g h:Nat):((a+256*(b+256*(c+256*(d+256*(e+256*(f+256*(g+256*(h+256*0))))))):Nat):Int) =
  (a:Int)+(b:Int)*256+(c:Int)*65536+(d:Int)*16777216+(e:Int)*4294967296+(f:Int)*1099511627776+(g:Int)*281474976710656+(h:Int)*72057594037927936:=by omega
theorem B34(s:ByteArray)(hs:8≤s.size):((Lib.leNat (s.data.toList.take 8):Nat):Int)=(s[0].toNat:Int)+(s[1].toNat:Int)*256+(s[2].toNat:Int)*65536+(s[3].toNat:Int)*16777216+(s[4].toNat:Int)*4294967296+(s[5].toNat:Int)*1099511627776+(s[6].toNat:Int)*281474976710656+(s[7].toNat:Int)*72057594037927936:=by
 rw[B4l s.data.toList (by simpa using hs)];exact B7A s[0].toNat s[1].toNat s[2].toNat s[3].toNat s[4].toNat s[5].toNat s[6].toNat s[7].toNat
theorem B2M(s:ByteArray)(hs:8≤s.size)(w:World) :
  Calls Tryz.prog 165 #[.string s] w fun e w'=>e = .returned (.int .u64 (Lib.leNat (s.data.toList.take 8)))∧∃n,w'=w.drewN n:=by
 have q0:0<s.size:=by omega
 have q1:(1:Int)<(s.size:Int):=by omega
 have q2:(2:Int)<(s.size:Int):=by omega
 have q3:(3:Int)<(s.size:Int):=by omega
 have q4:(4:Int)<(s.size:Int):=by omega
 have q5:(5:Int)<(s.size:Int):=by omega
 have q6:(6:Int)<(s.size:Int):=by omega
 have q7:(7:Int)<(s.size:Int):=by omega
 go_enter Tryz.func165,Tryz.ntmps165;go_wp2;go_quiet (fail);go_wp2;go_ret;refine⟨C0r (fun n=>Ending.returned (.int .u64 n)) ?_,_,rfl⟩;rw[B34 s hs];have h0:=s[0].toNat_lt;have h1:=s[1].toNat_lt;have h2:=s[2].toNat_lt;have h3:=s[3].toNat_lt;have h4:=s[4].toNat_lt;have h5:=s[5].toNat_lt;have h6:=s[6].toNat_lt;have h7:=s[7].toNat_lt;simp (disch:=omega) only[u64_wrap_id,u64_or8,u64_or16,u64_or24,u64_or32,u64_or40,u64_or48,u64_or56];rfl
theorem T0(w:World)(n:Nat):A4 w (w.drewN n):=⟨rfl,rfl,rfl,B9G _,fun _ _=>rfl⟩
theorem A4l(a i:Nat)(hi:i<(D0 a).length)(s:ByteArray)(hs:s.data.toList=(B6 a).data.toList.drop (8*i))(w:World) :
  Calls Tryz.prog 165 #[.string s] w fun e w'=>e = .returned (.int .u64 ((D0 a)[i]:Nat))∧A4 w w':=by
 have hsz:8≤s.size:=by
  have h1:s.size=s.data.toList.length:=by show s.data.size=_;simp
  have h2:(B6 a).data.toList.length=(B6 a).size:=by show _=(B6 a).data.size;simp
  rw[h1,hs,C0R,h2,A0w];omega
 refine(B2M s hsz w).mono fun e w' ⟨he,n,hw⟩=>⟨?_,hw ▸ T0 w n⟩
 rw[he,hs,B42 a i hi]
theorem A7D(x y:Nat)(w:World):Calls Tryz.prog 169 #[.int .u64 x,.int .u64 y] w fun e w'=>e = .returned (.int .i64 (G5 x y))∧A4 w w':=by
 by_cases h:x<y
 ·rw[U4 h];go_enter Tryz.func169,Tryz.ntmps169;go_wp2;go_ret;exact⟨rfl,A4.refl _⟩
 ·by_cases h':y<x
  ·rw[A0h h'];go_enter Tryz.func169,Tryz.ntmps169;go_wp2;go_ret;exact⟨rfl,A4.refl _⟩
  ·rw[A1y (show x=y by omega)];go_enter Tryz.func169,Tryz.ntmps169;go_wp2;go_ret;exact⟨rfl,A4.refl _⟩
theorem A26(a:Nat)(ha:a<W64)(w:World):Calls Tryz.prog 143 #[.int .u64 a] w fun e w'=>e = .returned (B4 a)∧A4 w w':=by
  go_enter Tryz.func143,Tryz.ntmps143;refine B9b (B9O NoP.up (B9Q ?_));go_wp2_with fail;generalize hu:World.alloc w _=u;obtain⟨hB,hG⟩:=X7 [(_,_)] w u hu;have hF:=A0f w [(44,#[])];simp only[O8,List.map_cons,List.map_nil]at hB hF;clear hu;generalize w.heap.size=b2 at hB hF⊢;refine NoP.norm ?_;refine A6 ?_;refine B9b ?_;refine A2E (w:=w) A8 2 [0,0] (by kernel_rfl) hB hG ?_;simp only[List.zip_cons_cons,List.zip_nil_left]
  (apply gy
   · exact rfl
   · (rintro v-N hN;go_simp;exact hN))
  (apply gy
   · exact rfl
   · (rintro v-N hN;go_simp;exact hN))
  refine H6 ?_;rintro v ⟨-,hB1,hG1⟩;clear hB hG;have hB:=hB1;have hG:=hG1;clear hB1 hG1;simp only[List.drop_succ_cons,List.drop_zero];have r:=hB.r;simp only[BxR]at r;go_wp2_with fail;clear r;generalize hu0:World.setCell (World.setCell v _ _) _ _=u0;have hBG:=hB.over hF hG 0 rfl 0 [_,_] hu0;clear hB hG hu0;simp only[List.modify_zero_cons,I2,List.setIfInBounds_toArray,List.set_cons_zero,List.set_cons_succ,Nat.zero_add]at hBG;obtain⟨hB,hG⟩:=hBG;clear v;obtain⟨u,rfl⟩:=exQ u0;refine NoP.norm ?_;refine A6 ?_;refine A75 rfl ?_;intro N hN;have r:=hB.r;simp only[BxR]at r;simp only[results,Tryz.results143];go_simp;refine hN _ ?_;clear hN N r;refine And.intro ?_ hG;rw[B4,O3 ha,A24 ha]
theorem B2c(a:Nat)(hs:a<W64)(w:World):Calls Tryz.prog 131 #[B4 a] w fun e w'=>e = .returned (.int .i64 (bl a))∧A4 w w':=by
 have hE:(B6 a).toList.isEmpty=true:=by rw[P9];simpa using hs
 have hlo:=A2p a;have hhi:=B3D a;go_enter Tryz.func131,Tryz.ntmps131;go_wp2_with (go_at_call 164;refine(bits_Len64 _ _ hlo hhi).mono ?_;rintro e w1 ⟨rfl,hb⟩);go_ret;refine⟨?_,(A4.alloc w _).trans hb⟩;simp only[B56,Nat.mod_eq_of_lt hs];rfl
def A1d(a:Nat):Nat:=(D0 a).getLastD 0
theorem B4E(a:Nat)(hs:¬a<W64)(s:ByteArray)(hsl:s.data.toList=(B6 a).data.toList.drop ((B6 a).size-8))(w:World) :
  Calls Tryz.prog 165 #[.string s] w fun e w'=>e = .returned (.int .u64 (A1d a:Nat))∧A4 w w':=by
 have hne:D0 a≠[]:=by rw[Ne,A5D];exact hs
 have hl:0<(D0 a).length:=List.length_pos_iff.2 hne;have h8:(B6 a).size-8=8*((D0 a).length-1):=by rw[A0w];omega
 refine(A4l a ((D0 a).length-1) (by omega) s (by rw[hsl,h8]) w).mono fun e w' ⟨he,hg⟩=>⟨?_,hg⟩
 rw[he,A1d,C1d,C0G,B9w (by omega)];rfl
theorem B12(a:Nat)(hs:¬a<W64)(ha:bl a≤1099511627776)(w:World):Calls Tryz.prog 131 #[B4 a] w fun e w'=>e = .returned (.int .i64 (bl a))∧A4 w w':=by
  have hE:(B6 a).toList.isEmpty=false:=by rw[P9];simpa using hs
  have hub:=A6Z a;have hne:D0 a≠[]:=by rw[Ne,A5D];exact hs
  have hl:0<(D0 a).length:=List.length_pos_iff.2 hne;have h8:8≤(B6 a).size:=by rw[A0w];omega
  have hm:(B6 a).size≤1099511627776:=by rw[A0w];omega
  have hw1:IntKind.i64.wrap (8*((B6 a).size:Int))=8*((B6 a).size:Int):=B9x _ (by omega);have hw2:IntKind.i64.wrap (((B6 a).size:Int)-8)=((B6 a).size:Int)-8:=B9x _ (by omega);have hw3:(((B6 a).size:Int)-8).toNat=(B6 a).size-8:=by omega
  have hw4:(8:Int)≤((B6 a).size:Int):=by omega
  have hw5:((B6 a).size:Int)-8≤((B6 a).size:Int):=by omega
  have hgl:A1d a<18446744073709551616:=by
    rw[A1d,C1d,C0G,B9w (by omega)];exact A2l a _ (B9U _)
  have hw6:IntKind.i64.wrap (8*((B6 a).size:Int)+(bl (A1d a):Int))=8*((B6 a).size:Int)+(bl (A1d a):Int):=B9x _ (by have:=A0j hgl;omega);have hfin:(8*((B6 a).size:Int)+(bl (A1d a):Int))=(bl a:Int):=by
    obtain⟨x,hx,_,hbl⟩:=B87 (Nat.le_of_not_lt hs);rw[A0w,A1d,C1d,hx,hbl];simp only[Option.getD_some];omega
  have Hfin:=B9g hfin;clear hub hl hfin;go_enter Tryz.func131,Tryz.ntmps131;refine B9b (B9O NoP.up (B9Q ?_));go_wp2_with fail;generalize hu:World.alloc w _=u;obtain⟨hB,hG⟩:=X7 [(_,_)] w u hu;have hF:=A0f w [(44,#[])];simp only[O8,List.map_cons,List.map_nil]at hB hF;clear hu;generalize w.heap.size=b1 at hB hF⊢;refine NoP.norm ?_;refine A6 ?_;refine B9b ?_;refine B9b ?_;refine A2E (w:=w) A8 3 [0,0,0] (by kernel_rfl) hB hG ?_;simp only[List.zip_cons_cons,List.zip_nil_left]
  (apply gy
   · exact rfl
   · (rintro v-N hN;go_simp;exact hN))
  (apply gy
   · exact rfl
   · (rintro v ⟨-,hB,hG⟩ N hN;have r:=hB.r;simp only[BxR]at r;go_simp;exact hN))
  (apply gy
   · exact rfl
   · (rintro v-N hN;go_simp;exact hN))
  refine H6 ?_;rintro v ⟨-,hB1,hG1⟩;clear hB hG;have hB:=hB1;have hG:=hG1;clear hB1 hG1;simp only[List.drop_succ_cons,List.drop_nil];refine wpList_nil ?_;refine NoP.norm ?_;refine A6 ?_;refine C0M rfl ?_ ?_
  · intro ht
    cases ht
  · intro ht
    refine B9i ?_;refine A6 ?_;refine B9b ?_;refine A3I (w:=w) A8 14 [(0,0),(0,1),(0,2),(0,3),(0,4),(0,5),(0,6),(0,7),(0,8),(0,9),(0,10),(1,11),(1,12),(0,13)] (by kernel_rfl) (by kernel_rfl) hB hG ?_;simp only[G6,List.getElem?_toArray,List.getElem?_cons_zero,List.getElem?_cons_succ]
    (apply gy
     · exact rfl
     · (rintro v-N hN;go_simp;exact hN))
    (apply gy
     · exact rfl
     · (rintro v ⟨-,hB,hG⟩ N hN;have r:=hB.r;simp only[BxR]at r;go_simp;exact hN))
    (apply gy
     · exact rfl
     · (rintro v-N hN;go_simp;exact hN))
    (apply gy
     · exact rfl
     · (rintro v-N hN;go_simp;exact hN))
    (apply gy
     · exact rfl
     · (rintro v-N hN;go_simp;exact hN))
    (apply gy
     · exact rfl
     · (rintro v ⟨-,hB,hG⟩ N hN;have r:=hB.r;simp only[BxR]at r;go_simp;exact hN))
    (apply gy
     · exact rfl
     · (rintro v-N hN;go_simp;exact hN))
    (apply gy
     · exact rfl
     · (rintro v ⟨-,hB,hG⟩ N hN;have r:=hB.r;simp only[BxR]at r;go_simp;exact hN))
    (apply gy
     · exact rfl
     · (rintro v-N hN;go_simp;exact hN))
    (apply gy
     · exact rfl
     · (rintro v-N hN;go_simp;exact hN))
    (apply gy
     · exact rfl
     · (rintro v-N hN;go_simp;exact hN))
    (apply gm
     · exact rfl
     · (rintro v-N hN;go_simp;((with_reducible refine(B4E a hs _ (Lib.extract_to_end _ _) _).mono ?_);rintro e w1 ⟨rfl,hb⟩;exact⟨_,rfl,hN _ hb⟩)))
    (apply gm
     · exact rfl
     · (rintro v-N hN;go_simp;((with_reducible refine(bits_Len64 _ _ (by omega) (by omega)).mono ?_);rintro e w1 ⟨rfl,hb⟩;exact⟨_,rfl,hN _ hb⟩)))
    (apply gy
     · exact rfl
     · (rintro v-N hN;go_simp;exact hN))
    refine H6 ?_;rintro v ⟨-,hB1,hG1⟩;clear hB hG;have hB:=hB1;have hG:=hG1;clear hB1 hG1;simp only[List.drop_succ_cons,List.drop_zero];go_wp2_with fail;refine NoP.norm ?_;refine A6 ?_;refine A75 rfl ?_;intro N hN;have r:=hB.r;simp only[BxR]at r;simp only[results,Tryz.results131];go_simp;refine hN _ ?_;clear hN N r;refine And.intro ?_ hG;rw[Hfin.out]
theorem P5(a:Nat)(ha:bl a≤1099511627776)(w:World):Calls Tryz.prog 131 #[B4 a] w fun e w'=>e = .returned (.int .i64 (bl a))∧A4 w w':=by
 by_cases hs:a<W64
 ·exact B2c a hs w
 ·exact B12 a hs ha w
theorem A8x(a:Nat)(w:World):Calls Tryz.prog 142 #[B4 a] w fun e w'=>e = .returned (if a<W64 then .tuple #[.int .u64 (a:Nat),.bool true]else .tuple #[.int .u64 0,.bool false])∧A4 w w':=by
 by_cases hs:a<W64
 ·have hE:(B6 a).toList.isEmpty=true:=by rw[P9];simpa using hs
  rw[if_pos hs];go_enter Tryz.func142,Tryz.ntmps142;go_wp2;go_ret2;refine⟨?_,A4.alloc w _⟩;rw[←O3 hs];rfl
 ·have hE:(B6 a).toList.isEmpty=false:=by rw[P9];simpa using hs
  rw[if_neg hs];go_enter Tryz.func142,Tryz.ntmps142;go_wp2;go_ret2;exact⟨rfl,A4.alloc w _⟩
end Go.Proofs.YtgpglgbcobeogaaGreatDoor
namespace Go.Proofs.YtgpglgbcobeogaaGreatDoor
theorem B5H:W64=2^64:=rfl
theorem B46{ly vs:List Nat}{n1 s top:Nat}(hd:Dig W64 ly)(hl:ly.length=n1+1)(htop:top=dg ly n1)(h0:top≠0)(hs:s=64-bl top)(htW:top<W64)(hv:Dig W64 vs)(hvv:val W64 vs=val W64 ly*2^s) :
  val W64 vs<W64^(n1+1)∧W64^n1*2^s≤val W64 vs∧0<dg vs n1∧0<val W64 ly:=by
 have h1:=N4 W64 ly n1;rw[show ly.take (n1+1)=ly by rw[←hl,C05],←htop]at h1;have h2:=J7 (B:=W64) (l:=ly.take n1) fun x hx=>hd x (B93 hx);rw[show(ly.take n1).length=n1 by simp;omega]at h2;have hb:bl top≤64:=A0j htW;have hlt:=A0c top;have hp:0<W64^n1:=C07 C3;have hbl:1≤bl top:=U6.2 h0;have h3:val W64 ly<W64^n1*2^bl top:=by
  have:W64^n1*(top+1)≤W64^n1*2^bl top:=C0Z _ hlt;rw[C02,C0d]at this;omega
 have h4:W64^n1*1≤W64^n1*top:=C0Z _ (by omega);have h5:val W64 vs<W64^(n1+1):=by
  rw[hvv,Nat.pow_succ]
  calc val W64 ly*2^s<W64^n1*2^bl top*2^s:=C06 h3 (Nat.two_pow_pos _)
   _=W64^n1*W64:=by rw[C0e,←B9o,show bl top+s=64 by omega,B5H]
 have h6:W64^n1*2^s≤val W64 vs:=by rw[hvv];exact B94 _ (by omega)
 refine⟨h5,h6,?_,by omega⟩;rcases B9a (dg vs n1)with hz|hz
 ·exfalso;have h7:=A2c C3 hv (k:=n1) fun t ht=>by
   rcases B9H n1 t with h|h
   ·exact A3Q C3 hv h5 t h
   ·obtain rfl:t=n1:=by omega
    exact hz
  have:W64^n1*1≤W64^n1*2^s:=C0Z _ (Nat.two_pow_pos _);omega
 ·exact hz
theorem B5f{lx us vs:List Nat}{m n1 s k0:Nat}(hd:Dig W64 lx)(hl:lx.length=m)(hu:Dig W64 us)(huv:val W64 us=val W64 lx*2^s)(hvn:W64^n1*2^s≤val W64 vs)(hk:n1+k0=m) :
  DvI W64 (val W64 vs) (val W64 us) k0 us (List.replicate k0 0):=by
 refine⟨hu,fun x hx=>by rw[(List.mem_replicate.1 hx).2];exact C3,by rw[A1i];simp,?_,fun t _=>by unfold dg;rw[C0t];split<;>rfl⟩;have h1:=J7 hd;rw[hl]at h1;rw[huv]
 calc val W64 lx*2^s<W64^m*2^s:=C06 h1 (Nat.two_pow_pos _)
  _=W64^n1*2^s*W64^k0:=by rw[←hk,B9o];grind
  _≤val W64 vs*W64^k0:=B94 _ hvn
theorem DvI.top{X j n2:Nat}{us qs vs:List Nat}(h:DvI W64 (val W64 vs) X (j+1) us qs)(hv:Dig W64 vs)(hvW:val W64 vs<W64^(n2+2)) :
  Dig W64 (us.drop j)∧(∀t,n2+3≤t→dg (us.drop j) t=0)∧(∀t,n2+2≤t→dg vs t=0)∧val W64 (us.drop j)<val W64 vs*W64∧(∀t,j+n2+3≤t→dg us t=0):=by
 have hW:=C3;have hp:0<W64^j:=C07 hW;have h1:val W64 us<W64^(j+n2+3):=by
  refine B9l h.2.2.2.1 ?_
  calc val W64 vs*W64^(j+1)≤W64^(n2+2)*W64^(j+1):=B94 _ (B9P hvW)
   _=W64^(j+n2+3):=by rw[←B9o];congr 1;omega
 have h2:=A3Q hW h.1 h1;refine⟨fun x hx=>h.1 x (C0S hx),fun t ht=>by rw[A09];exact h2 _ (by omega),A3Q hW hv hvW,?_,h2⟩;rw[←A3m hW h.1,C04 hp,C0e,B97 W64,←Nat.pow_succ];exact h.2.2.2.1
theorem A6O{vs:List Nat}{n:Nat}(hv:Dig W64 vs)(h:val W64 vs<W64^n):val W64 (vs.take n)=val W64 vs:=by
 have h1:=A0F W64 (vs.take n) (vs.drop n);rw[B9R]at h1;have h2:=A3m C3 hv n;rw[C0E h]at h2;rw[←h2,C0b,Nat.add_zero]at h1;exact h1.symm
theorem A8o{M g V p a b:Nat}(hy:a<M)(hv:a+g*V*p=b+1*M):0<g:=by
 rcases B9a g with h|h
 ·rw[h,B96,B96]at hv;omega
 ·exact h
theorem DvA.last{W j n:Nat}{vs us:List Nat}{c:Nat}{zs:List Nat}(h:DvA W j vs us n c zs)(hW:0<W)(hi:j+n<us.length)(hvn:val W (vs.take n)=val W vs) :
  (zs.set (j+n) ((dg us (j+n)+c)%W)).length=us.length∧Dig W (zs.set (j+n) ((dg us (j+n)+c)%W))∧(∀t,j+n+1≤t→dg (zs.set (j+n) ((dg us (j+n)+c)%W)) t=dg us t) ∧
  val W (zs.set (j+n) ((dg us (j+n)+c)%W))+(dg us (j+n)+c)/W*W^(j+n+1)=val W us+val W vs*W^j:=by
 obtain⟨h1,h2,h3,h4,h5⟩:=h;rw[hvn]at h4;have b1:=C0q (dg us (j+n)+c) W;have b2:=B9p (dg us (j+n)+c) hW;obtain⟨z,hz⟩:∃z,z=(dg us (j+n)+c)%W:=⟨_,rfl⟩
 obtain⟨e,he⟩:∃e,e=(dg us (j+n)+c)/W:=⟨_,rfl⟩
 rw[←hz,←he]at b1;rw[←hz]at b2;rw[←hz,←he];have e1:=Y0 W zs (j+n) z (by omega);rw[h3 (j+n) (B9G _)]at e1;refine⟨by simp[h1],Q4 h2 _ b2,fun t ht=>by rw[Q0 _ _ (by omega)];exact h3 t (by omega),?_⟩;have e2:val W (zs.set (j+n) z)+e*W^(j+n+1)+W^(j+n)*dg us (j+n)=val W us+val W vs*W^j+W^(j+n)*dg us (j+n):=by
  calc val W (zs.set (j+n) z)+e*W^(j+n+1)+W^(j+n)*dg us (j+n)
    = val W zs+W^(j+n)*(W*e+z):=by rw[Nat.pow_succ];grind
   _=val W zs+c*W^(j+n)+W^(j+n)*dg us (j+n):=by rw[b1];grind
   _=val W us+val W vs*W^j+W^(j+n)*dg us (j+n):=by rw[h4]
 omega
theorem B3K(W:Nat)(l:List Nat)(k:Nat):W^k*dg l k≤val W l:=by
 have h1:=N4 W l k;have h2:=A0F W (l.take (k+1)) (l.drop (k+1));rw[B9R]at h2;omega
theorem A5O(i:Nat):(256:Nat)^i=W64^(i/8)*2^(8*(i%8)):=by
 rw[Z4,show(256:Nat)=2^8 from rfl,←B9m,←B9m,←B9o];congr 1;omega
theorem B6b{zs:List Nat}{i y:Nat}(hi:i/8<zs.length)(hv:val W64 zs<256^i)(hy:y<256) :
  dg zs (i/8) ||| y*2^(8*(i%8))=dg zs (i/8)+y*2^(8*(i%8))∧dg zs (i/8)+y*2^(8*(i%8))<W64 ∧
  val W64 (zs.set (i/8) (dg zs (i/8)+y*2^(8*(i%8))))=val W64 zs+y*256^i:=by
 have h1:=B3K W64 zs (i/8);have h2:dg zs (i/8)<2^(8*(i%8)):=by
  rw[A5O i]at hv;exact Nat.lt_of_mul_lt_mul_left (B9c h1 hv)
 have h3:=Y0 W64 zs (i/8) (dg zs (i/8)+y*2^(8*(i%8))) hi;have h4:y*256^i=W64^(i/8)*(y*2^(8*(i%8))):=by rw[A5O];grind
 have h5:(y+1)*2^(8*(i%8))≤256*2^(8*(i%8)):=B94 _ hy;have h6:256*2^(8*(i%8))≤W64:=by
  rw[show(256:Nat)=2^8 from rfl,←B9o,Z4];exact B9n (by omega) (by omega)
 rw[C0v,C0m]at h5;refine⟨?_,by omega,?_⟩
 ·rw[A2m h2 (C0T _ _),C0U]
 ·rw[C02]at h3;omega
theorem A6f{W:Nat}(hW:0<W){l:List Nat}(h:Dig W l)(k:Nat):val W (l.take k)<W^k:=by
 rcases B9H k l.length with hk|hk
 ·have:=J7 (B:=W) (l:=l.take k) (fun x hx=>h x (B93 hx))
  rwa [List.length_take,C0H (by omega)]at this
 ·rw[A0Q W l k hk];exact B9l (J7 h) (B9n hW hk)
def Tz(V z:Nat):Prop:=∃m,V=2^z*(2*m+1)
theorem A7a{W:Nat}{l:List Nat}{k:Nat}(h:∀i,i<k→dg l i=0):val W (l.take k)=0:=by
 induction k with
 | zero=>rfl
 | succ k ih=>rw[N4,ih (fun i hi=>h i (by omega)),h k (by omega)];simp
theorem B6L{l:List Nat}{k t m:Nat}(h0:∀i,i<k→dg l i=0)(hk:k<l.length)(hx:dg l k=2^t*(2*m+1))(ht:t<64):Tz (val W64 l) (64*k+t):=by
 have h1:=A0F W64 (l.take k) (l.drop k);rw[B9R,A7a h0,List.length_take,C0H (by omega),C0V hk,←D9 hk,O9,hx,Nat.zero_add]at h1;refine⟨m+2^(63-t)*val W64 (l.drop (k+1)),?_⟩;rw[h1,B9o,B9m];have e:W64=2^t*(2*2^(63-t)):=by
  rw[←Nat.pow_succ',←B9o,Z4];congr 1;omega
 rw[show(2:Nat)^64=W64 from rfl,C0e];congr 1;rw[e];grind
theorem Tz.inj{V z z':Nat}(h:Tz V z)(h':Tz V z'):z=z':=by
 obtain⟨m,hm⟩:=h;obtain⟨m',hm'⟩:=h';have key:∀a b x y:Nat,a<b→2^a*(2*x+1)=2^b*(2*y+1)→False:=by
  intro a b x y hab he;obtain⟨d,rfl⟩:∃d,b=a+(d+1):=⟨b-a-1,by omega⟩
  rw[B9o,C0e]at he;have:=Nat.eq_of_mul_eq_mul_left (Nat.two_pow_pos a) he;rw[Nat.pow_succ,B97 (2^d) 2,C0e]at this;omega
 rcases C0J z z' with h|h|h
 ·exact(key _ _ _ _ h (hm.symm.trans hm')).elim
 ·exact h
 ·exact(key _ _ _ _ h (hm'.symm.trans hm)).elim
def DnI(P R:Nat)(l:List Nat)(i:Nat)(zs:List Nat):Prop :=
 zs.length=l.length∧(∀t,t<i→dg zs t=dg l t/P+dg l (t+1)%P*R)∧∀t,i≤t→dg zs t=dg l t
theorem DnI.start(P R:Nat)(l:List Nat):DnI P R l 0 l:=⟨rfl,fun t ht=>by omega,fun _ _=>rfl⟩
theorem DnI.next{P R:Nat}{l zs:List Nat}{i:Nat}(h:DnI P R l i zs)(hi:i<l.length):DnI P R l (i+1) (zs.set i (dg l i/P+dg l (i+1)%P*R)):=by
 refine⟨by rw[B95];exact h.1,fun t ht=>?_,fun t ht=>by rw[Q0 _ _ (by omega)];exact h.2.2 t (by omega)⟩;rcases B9H t i with hlt|hge
 ·rw[Q0 _ _ (by omega)];exact h.2.1 t hlt
 ·obtain rfl:t=i:=by omega
  rw[A5e (by rw[h.1];exact hi)]
theorem DnI.done{W P R:Nat}{l zs:List Nat}(hW:W=P*R)(hP:0<P)(hW0:0<W)(hd:Dig W l)(h:DnI P R l l.length zs):val W zs=val W l/P∧Dig W zs :=
 ⟨A5I hW hP hW0 l zs hd h.1 h.2.1,fun x hx=>by
  obtain⟨t,ht,rfl⟩:=C1A hx;rw[←D9 ht,h.2.1 t (by rw[←h.1];exact ht)]
  exact(A2h hW hP (C4 hW0 hd _)).1⟩
def SbI(W:Nat)(lx ly:List Nat)(k br:Nat)(zs:List Nat):Prop :=
 zs.length=lx.length∧Dig W zs∧br≤1∧(∀t,k≤t→dg zs t=dg lx t)∧val W (zs.take k)+val W (ly.take k)=val W (lx.take k)+br*W^k
theorem SbI.start(W:Nat){lx:List Nat}(ly:List Nat)(h:Dig W lx):SbI W lx ly 0 0 lx:=⟨rfl,h,by omega,fun _ _=>rfl,by simp[val]⟩
theorem A5W{zs:List Nat}{k z:Nat}(h:k<zs.length):(zs.set k z).take (k+1)=zs.take k++[z]:=by
 rw[B9v (by rw[B95];exact h),List.take_set_of_le (B9G k),List.getElem_set_self]
theorem SbI.next{W:Nat}{lx ly zs:List Nat}{k br:Nat}(h:SbI W lx ly k br zs)(hW:0<W)(hx:Dig W lx)(hy:Dig W ly)(hk:k<lx.length) :
  SbI W lx ly (k+1) (if dg lx k<dg ly k+br then 1 else 0) (zs.set k ((dg lx k+W-dg ly k-br)%W)):=by
 obtain⟨h1,h2,h3,h4,h5⟩:=h;refine⟨by rw[B95];exact h1,Q4 h2 _ (B9p _ hW),by split<;>omega,fun t ht=>by rw[Q0 _ _ (by omega)];exact h4 t (by omega),?_⟩;rw[A5W (by omega)];exact A5Y h3 (C4 hW hx k) (C4 hW hy k) (by rw[List.length_take];omega) h5
theorem SbI.done{W:Nat}{lx ly zs:List Nat}{k br:Nat}(h:SbI W lx ly k br zs)(hk:k=lx.length)(hl:ly.length≤lx.length)(hle:val W ly≤val W lx):val W zs=val W lx-val W ly:=by
 obtain⟨h1,h2,h3,h4,h5⟩:=h;subst hk;have h6:=J7 h2;rw[B98 (by omega),B98 hl,C05]at h5;rw[h1]at h6;rcases B9a br with rfl|hp
 ·omega
 ·obtain rfl:br=1:=by omega
  omega
theorem B4Q{v w z m g:Nat}(hw:w%2=1)(hlt:w<v)(hz:v-w=2^z*m)(h:Nat.gcd v w=g):Nat.gcd m w=g:=by
 rw[←h,←Nat.gcd_sub_self_left (B9P hlt),hz];refine(C1e m ?_).symm
 exact Nat.Coprime.pow_left z (by
  rw[Nat.coprime_iff_gcd_eq_one];show Nat.gcd 2 w=1
  rw[Nat.gcd_rec,hw];rfl)
theorem A7Y{w:Nat}(hw:w%2=1)(z:Nat):Nat.Coprime (2^z) w:=Nat.Coprime.pow_left z (by
  show Nat.gcd 2 w=1
  rw[Nat.gcd_rec,hw];rfl)
theorem B3y{x y a b v w:Nat}(hx:x=2^a*v)(hy:y=2^b*w)(hv:v%2=1)(hw:w%2=1):Nat.gcd x y=2^min a b*Nat.gcd v w:=by
 subst hx;subst hy;rcases Nat.le_total a b with h|h
 ·obtain⟨d,rfl⟩:∃d,b=a+d:=⟨b-a,by omega⟩
  rw[C0H h,B9o,C0e,Nat.gcd_mul_left];congr 1;rw[C0Y,C1e w (A7Y hv d),C0Y]
 ·obtain⟨d,rfl⟩:∃d,a=b+d:=⟨a-b,by omega⟩
  rw[Nat.min_eq_right h,B9o,C0e,Nat.gcd_mul_left];congr 1;exact C1e v (A7Y hw d)
theorem B51(x:Nat)(h0:x≠0)(h:x<W64):∃m,x=2^Lib.ctz 64 x*(2*m+1)∧Lib.ctz 64 x<64:=by
 have:=Lib.ctzFrom_spec 64 x (by omega) h;unfold Lib.ctz;rw[if_neg h0];exact this
end Go.Proofs.YtgpglgbcobeogaaGreatDoor
