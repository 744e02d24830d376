/- Contracts and laws. -/
import Derived.Test.YtlkniebmjdoopaaGreatDoorK4
import Derived.Shelf.Strings.Builder1
import Derived.Shelf.Strings.Builder2
import Derived.Shelf.Small.Bits
import Derived.Shelf.Strings.BuilderF
import Derived.Shelf.Strings.BuilderK
import Derived.Shelf.Strings.Builder2Cap
import Derived.Shelf.Strconv.Itoa0
import Derived.Shelf.Bits.Mul64
import Derived.Shelf.Strings.BuilderCap
import Derived.Test.YtlkniebmjdoopaaGreatDoorProg
import Derived.WalkKit
import Derived.WalkSpells
import Derived.WalkLawsBesides
import Derived.Deep.QuietTactic
import Derived.BigQuiet
import Derived.Lib.EndianBits
import Derived.Lib.Hide
import Derived.Lib.IndexBytes
set_option linter.unusedSimpArgs false
set_option linter.unusedVariables false
set_option maxHeartbeats 2000000
set_option maxRecDepth 100000
namespace Go.Proofs
open Go.Shelf
def Tryz.lays169_ren : Go.Shelf.Ren:=⟨fun | 169=>168 | n=>n,fun | 70=>201 | 9=>9 | 0=>0 | 72=>203 | 37=>182 | 127=>228 | 3=>3 | 5=>5 | n=>n,fun | n=>n⟩
theorem Tryz.lays169 : Go.Proofs.Lays.n169 Tryz.prog Tryz.lays169_ren:={
 mixed:=by kernel_rfl
 f169:=Tryz.func168.trans (congrArg some (by kernel_rfl))
 t0:=Tryz.underlying0
 a0:=Tryz.isAgg0
 z0:=Tryz.sizeOf0
 v0:=Tryz.zeroValue0
 t3:=Tryz.underlying3
 a3:=Tryz.isAgg3
 z3:=Tryz.sizeOf3
 v3:=Tryz.zeroValue3
 t9:=Tryz.underlying9
 a9:=Tryz.isAgg9
 z9:=Tryz.sizeOf9
 v9:=Tryz.zeroValue9
 t37:=Tryz.underlying182
 a37:=Tryz.isAgg182
 z37:=Tryz.sizeOf182
 v37:=Tryz.zeroValue182
 t70:=Tryz.underlying201
 a70:=Tryz.isAgg201
 z70:=Tryz.sizeOf201
 v70:=Tryz.zeroValue201
 t72:=Tryz.underlying203
 a72:=Tryz.isAgg203
 z72:=Tryz.sizeOf203
 v72:=Tryz.zeroValue203
 t127:=Tryz.underlying228
 a127:=Tryz.isAgg228
 z127:=Tryz.sizeOf228
 v127:=Tryz.zeroValue228 }
theorem Tryz.Builder_Extra_169 : Builder.Extra Tryz.prog Tryz.lays169_ren:={
 sizeBuilder:=by kernel_rfl
 liesBuilder:=by kernel_rfl
 t5:=Tryz.underlying5
 a5:=Tryz.isAgg5
 z5:=Tryz.sizeOf5
 v5:=Tryz.zeroValue5
 infoByte:=by kernel_rfl
 cellsByte:=by kernel_rfl
 sizeByte:=by kernel_rfl
 neB5:=by decide }
open Go.RowKit in
theorem Tryz.Builder_String_any (B b : Nat) (l : List UInt8) (w : World) (h : Lib.IsBuilder 203 5 B b (Lib.byteCells l) w) (hBw : B ≤ w.heap.size) :
  Calls Tryz.prog 168 #[.pointer (some ⟨b,0,none⟩)] w fun e w'=>e = .returned (.string ⟨l.toArray⟩) ∧ Below B w w':=Any.Builder_String_any Tryz.lays169 Tryz.Builder_Extra_169 B b l w h hBw
def Tryz.lays165_ren : Go.Shelf.Ren:=⟨fun | 165=>166 | 240=>197 | 241=>198 | 276=>205 | 277=>206 | n=>n,fun | 70=>201 | 3=>3 | 0=>0 | 4=>4 | 9=>9 | 20=>20 | 72=>203 | 37=>182 | 164=>237 | 5=>5 | n=>n,fun | n=>n⟩
theorem Tryz.lays165 : Go.Proofs.Lays.n165 Tryz.prog Tryz.lays165_ren:={
 mixed:=by kernel_rfl
 f165:=Tryz.func166.trans (congrArg some (by kernel_rfl))
 f240:=Tryz.func197.trans (congrArg some (by kernel_rfl))
 f241:=Tryz.func198.trans (congrArg some (by kernel_rfl))
 f276:=Tryz.func205.trans (congrArg some (by kernel_rfl))
 f277:=Tryz.func206.trans (congrArg some (by kernel_rfl))
 t0:=Tryz.underlying0
 a0:=Tryz.isAgg0
 z0:=Tryz.sizeOf0
 v0:=Tryz.zeroValue0
 t3:=Tryz.underlying3
 a3:=Tryz.isAgg3
 z3:=Tryz.sizeOf3
 v3:=Tryz.zeroValue3
 t4:=Tryz.underlying4
 a4:=Tryz.isAgg4
 z4:=Tryz.sizeOf4
 v4:=Tryz.zeroValue4
 t9:=Tryz.underlying9
 a9:=Tryz.isAgg9
 z9:=Tryz.sizeOf9
 v9:=Tryz.zeroValue9
 t20:=Tryz.underlying20
 a20:=Tryz.isAgg20
 z20:=Tryz.sizeOf20
 v20:=Tryz.zeroValue20
 t37:=Tryz.underlying182
 a37:=Tryz.isAgg182
 z37:=Tryz.sizeOf182
 v37:=Tryz.zeroValue182
 t70:=Tryz.underlying201
 a70:=Tryz.isAgg201
 z70:=Tryz.sizeOf201
 v70:=Tryz.zeroValue201
 t72:=Tryz.underlying203
 a72:=Tryz.isAgg203
 z72:=Tryz.sizeOf203
 v72:=Tryz.zeroValue203
 t164:=Tryz.underlying237
 a164:=Tryz.isAgg237
 z164:=Tryz.sizeOf237
 v164:=Tryz.zeroValue237 }
theorem Tryz.Builder_Extra_165 : Builder.Extra Tryz.prog Tryz.lays165_ren:={
 sizeBuilder:=by kernel_rfl
 liesBuilder:=by kernel_rfl
 t5:=Tryz.underlying5
 a5:=Tryz.isAgg5
 z5:=Tryz.sizeOf5
 v5:=Tryz.zeroValue5
 infoByte:=by kernel_rfl
 cellsByte:=by kernel_rfl
 sizeByte:=by kernel_rfl
 neB5:=by decide }
def Tryz.lays134_ren : Go.Shelf.Ren:=⟨fun | 134=>191 | 129=>153 | n=>n,fun | 53=>33 | 3=>3 | 4=>4 | 46=>180 | 5=>5 | 9=>9 | n=>n,fun | n=>n⟩
theorem Tryz.lays134 : Go.Proofs.Lays.n134 Tryz.prog Tryz.lays134_ren:={
 mixed:=by kernel_rfl
 f129:=Tryz.func153.trans (congrArg some (by kernel_rfl))
 f134:=Tryz.func191.trans (congrArg some (by kernel_rfl))
 t3:=Tryz.underlying3
 a3:=Tryz.isAgg3
 z3:=Tryz.sizeOf3
 v3:=Tryz.zeroValue3
 t4:=Tryz.underlying4
 a4:=Tryz.isAgg4
 z4:=Tryz.sizeOf4
 v4:=Tryz.zeroValue4
 t5:=Tryz.underlying5
 a5:=Tryz.isAgg5
 z5:=Tryz.sizeOf5
 v5:=Tryz.zeroValue5
 t9:=Tryz.underlying9
 a9:=Tryz.isAgg9
 z9:=Tryz.sizeOf9
 v9:=Tryz.zeroValue9
 t46:=Tryz.underlying180
 a46:=Tryz.isAgg180
 z46:=Tryz.sizeOf180
 v46:=Tryz.zeroValue180
 t53:=Tryz.underlying33
 a53:=Tryz.isAgg33
 z53:=Tryz.sizeOf33
 v53:=Tryz.zeroValue33 }
theorem Tryz.bits_LeadingZeros64 (x : Int) (w : World) (h0 : 0 ≤ x) (h1 : x ≤ 18446744073709551615) :
  Calls Tryz.prog 191 #[.int .u64 x] w fun e w'=>e = .returned (.int .i64 (64 - (Lib.bitLen x.toNat : Int))) ∧ w' = w:=Any.bits_LeadingZeros64 Tryz.lays134 x w h0 h1
open Go.RowKit in
theorem Tryz.Builder_Grow_fresh_cap (B b n : Nat) (w : World) (hB : B ≤ b) (hbk : w.heap[b]? = some (.cells #[.pointer none,.slice none 0 0] 203 (0,0))) (hBw : B ≤ w.heap.size) (hn : n ≤ 281474976710656) :
  Calls Tryz.prog 166 #[.pointer (some ⟨b,0,none⟩),.int .i64 n] w fun e w'=>e = .returned (.tuple #[]) ∧ (Lib.BuilderAt 203 5 B b (.pointer (some ⟨b,0,none⟩)) [] w' ∧ Below B w w') ∧ ∃ p cap,w'.cell? ⟨b,1,none⟩ = some (.slice p 0 cap) ∧ n ≤ cap:=Any.Builder_Grow_fresh_cap Tryz.lays165 Tryz.Builder_Extra_165 B b n w hB hbk hBw hn
def Tryz.lays129_ren : Go.Shelf.Ren:=⟨fun | 129=>153 | n=>n,fun | 53=>33 | 3=>3 | 4=>4 | 46=>180 | 5=>5 | 9=>9 | n=>n,fun | n=>n⟩
theorem Tryz.lays129 : Go.Proofs.Lays.n129 Tryz.prog Tryz.lays129_ren:={
 mixed:=by kernel_rfl
 f129:=Tryz.func153.trans (congrArg some (by kernel_rfl))
 t3:=Tryz.underlying3
 a3:=Tryz.isAgg3
 z3:=Tryz.sizeOf3
 v3:=Tryz.zeroValue3
 t4:=Tryz.underlying4
 a4:=Tryz.isAgg4
 z4:=Tryz.sizeOf4
 v4:=Tryz.zeroValue4
 t5:=Tryz.underlying5
 a5:=Tryz.isAgg5
 z5:=Tryz.sizeOf5
 v5:=Tryz.zeroValue5
 t9:=Tryz.underlying9
 a9:=Tryz.isAgg9
 z9:=Tryz.sizeOf9
 v9:=Tryz.zeroValue9
 t46:=Tryz.underlying180
 a46:=Tryz.isAgg180
 z46:=Tryz.sizeOf180
 v46:=Tryz.zeroValue180
 t53:=Tryz.underlying33
 a53:=Tryz.isAgg33
 z53:=Tryz.sizeOf33
 v53:=Tryz.zeroValue33 }
theorem Tryz.bits_Len64 (x : Int) (w : World) (h0 : 0 ≤ x) (h1 : x ≤ 18446744073709551615) :
  Calls Tryz.prog 153 #[.int .u64 x] w fun e w'=>e = .returned (.int .i64 (Lib.bitLen x.toNat)) ∧ w' = w:=Any.bits_Len64 Tryz.lays129 x w h0 h1
def Tryz.lays264_ren : Go.Shelf.Ren:=⟨fun | 264=>123 | n=>n,fun | 53=>33 | 46=>180 | n=>n,fun | n=>n⟩
theorem Tryz.lays264 : Go.Proofs.Lays.n264 Tryz.prog Tryz.lays264_ren:={
 mixed:=by kernel_rfl
 f264:=Tryz.func123.trans (congrArg some (by kernel_rfl))
 t46:=Tryz.underlying180
 a46:=Tryz.isAgg180
 z46:=Tryz.sizeOf180
 v46:=Tryz.zeroValue180
 t53:=Tryz.underlying33
 a53:=Tryz.isAgg33
 z53:=Tryz.sizeOf33
 v53:=Tryz.zeroValue33 }
open Go.RowKit Go.Lib in
theorem Tryz.bits_Mul64 (x y : Nat) (hx : x < 18446744073709551616) (hy : y < 18446744073709551616) (w : World) :
  Calls Tryz.prog 123 #[.int .u64 x,.int .u64 y] w fun e w'=>e = .returned (.tuple #[.int .u64 ((x * y / 18446744073709551616 : Nat) : Int),.int .u64 ((x * y % 18446744073709551616 : Nat) : Int)]) ∧ w' = w:=Any.bits_Mul64 Tryz.lays264 x y hx hy w
end Go.Proofs
namespace Go.Proofs.YtlkniebmjdoopaaGreatDoor
open Go.RowKit
theorem I8 (d : Option Tmp) (ty : TypeId) (pos : String) (af : Array Edge) (gd : Option (Nat × Bool)) : N5 Tryz.prog ⟨d,.alloc 35,ty,pos,af,gd⟩ = .cells #[.int .u64 0,.string ⟨#[]⟩] 35:=by kernel_rfl
theorem A4o (d : Option Tmp) (ty : TypeId) (pos : String) (af : Array Edge) (gd : Option (Nat × Bool)) : N5 Tryz.prog ⟨d,.alloc 37,ty,pos,af,gd⟩ = .cells #[.bool false,.int .u64 0,.string ⟨#[]⟩] 37:=by kernel_rfl
theorem N0 (d : Option Tmp) (ty : TypeId) (pos : String) (af : Array Edge) (gd : Option (Nat × Bool)) : N5 Tryz.prog ⟨d,.alloc 39,ty,pos,af,gd⟩ = .cells #[.bool false,.int .u64 0,.string ⟨#[]⟩,.int .u64 0,.string ⟨#[]⟩] 39:=by kernel_rfl
theorem A5 : ∀ t ∈ [35,37,39],M8 Tryz.prog t:=by
 intro t ht
 simp only [List.mem_cons,List.not_mem_nil,or_false] at ht
 rcases ht with rfl | rfl | rfl
 ·exact fun _ _ _ _ _ _=>by rw [I8];kernel_rfl
 ·exact fun _ _ _ _ _ _=>by rw [A4o];kernel_rfl
 ·exact fun _ _ _ _ _ _=>by rw [N0];kernel_rfl
theorem B2K {w w' : World} (h : w' = w) : A3 w w':=h ▸ A3.refl _
theorem bits_Len64 (x : Int) (w : World) (h0 : 0 ≤ x) (h1 : x < 18446744073709551616) : Calls Tryz.prog 153 #[.int .u64 x] w fun e w'=>e = .returned (.int .i64 (bl x.toNat)) ∧ A3 w w' :=
 (Tryz.bits_Len64 x w h0 (by omega)).mono fun e w' ⟨he,hw⟩=>⟨by rw [he,A6q _ (by omega)],B2K hw⟩
theorem B2Z : ∀ (l : List UInt8) (h : 8 ≤ l.length),l.take 8 = [l[0],l[1],l[2],l[3],l[4],l[5],l[6],l[7]]
 | _ :: _ :: _ :: _ :: _ :: _ :: _ :: _ :: _,_=>rfl
theorem B2T (a b c d e f g h : Nat) : ((a + 256 * (b + 256 * (c + 256 * (d + 256 * (e + 256 * (f + 256 * (g + 256 * (h + 256 * 0))))))) : Nat) : Int) =
  (a : Int) + (b : Int) * 256 + (c : Int) * 65536 + (d : Int) * 16777216 + (e : Int) * 4294967296 + (f : Int) * 1099511627776 + (g : Int) * 281474976710656 + (h : Int) * 72057594037927936:=by omega
theorem B3a (s : ByteArray) (hs : 8 ≤ s.size) : ((Lib.leNat (s.data.toList.take 8) : Nat) : Int) = (s[0].toNat : Int) + (s[1].toNat : Int) * 256 + (s[2].toNat : Int) * 65536 + (s[3].toNat : Int) * 16777216 + (s[4].toNat : Int) * 4294967296 + (s[5].toNat : Int) * 1099511627776 + (s[6].toNat : Int) * 281474976710656 + (s[7].toNat : Int) * 72057594037927936:=by
 rw [B2Z s.data.toList (by simpa using hs)]
 exact B2T s[0].toNat s[1].toNat s[2].toNat s[3].toNat s[4].toNat s[5].toNat s[6].toNat s[7].toNat
theorem B1x (s : ByteArray) (hs : 8 ≤ s.size) (w : World) :
  Calls Tryz.prog 154 #[.string s] w fun e w'=>e = .returned (.int .u64 (Lib.leNat (s.data.toList.take 8))) ∧ ∃ n,w' = w.drewN n:=by
 have q0 : 0 < s.size:=by omega
 have q1 : (1 : Int) < (s.size : Int):=by omega
 have q2 : (2 : Int) < (s.size : Int):=by omega
 have q3 : (3 : Int) < (s.size : Int):=by omega
 have q4 : (4 : Int) < (s.size : Int):=by omega
 have q5 : (5 : Int) < (s.size : Int):=by omega
 have q6 : (6 : Int) < (s.size : Int):=by omega
 have q7 : (7 : Int) < (s.size : Int):=by omega
 go_enter Tryz.func154,Tryz.ntmps154
 go_wp2
 go_quiet (fail)
 go_wp2
 go_ret
 refine ⟨congrArg (fun n=>Ending.returned (.int .u64 n)) ?_,_,rfl⟩
 rw [B3a s hs]
 have h0:=s[0].toNat_lt
 have h1:=s[1].toNat_lt
 have h2:=s[2].toNat_lt
 have h3:=s[3].toNat_lt
 have h4:=s[4].toNat_lt
 have h5:=s[5].toNat_lt
 have h6:=s[6].toNat_lt
 have h7:=s[7].toNat_lt
 simp (disch:=omega) only [u64_wrap_id,u64_or8,u64_or16,u64_or24,u64_or32,u64_or40,u64_or48,u64_or56]
 rfl
theorem O1 (w : World) (n : Nat) : A3 w (w.drewN n):=⟨rfl,rfl,rfl,Nat.le_refl _,fun _ _=>rfl⟩
theorem A3o (a i : Nat) (hi : i < (C3 a).length) (s : ByteArray) (hs : s.data.toList = (B1 a).data.toList.drop (8 * i)) (w : World) :
  Calls Tryz.prog 154 #[.string s] w fun e w'=>e = .returned (.int .u64 ((C3 a)[i] : Nat)) ∧ A3 w w':=by
 have hsz : 8 ≤ s.size:=by
  have h1 : s.size = s.data.toList.length:=by show s.data.size = _;simp
  have h2 : (B1 a).data.toList.length = (B1 a).size:=by show _ = (B1 a).data.size;simp
  rw [h1,hs,List.length_drop,h2,Y4];omega
 refine (B1x s hsz w).mono fun e w' ⟨he,n,hw⟩=>⟨?_,hw ▸ O1 w n⟩
 rw [he,hs,B4d a i hi]
theorem A8W (x y : Nat) (w : World) : Calls Tryz.prog 155 #[.int .u64 x,.int .u64 y] w fun e w'=>e = .returned (.int .i64 (E6 x y)) ∧ A3 w w':=by
 by_cases h : x < y
 ·rw [O6 h]
  go_enter Tryz.func155,Tryz.ntmps155
  go_wp2
  go_ret
  exact ⟨rfl,A3.refl _⟩
 ·by_cases h' : y < x
  ·rw [W6 h']
   go_enter Tryz.func155,Tryz.ntmps155
   go_wp2
   go_ret
   exact ⟨rfl,A3.refl _⟩
  ·rw [A0v (show x = y by omega)]
   go_enter Tryz.func155,Tryz.ntmps155
   go_wp2
   go_ret
   exact ⟨rfl,A3.refl _⟩
theorem A2Z (a : Nat) (ha : a < W64) (w : World) : Calls Tryz.prog 121 #[.int .u64 a] w fun e w'=>e = .returned (A6 a) ∧ A3 w w':=by
  go_enter Tryz.func121,Tryz.ntmps121
  refine wp_seq (Code.wp_mono NoP.up (wp_region_lit ?_))
  go_wp2_with fail
  generalize hu : World.alloc w _ = u
  obtain ⟨hB,hG⟩:=R6 [(_,_)] w u hu
  have hF:=U9 w [(35,#[])]
  simp only [K4,List.map_cons,List.map_nil] at hB hF
  clear hu
  generalize w.heap.size = b2 at hB hF ⊢
  refine NoP.norm ?_
  refine A4 ?_
  refine wp_seq ?_
  refine A04 (w:=w) A5 2 [0,0] (by kernel_rfl) hB hG ?_
  simp only [List.zip_cons_cons,List.zip_nil_left]
  (apply gy
   · exact rfl
   · (rintro v - N hN;go_simp;exact hN))
  (apply gy
   · exact rfl
   · (rintro v - N hN;go_simp;exact hN))
  refine K8 ?_
  rintro v ⟨-,hB1,hG1⟩
  clear hB hG
  have hB:=hB1
  have hG:=hG1
  clear hB1 hG1
  simp only [List.drop_succ_cons,List.drop_zero]
  have r:=hB.r
  simp only [BxR] at r
  go_wp2_with fail
  clear r
  generalize hu0 : World.setCell (World.setCell v _ _) _ _ = u0
  have hBG:=hB.over hF hG 0 rfl 0 [_,_] hu0
  clear hB hG hu0
  simp only [List.modify_zero_cons,G6,List.setIfInBounds_toArray,List.set_cons_zero,List.set_cons_succ,Nat.zero_add] at hBG
  obtain ⟨hB,hG⟩:=hBG
  clear v
  obtain ⟨u,rfl⟩ : ∃ x,x = u0:=⟨_,rfl⟩
  refine NoP.norm ?_
  refine A4 ?_
  refine A7s rfl ?_
  intro N hN
  have r:=hB.r
  simp only [BxR] at r
  simp only [results,Tryz.results121]
  go_simp
  refine hN _ ?_
  clear hN N r
  refine And.intro ?_ hG
  rw [A6,J6 ha,A1U ha]
theorem B0z (a : Nat) (hs : a < W64) (w : World) : Calls Tryz.prog 117 #[A6 a] w fun e w'=>e = .returned (.int .i64 (bl a)) ∧ A3 w w':=by
 have hE : (B1 a).toList.isEmpty = true:=by rw [L7];simpa using hs
 have hlo:=A1i a
 have hhi:=B1P a
 go_enter Tryz.func117,Tryz.ntmps117
 go_wp2_with (go_at_call 153;refine (bits_Len64 _ _ hlo hhi).mono ?_;rintro e w1 ⟨rfl,hb⟩)
 go_ret
 refine ⟨?_,(A3.alloc w _).trans hb⟩
 simp only [B1O,Nat.mod_eq_of_lt hs]
 rfl
def A0Z (a : Nat) : Nat:=(C3 a).getLastD 0
theorem B2a (a : Nat) (hs : ¬ a < W64) (s : ByteArray) (hsl : s.data.toList = (B1 a).data.toList.drop ((B1 a).size - 8)) (w : World) :
  Calls Tryz.prog 154 #[.string s] w fun e w'=>e = .returned (.int .u64 (A0Z a : Nat)) ∧ A3 w w':=by
 have hne : C3 a ≠ []:=by rw [Ne,A4P];exact hs
 have hl : 0 < (C3 a).length:=List.length_pos_iff.2 hne
 have h8 : (B1 a).size - 8 = 8 * ((C3 a).length - 1):=by rw [Y4];omega
 refine (A3o a ((C3 a).length - 1) (by omega) s (by rw [hsl,h8]) w).mono fun e w' ⟨he,hg⟩=>⟨?_,hg⟩
 rw [he,A0Z,List.getLastD_eq_getLast?,List.getLast?_eq_getElem?,List.getElem?_eq_getElem (by omega)]
 rfl
theorem B0T (a : Nat) (hs : ¬ a < W64) (ha : bl a ≤ 1099511627776) (w : World) : Calls Tryz.prog 117 #[A6 a] w fun e w'=>e = .returned (.int .i64 (bl a)) ∧ A3 w w':=by
  have hE : (B1 a).toList.isEmpty = false:=by rw [L7];simpa using hs
  have hub:=A5i a
  have hne : C3 a ≠ []:=by rw [Ne,A4P];exact hs
  have hl : 0 < (C3 a).length:=List.length_pos_iff.2 hne
  have h8 : 8 ≤ (B1 a).size:=by rw [Y4];omega
  have hm : (B1 a).size ≤ 1099511627776:=by rw [Y4];omega
  have hw1 : IntKind.i64.wrap (8 * ((B1 a).size : Int)) = 8 * ((B1 a).size : Int):=IntWalk.i64_in _ (by omega)
  have hw2 : IntKind.i64.wrap (((B1 a).size : Int) - 8) = ((B1 a).size : Int) - 8:=IntWalk.i64_in _ (by omega)
  have hw3 : (((B1 a).size : Int) - 8).toNat = (B1 a).size - 8:=by omega
  have hw4 : (8 : Int) ≤ ((B1 a).size : Int):=by omega
  have hw5 : ((B1 a).size : Int) - 8 ≤ ((B1 a).size : Int):=by omega
  have hgl : A0Z a < 18446744073709551616:=by
    rw [A0Z,List.getLastD_eq_getLast?,List.getLast?_eq_getElem?,List.getElem?_eq_getElem (by omega)]
    exact A1Z a _ (List.getElem_mem _)
  have hw6 : IntKind.i64.wrap (8 * ((B1 a).size : Int) + (bl (A0Z a) : Int)) = 8 * ((B1 a).size : Int) + (bl (A0Z a) : Int):=IntWalk.i64_in _ (by have := W5 hgl;omega)
  have hfin : (8 * ((B1 a).size : Int) + (bl (A0Z a) : Int)) = (bl a : Int):=by
    obtain ⟨x,hx,_,hbl⟩:=B1k (Nat.le_of_not_lt hs)
    rw [Y4,A0Z,List.getLastD_eq_getLast?,hx,hbl]
    simp only [Option.getD_some]
    omega
  have Hfin:=Lib.hid hfin
  clear hub hl hfin
  go_enter Tryz.func117,Tryz.ntmps117
  refine wp_seq (Code.wp_mono NoP.up (wp_region_lit ?_))
  go_wp2_with fail
  generalize hu : World.alloc w _ = u
  obtain ⟨hB,hG⟩:=R6 [(_,_)] w u hu
  have hF:=U9 w [(35,#[])]
  simp only [K4,List.map_cons,List.map_nil] at hB hF
  clear hu
  generalize w.heap.size = b1 at hB hF ⊢
  refine NoP.norm ?_
  refine A4 ?_
  refine wp_seq ?_
  refine wp_seq ?_
  refine A04 (w:=w) A5 3 [0,0,0] (by kernel_rfl) hB hG ?_
  simp only [List.zip_cons_cons,List.zip_nil_left]
  (apply gy
   · exact rfl
   · (rintro v - N hN;go_simp;exact hN))
  (apply gy
   · exact rfl
   · (rintro v ⟨-,hB,hG⟩ N hN;have r:=hB.r;simp only [BxR] at r;go_simp;exact hN))
  (apply gy
   · exact rfl
   · (rintro v - N hN;go_simp;exact hN))
  refine K8 ?_
  rintro v ⟨-,hB1,hG1⟩
  clear hB hG
  have hB:=hB1
  have hG:=hG1
  clear hB1 hG1
  simp only [List.drop_succ_cons,List.drop_nil]
  refine wpList_nil ?_
  refine NoP.norm ?_
  refine A4 ?_
  refine wp_cond_split rfl ?_ ?_
  · intro ht
    cases ht
  · intro ht
    refine wp_skip ?_
    refine A4 ?_
    refine wp_seq ?_
    refine A17 (w:=w) A5 14 [(0,0),(0,1),(0,2),(0,3),(0,4),(0,5),(0,6),(0,7),(0,8),(0,9),(0,10),(1,11),(1,12),(0,13)] (by kernel_rfl) (by kernel_rfl) hB hG ?_
    simp only [E8,List.getElem?_toArray,List.getElem?_cons_zero,List.getElem?_cons_succ]
    (apply gy
     · exact rfl
     · (rintro v - N hN;go_simp;exact hN))
    (apply gy
     · exact rfl
     · (rintro v ⟨-,hB,hG⟩ N hN;have r:=hB.r;simp only [BxR] at r;go_simp;exact hN))
    (apply gy
     · exact rfl
     · (rintro v - N hN;go_simp;exact hN))
    (apply gy
     · exact rfl
     · (rintro v - N hN;go_simp;exact hN))
    (apply gy
     · exact rfl
     · (rintro v - N hN;go_simp;exact hN))
    (apply gy
     · exact rfl
     · (rintro v ⟨-,hB,hG⟩ N hN;have r:=hB.r;simp only [BxR] at r;go_simp;exact hN))
    (apply gy
     · exact rfl
     · (rintro v - N hN;go_simp;exact hN))
    (apply gy
     · exact rfl
     · (rintro v ⟨-,hB,hG⟩ N hN;have r:=hB.r;simp only [BxR] at r;go_simp;exact hN))
    (apply gy
     · exact rfl
     · (rintro v - N hN;go_simp;exact hN))
    (apply gy
     · exact rfl
     · (rintro v - N hN;go_simp;exact hN))
    (apply gy
     · exact rfl
     · (rintro v - N hN;go_simp;exact hN))
    (apply gm
     · exact rfl
     · (rintro v - N hN;go_simp;((with_reducible refine (B2a a hs _ (Lib.extract_to_end _ _) _).mono ?_);rintro e w1 ⟨rfl,hb⟩;exact ⟨_,rfl,hN _ hb⟩)))
    (apply gm
     · exact rfl
     · (rintro v - N hN;go_simp;((with_reducible refine (bits_Len64 _ _ (by omega) (by omega)).mono ?_);rintro e w1 ⟨rfl,hb⟩;exact ⟨_,rfl,hN _ hb⟩)))
    (apply gy
     · exact rfl
     · (rintro v - N hN;go_simp;exact hN))
    refine K8 ?_
    rintro v ⟨-,hB1,hG1⟩
    clear hB hG
    have hB:=hB1
    have hG:=hG1
    clear hB1 hG1
    simp only [List.drop_succ_cons,List.drop_zero]
    go_wp2_with fail
    refine NoP.norm ?_
    refine A4 ?_
    refine A7s rfl ?_
    intro N hN
    have r:=hB.r
    simp only [BxR] at r
    simp only [results,Tryz.results117]
    go_simp
    refine hN _ ?_
    clear hN N r
    refine And.intro ?_ hG
    rw [Hfin.out]
theorem M1 (a : Nat) (ha : bl a ≤ 1099511627776) (w : World) : Calls Tryz.prog 117 #[A6 a] w fun e w'=>e = .returned (.int .i64 (bl a)) ∧ A3 w w':=by
 by_cases hs : a < W64
 ·exact B0z a hs w
 ·exact B0T a hs ha w
theorem A9m (a : Nat) (w : World) : Calls Tryz.prog 120 #[A6 a] w fun e w'=>e = .returned (if a < W64 then .tuple #[.int .u64 (a : Nat),.bool true] else .tuple #[.int .u64 0,.bool false]) ∧ A3 w w':=by
 by_cases hs : a < W64
 ·have hE : (B1 a).toList.isEmpty = true:=by rw [L7];simpa using hs
  rw [if_pos hs]
  go_enter Tryz.func120,Tryz.ntmps120
  go_wp2
  go_ret2
  refine ⟨?_,A3.alloc w _⟩
  rw [← J6 hs]
  rfl
 ·have hE : (B1 a).toList.isEmpty = false:=by rw [L7];simpa using hs
  rw [if_neg hs]
  go_enter Tryz.func120,Tryz.ntmps120
  go_wp2
  go_ret2
  exact ⟨rfl,A3.alloc w _⟩
end Go.Proofs.YtlkniebmjdoopaaGreatDoor
