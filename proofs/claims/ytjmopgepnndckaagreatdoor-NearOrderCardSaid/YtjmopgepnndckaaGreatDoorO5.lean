/-
  Contracts and laws: Shelf NatA.
-/
import Derived.Test.YtjmopgepnndckaaGreatDoorO4
import Derived.Shelf.Strings.Builder1
import Derived.Shelf.Strings.Builder2
import Derived.Shelf.Small.Bits
import Derived.Shelf.Strings.BuilderF
import Derived.Shelf.Strings.BuilderK
import Derived.Shelf.Strings.Builder2Cap
import Derived.Shelf.Strconv.Itoa0
import Derived.Shelf.Bits.Mul64
import Derived.Shelf.Strings.BuilderCap
import Derived.Test.YtjmopgepnndckaaGreatDoorProg
import Derived.WalkKit
import Derived.WalkSpells
import Derived.WalkLawsBesides
import Derived.Deep.QuietTactic
import Derived.BigQuiet
import Derived.Lib.EndianBits
import Derived.Lib.Hide
import Derived.Lib.IndexBytes
set_option linter.unusedSimpArgs false
set_option linter.unusedVariables false
namespace Go.Proofs
open Go.Shelf
def Tryz.lays169_ren : Go.Shelf.Ren := ⟨fun | 169 => 187 | n => n, fun | 70 => 240 | 9 => 9 | 0 => 0 | 72 => 242 | 37 => 182 | 127 => 263 | 3 => 3 | 5 => 5 | n => n, fun | n => n⟩
theorem Tryz.lays169 : Go.Proofs.Lays.n169 Tryz.prog Tryz.lays169_ren := {
 mixed := by kernel_rfl
 f169 := Tryz.func187.trans (congrArg some (by kernel_rfl))
 t0 := Tryz.underlying0
 a0 := Tryz.isAgg0
 z0 := Tryz.sizeOf0
 v0 := Tryz.zeroValue0
 t3 := Tryz.underlying3
 a3 := Tryz.isAgg3
 z3 := Tryz.sizeOf3
 v3 := Tryz.zeroValue3
 t9 := Tryz.underlying9
 a9 := Tryz.isAgg9
 z9 := Tryz.sizeOf9
 v9 := Tryz.zeroValue9
 t37 := Tryz.underlying182
 a37 := Tryz.isAgg182
 z37 := Tryz.sizeOf182
 v37 := Tryz.zeroValue182
 t70 := Tryz.underlying240
 a70 := Tryz.isAgg240
 z70 := Tryz.sizeOf240
 v70 := Tryz.zeroValue240
 t72 := Tryz.underlying242
 a72 := Tryz.isAgg242
 z72 := Tryz.sizeOf242
 v72 := Tryz.zeroValue242
 t127 := Tryz.underlying263
 a127 := Tryz.isAgg263
 z127 := Tryz.sizeOf263
 v127 := Tryz.zeroValue263 }
theorem Tryz.Builder_Extra_169 : Builder.Extra Tryz.prog Tryz.lays169_ren := {
 sizeBuilder := by kernel_rfl
 liesBuilder := by kernel_rfl
 t5 := Tryz.underlying5
 a5 := Tryz.isAgg5
 z5 := Tryz.sizeOf5
 v5 := Tryz.zeroValue5
 infoByte := by kernel_rfl
 cellsByte := by kernel_rfl
 sizeByte := by kernel_rfl
 neB5 := by decide }
open Go.RowKit in
/-- (*strings.Builder).String: "String returns the accumulated string.": WHATEVER THE BUILDER HOLDS. (LAID: no walk: one application.) -/
theorem Tryz.Builder_String_any (B b : Nat) (l : List UInt8) (w : World) (h : Lib.IsBuilder 242 5 B b (Lib.byteCells l) w) (hBw : B ≤ w.heap.size) :
  Calls Tryz.prog 187 #[.pointer (some ⟨b, 0, none⟩)] w fun e w' => e = .returned (.string ⟨l.toArray⟩) ∧ Below B w w' := Any.Builder_String_any Tryz.lays169 Tryz.Builder_Extra_169 B b l w h hBw
def Tryz.lays165_ren : Go.Shelf.Ren := ⟨fun | 165 => 185 | 240 => 207 | 241 => 208 | 276 => 218 | 277 => 219 | n => n, fun | 70 => 240 | 3 => 3 | 0 => 0 | 4 => 4 | 9 => 9 | 20 => 20 | 72 => 242 | 37 => 182 | 164 => 267 | 5 => 5 | n => n, fun | n => n⟩
theorem Tryz.lays165 : Go.Proofs.Lays.n165 Tryz.prog Tryz.lays165_ren := {
 mixed := by kernel_rfl
 f165 := Tryz.func185.trans (congrArg some (by kernel_rfl))
 f240 := Tryz.func207.trans (congrArg some (by kernel_rfl))
 f241 := Tryz.func208.trans (congrArg some (by kernel_rfl))
 f276 := Tryz.func218.trans (congrArg some (by kernel_rfl))
 f277 := Tryz.func219.trans (congrArg some (by kernel_rfl))
 t0 := Tryz.underlying0
 a0 := Tryz.isAgg0
 z0 := Tryz.sizeOf0
 v0 := Tryz.zeroValue0
 t3 := Tryz.underlying3
 a3 := Tryz.isAgg3
 z3 := Tryz.sizeOf3
 v3 := Tryz.zeroValue3
 t4 := Tryz.underlying4
 a4 := Tryz.isAgg4
 z4 := Tryz.sizeOf4
 v4 := Tryz.zeroValue4
 t9 := Tryz.underlying9
 a9 := Tryz.isAgg9
 z9 := Tryz.sizeOf9
 v9 := Tryz.zeroValue9
 t20 := Tryz.underlying20
 a20 := Tryz.isAgg20
 z20 := Tryz.sizeOf20
 v20 := Tryz.zeroValue20
 t37 := Tryz.underlying182
 a37 := Tryz.isAgg182
 z37 := Tryz.sizeOf182
 v37 := Tryz.zeroValue182
 t70 := Tryz.underlying240
 a70 := Tryz.isAgg240
 z70 := Tryz.sizeOf240
 v70 := Tryz.zeroValue240
 t72 := Tryz.underlying242
 a72 := Tryz.isAgg242
 z72 := Tryz.sizeOf242
 v72 := Tryz.zeroValue242
 t164 := Tryz.underlying267
 a164 := Tryz.isAgg267
 z164 := Tryz.sizeOf267
 v164 := Tryz.zeroValue267 }
theorem Tryz.Builder_Extra_165 : Builder.Extra Tryz.prog Tryz.lays165_ren := {
 sizeBuilder := by kernel_rfl
 liesBuilder := by kernel_rfl
 t5 := Tryz.underlying5
 a5 := Tryz.isAgg5
 z5 := Tryz.sizeOf5
 v5 := Tryz.zeroValue5
 infoByte := by kernel_rfl
 cellsByte := by kernel_rfl
 sizeByte := by kernel_rfl
 neB5 := by decide }
def Tryz.lays134_ren : Go.Shelf.Ren := ⟨fun | 134 => 212 | 129 => 136 | n => n, fun | 53 => 43 | 3 => 3 | 4 => 4 | 46 => 91 | 5 => 5 | 9 => 9 | n => n, fun | n => n⟩
theorem Tryz.lays134 : Go.Proofs.Lays.n134 Tryz.prog Tryz.lays134_ren := {
 mixed := by kernel_rfl
 f129 := Tryz.func136.trans (congrArg some (by kernel_rfl))
 f134 := Tryz.func212.trans (congrArg some (by kernel_rfl))
 t3 := Tryz.underlying3
 a3 := Tryz.isAgg3
 z3 := Tryz.sizeOf3
 v3 := Tryz.zeroValue3
 t4 := Tryz.underlying4
 a4 := Tryz.isAgg4
 z4 := Tryz.sizeOf4
 v4 := Tryz.zeroValue4
 t5 := Tryz.underlying5
 a5 := Tryz.isAgg5
 z5 := Tryz.sizeOf5
 v5 := Tryz.zeroValue5
 t9 := Tryz.underlying9
 a9 := Tryz.isAgg9
 z9 := Tryz.sizeOf9
 v9 := Tryz.zeroValue9
 t46 := Tryz.underlying91
 a46 := Tryz.isAgg91
 z46 := Tryz.sizeOf91
 v46 := Tryz.zeroValue91
 t53 := Tryz.underlying43
 a53 := Tryz.isAgg43
 z53 := Tryz.sizeOf43
 v53 := Tryz.zeroValue43 }
/-- bits.LeadingZeros64: "LeadingZeros64 returns the number of leading zero bits in x; the result is 64 for x == 0.": IT RETURNS '64 - Lib.bitLen x'; the world is as it was. ITS CALLEE bits.Len64 IS MET BY ITS OWN CONTRACT OFF THE SHELF (lay that first): entered in place it sends the kernel out of memory. (LAID: no walk: one application.) -/
theorem Tryz.bits_LeadingZeros64 (x : Int) (w : World) (h0 : 0 ≤ x) (h1 : x ≤ 18446744073709551615) :
  Calls Tryz.prog 212 #[.int .u64 x] w fun e w' => e = .returned (.int .i64 (64 - (Lib.bitLen x.toNat : Int))) ∧ w' = w := Any.bits_LeadingZeros64 Tryz.lays134 x w h0 h1
open Go.RowKit in
/-- (*strings.Builder).Grow AT A BUILDER THAT HAS NOT BEEN WRITTEN ('var b strings.Builder; b.Grow(n)'): "Grow grows b's capacity, if necessary, to guarantee space for another n bytes.": it holds no byte behind it as before it. (LAID: no walk: one application.) -/
theorem Tryz.Builder_Grow_fresh_cap (B b n : Nat) (w : World) (hB : B ≤ b) (hbk : w.heap[b]? = some (.cells #[.pointer none, .slice none 0 0] 242 (0, 0))) (hBw : B ≤ w.heap.size) (hn : n ≤ 281474976710656) :
  Calls Tryz.prog 185 #[.pointer (some ⟨b, 0, none⟩), .int .i64 n] w fun e w' => e = .returned (.tuple #[]) ∧ (Lib.BuilderAt 242 5 B b (.pointer (some ⟨b, 0, none⟩)) [] w' ∧ Below B w w') ∧ ∃ p cap, w'.cell? ⟨b, 1, none⟩ = some (.slice p 0 cap) ∧ n ≤ cap := Any.Builder_Grow_fresh_cap Tryz.lays165 Tryz.Builder_Extra_165 B b n w hB hbk hBw hn
def Tryz.lays129_ren : Go.Shelf.Ren := ⟨fun | 129 => 136 | n => n, fun | 53 => 43 | 3 => 3 | 4 => 4 | 46 => 91 | 5 => 5 | 9 => 9 | n => n, fun | n => n⟩
theorem Tryz.lays129 : Go.Proofs.Lays.n129 Tryz.prog Tryz.lays129_ren := {
 mixed := by kernel_rfl
 f129 := Tryz.func136.trans (congrArg some (by kernel_rfl))
 t3 := Tryz.underlying3
 a3 := Tryz.isAgg3
 z3 := Tryz.sizeOf3
 v3 := Tryz.zeroValue3
 t4 := Tryz.underlying4
 a4 := Tryz.isAgg4
 z4 := Tryz.sizeOf4
 v4 := Tryz.zeroValue4
 t5 := Tryz.underlying5
 a5 := Tryz.isAgg5
 z5 := Tryz.sizeOf5
 v5 := Tryz.zeroValue5
 t9 := Tryz.underlying9
 a9 := Tryz.isAgg9
 z9 := Tryz.sizeOf9
 v9 := Tryz.zeroValue9
 t46 := Tryz.underlying91
 a46 := Tryz.isAgg91
 z46 := Tryz.sizeOf91
 v46 := Tryz.zeroValue91
 t53 := Tryz.underlying43
 a53 := Tryz.isAgg43
 z53 := Tryz.sizeOf43
 v53 := Tryz.zeroValue43 }
/-- bits.Len64: "Len64 returns the minimum number of bits required to represent x; the result is 0 for x == 0.": IT RETURNS 'Lib.bitLen x'; the world is as it was. ('h0', 'h1': x is a uint64.) (LAID: no walk: one application.) -/
theorem Tryz.bits_Len64 (x : Int) (w : World) (h0 : 0 ≤ x) (h1 : x ≤ 18446744073709551615) :
  Calls Tryz.prog 136 #[.int .u64 x] w fun e w' => e = .returned (.int .i64 (Lib.bitLen x.toNat)) ∧ w' = w := Any.bits_Len64 Tryz.lays129 x w h0 h1
def Tryz.lays264_ren : Go.Shelf.Ren := ⟨fun | 264 => 180 | n => n, fun | 53 => 43 | 46 => 91 | n => n, fun | n => n⟩
theorem Tryz.lays264 : Go.Proofs.Lays.n264 Tryz.prog Tryz.lays264_ren := {
 mixed := by kernel_rfl
 f264 := Tryz.func180.trans (congrArg some (by kernel_rfl))
 t46 := Tryz.underlying91
 a46 := Tryz.isAgg91
 z46 := Tryz.sizeOf91
 v46 := Tryz.zeroValue91
 t53 := Tryz.underlying43
 a53 := Tryz.isAgg43
 z53 := Tryz.sizeOf43
 v53 := Tryz.zeroValue43 }
open Go.RowKit Go.Lib in
theorem Tryz.bits_Mul64 (x y : Nat) (hx : x < 18446744073709551616) (hy : y < 18446744073709551616) (w : World) :
  Calls Tryz.prog 180 #[.int .u64 x, .int .u64 y] w fun e w' => e = .returned (.tuple #[.int .u64 ((x * y / 18446744073709551616 : Nat) : Int), .int .u64 ((x * y % 18446744073709551616 : Nat) : Int)]) ∧ w' = w := Any.bits_Mul64 Tryz.lays264 x y hx hy w
end Go.Proofs
namespace Go.Proofs.YtjmopgepnndckaaGreatDoor
open Go.RowKit
theorem newObj_Nat (d : Option Tmp) (ty : TypeId) (pos : String) (af : Array Edge) (gd : Option (Nat × Bool)) : newObj Tryz.prog ⟨d, .alloc 45, ty, pos, af, gd⟩ = .cells #[.int .u64 0, .string ⟨#[]⟩] 45 := by kernel_rfl
theorem newObj_Int (d : Option Tmp) (ty : TypeId) (pos : String) (af : Array Edge) (gd : Option (Nat × Bool)) : newObj Tryz.prog ⟨d, .alloc 47, ty, pos, af, gd⟩ = .cells #[.bool false, .int .u64 0, .string ⟨#[]⟩] 47 := by kernel_rfl
theorem newObj_Q (d : Option Tmp) (ty : TypeId) (pos : String) (af : Array Edge) (gd : Option (Nat × Bool)) : newObj Tryz.prog ⟨d, .alloc 49, ty, pos, af, gd⟩ = .cells #[.bool false, .int .u64 0, .string ⟨#[]⟩, .int .u64 0, .string ⟨#[]⟩] 49 := by kernel_rfl
theorem allocs : ∀ t ∈ [45, 47, 49], AllocT Tryz.prog t := by
 intro t ht
 simp only [List.mem_cons, List.not_mem_nil, or_false] at ht
 rcases ht with rfl | rfl | rfl
 ·exact fun _ _ _ _ _ _ => by rw [newObj_Nat]; kernel_rfl
 ·exact fun _ _ _ _ _ _ => by rw [newObj_Int]; kernel_rfl
 ·exact fun _ _ _ _ _ _ => by rw [newObj_Q]; kernel_rfl
theorem grow_of_eq {w w' : World} (h : w' = w) : Grow w w' := h ▸ Grow.refl _
--! bits_Len64 = bits_Len64 _ _ SIDE SIDE
theorem bits_Len64 (x : Int) (w : World) (h0 : 0 ≤ x) (h1 : x < 18446744073709551616) : Calls Tryz.prog 136 #[.int .u64 x] w fun e w' => e = .returned (.int .i64 (bl x.toNat)) ∧ Grow w w' :=
 (Tryz.bits_Len64 x w h0 (by omega)).mono fun e w' ⟨he, hw⟩ => ⟨by rw [he, bitLen_eq _ (by omega)], grow_of_eq hw⟩
theorem take8 : ∀ (l : List UInt8) (h : 8 ≤ l.length), l.take 8 = [l[0], l[1], l[2], l[3], l[4], l[5], l[6], l[7]]
 | _ :: _ :: _ :: _ :: _ :: _ :: _ :: _ :: _, _ => rfl
theorem leNat_lin (a b c d e f g h : Nat) : ((a + 256 * (b + 256 * (c + 256 * (d + 256 * (e + 256 * (f + 256 * (g + 256 * (h + 256 * 0))))))) : Nat) : Int) =
  (a : Int) + (b : Int) * 256 + (c : Int) * 65536 + (d : Int) * 16777216 + (e : Int) * 4294967296 + (f : Int) * 1099511627776 + (g : Int) * 281474976710656 + (h : Int) * 72057594037927936 := by omega
theorem leNat8 (s : ByteArray) (hs : 8 ≤ s.size) : ((Lib.leNat (s.data.toList.take 8) : Nat) : Int) = (s[0].toNat : Int) + (s[1].toNat : Int) * 256 + (s[2].toNat : Int) * 65536 + (s[3].toNat : Int) * 16777216 + (s[4].toNat : Int) * 4294967296 + (s[5].toNat : Int) * 1099511627776 + (s[6].toNat : Int) * 281474976710656 + (s[7].toNat : Int) * 72057594037927936 := by
 rw [take8 s.data.toList (by simpa using hs)]
 exact leNat_lin s[0].toNat s[1].toNat s[2].toNat s[3].toNat s[4].toNat s[5].toNat s[6].toNat s[7].toNat
set_option maxHeartbeats 2000000 in
set_option maxRecDepth 100000 in
theorem nat_word (s : ByteArray) (hs : 8 ≤ s.size) (w : World) :
  Calls Tryz.prog 155 #[.string s] w fun e w' => e = .returned (.int .u64 (Lib.leNat (s.data.toList.take 8))) ∧ ∃ n, w' = w.drewN n := by
 have q0 : 0 < s.size := by omega
 have q1 : (1 : Int) < (s.size : Int) := by omega
 have q2 : (2 : Int) < (s.size : Int) := by omega
 have q3 : (3 : Int) < (s.size : Int) := by omega
 have q4 : (4 : Int) < (s.size : Int) := by omega
 have q5 : (5 : Int) < (s.size : Int) := by omega
 have q6 : (6 : Int) < (s.size : Int) := by omega
 have q7 : (7 : Int) < (s.size : Int) := by omega
 go_enter Tryz.func155, Tryz.ntmps155
 go_wp2
 go_quiet (fail)
 go_wp2
 go_ret
 refine ⟨congrArg (fun n => Ending.returned (.int .u64 n)) ?_, _, rfl⟩
 rw [leNat8 s hs]
 have h0 := s[0].toNat_lt
 have h1 := s[1].toNat_lt
 have h2 := s[2].toNat_lt
 have h3 := s[3].toNat_lt
 have h4 := s[4].toNat_lt
 have h5 := s[5].toNat_lt
 have h6 := s[6].toNat_lt
 have h7 := s[7].toNat_lt
 simp (disch := omega) only [u64_wrap_id, u64_or8, u64_or16, u64_or24, u64_or32, u64_or40, u64_or48, u64_or56]
 rfl
theorem grow_drewN (w : World) (n : Nat) : Grow w (w.drewN n) := ⟨rfl, rfl, rfl, Nat.le_refl _, fun _ _ => rfl⟩
/-- the word at place i of the bytes above -/
theorem word_at (a i : Nat) (hi : i < (upper a).length) (s : ByteArray) (hs : s.data.toList = (natMo a).data.toList.drop (8 * i)) (w : World) :
  Calls Tryz.prog 155 #[.string s] w fun e w' => e = .returned (.int .u64 ((upper a)[i] : Nat)) ∧ Grow w w' := by
 have hsz : 8 ≤ s.size := by
  have h1 : s.size = s.data.toList.length := by show s.data.size = _; simp
  have h2 : (natMo a).data.toList.length = (natMo a).size := by show _ = (natMo a).data.size; simp
  rw [h1, hs, List.length_drop, h2, natMo_size]; omega
 refine (nat_word s hsz w).mono fun e w' ⟨he, n, hw⟩ => ⟨?_, hw ▸ grow_drewN w n⟩
 rw [he, hs, natMo_word a i hi]
set_option maxHeartbeats 400000 in
--! nat_cmpWord = nat_cmpWord _ _ _
theorem nat_cmpWord (x y : Nat) (w : World) : Calls Tryz.prog 159 #[.int .u64 x, .int .u64 y] w fun e w' => e = .returned (.int .i64 (cmpN x y)) ∧ Grow w w' := by
 by_cases h : x < y
 ·rw [cmpN_lt h]
  go_enter Tryz.func159, Tryz.ntmps159
  go_wp2
  go_ret
  exact ⟨rfl, Grow.refl _⟩
 ·by_cases h' : y < x
  ·rw [cmpN_gt h']
   go_enter Tryz.func159, Tryz.ntmps159
   go_wp2
   go_ret
   exact ⟨rfl, Grow.refl _⟩
  ·rw [cmpN_eq (show x = y by omega)]
   go_enter Tryz.func159, Tryz.ntmps159
   go_wp2
   go_ret
   exact ⟨rfl, Grow.refl _⟩
set_option maxHeartbeats 400000 in
--! nat_Of = nat_Of _ SIDE _
theorem nat_Of (a : Nat) (ha : a < W64) (w : World) : Calls Tryz.prog 108 #[.int .u64 a] w fun e w' => e = .returned (natV a) ∧ Grow w w' := by
  go_enter Tryz.func108, Tryz.ntmps108
  refine wp_seq (Code.wp_mono NoP.up (wp_region_lit ?_))
  go_wp2_with fail
  generalize hu : World.alloc w _ = u
  obtain ⟨hB, hG⟩ := bx_first [(_, _)] w u hu
  have hF := fr_first w [(45, #[])]
  simp only [numbered, List.map_cons, List.map_nil] at hB hF
  clear hu
  generalize w.heap.size = b2 at hB hF ⊢
  refine NoP.norm ?_
  refine then_norm ?_
  refine wp_seq ?_
  refine wp_region_bs (w := w) allocs 2 [0, 0] (by kernel_rfl) hB hG ?_
  simp only [List.zip_cons_cons, List.zip_nil_left]
  (apply gy
   · exact rfl
   · (rintro v - N hN; go_simp; exact hN))
  (apply gy
   · exact rfl
   · (rintro v - N hN; go_simp; exact hN))
  refine gend ?_
  rintro v ⟨-, hB1, hG1⟩
  clear hB hG
  have hB := hB1
  have hG := hG1
  clear hB1 hG1
  simp only [List.drop_succ_cons, List.drop_zero]
  have r := hB.r
  simp only [BxR] at r
  go_wp2_with fail
  clear r
  generalize hu0 : World.setCell (World.setCell v _ _) _ _ = u0
  have hBG := hB.over hF hG 0 rfl 0 [_, _] hu0
  clear hB hG hu0
  simp only [List.modify_zero_cons, wrAll, List.setIfInBounds_toArray, List.set_cons_zero, List.set_cons_succ, Nat.zero_add] at hBG
  obtain ⟨hB, hG⟩ := hBG
  clear v
  obtain ⟨u, rfl⟩ : ∃ x, x = u0 := ⟨_, rfl⟩
  refine NoP.norm ?_
  refine then_norm ?_
  refine ret_k rfl ?_
  intro N hN
  have r := hB.r
  simp only [BxR] at r
  simp only [results, Tryz.results108]
  go_simp
  refine hN _ ?_
  clear hN N r
  refine And.intro ?_ hG
  rw [natV, natLo_small ha, natMo_small ha]
set_option maxHeartbeats 400000 in
theorem nat_Bits_small (a : Nat) (hs : a < W64) (w : World) : Calls Tryz.prog 119 #[natV a] w fun e w' => e = .returned (.int .i64 (bl a)) ∧ Grow w w' := by
 have hE : (natMo a).toList.isEmpty = true := by rw [natMo_isEmpty]; simpa using hs
 have hlo := natLo_nonneg a
 have hhi := natLo_lt a
 go_enter Tryz.func119, Tryz.ntmps119
 go_wp2_with (go_at_call 136; refine (bits_Len64 _ _ hlo hhi).mono ?_; rintro e w1 ⟨rfl, hb⟩)
 go_ret
 refine ⟨?_, (Grow.alloc w _).trans hb⟩
 simp only [natLo_toNat, Nat.mod_eq_of_lt hs]
 rfl
/-- the highest word -/
def topWord (a : Nat) : Nat := (upper a).getLastD 0
theorem last_word (a : Nat) (hs : ¬ a < W64) (s : ByteArray) (hsl : s.data.toList = (natMo a).data.toList.drop ((natMo a).size - 8)) (w : World) :
  Calls Tryz.prog 155 #[.string s] w fun e w' => e = .returned (.int .u64 (topWord a : Nat)) ∧ Grow w w' := by
 have hne : upper a ≠ [] := by rw [Ne, upper_nil]; exact hs
 have hl : 0 < (upper a).length := List.length_pos_iff.2 hne
 have h8 : (natMo a).size - 8 = 8 * ((upper a).length - 1) := by rw [natMo_size]; omega
 refine (word_at a ((upper a).length - 1) (by omega) s (by rw [hsl, h8]) w).mono fun e w' ⟨he, hg⟩ => ⟨?_, hg⟩
 rw [he, topWord, List.getLastD_eq_getLast?, List.getLast?_eq_getElem?, List.getElem?_eq_getElem (by omega)]
 rfl
set_option maxHeartbeats 1000000 in
theorem nat_Bits_big (a : Nat) (hs : ¬ a < W64) (ha : bl a ≤ 1099511627776) (w : World) : Calls Tryz.prog 119 #[natV a] w fun e w' => e = .returned (.int .i64 (bl a)) ∧ Grow w w' := by
  have hE : (natMo a).toList.isEmpty = false := by rw [natMo_isEmpty]; simpa using hs
  have hub := upper_bits a
  have hne : upper a ≠ [] := by rw [Ne, upper_nil]; exact hs
  have hl : 0 < (upper a).length := List.length_pos_iff.2 hne
  have h8 : 8 ≤ (natMo a).size := by rw [natMo_size]; omega
  have hm : (natMo a).size ≤ 1099511627776 := by rw [natMo_size]; omega
  have hw1 : IntKind.i64.wrap (8 * ((natMo a).size : Int)) = 8 * ((natMo a).size : Int) := IntWalk.i64_in _ (by omega)
  have hw2 : IntKind.i64.wrap (((natMo a).size : Int) - 8) = ((natMo a).size : Int) - 8 := IntWalk.i64_in _ (by omega)
  have hw3 : (((natMo a).size : Int) - 8).toNat = (natMo a).size - 8 := by omega
  have hw4 : (8 : Int) ≤ ((natMo a).size : Int) := by omega
  have hw5 : ((natMo a).size : Int) - 8 ≤ ((natMo a).size : Int) := by omega
  have hgl : topWord a < 18446744073709551616 := by
    rw [topWord, List.getLastD_eq_getLast?, List.getLast?_eq_getElem?, List.getElem?_eq_getElem (by omega)]
    exact dig_upper a _ (List.getElem_mem _)
  have hw6 : IntKind.i64.wrap (8 * ((natMo a).size : Int) + (bl (topWord a) : Int)) = 8 * ((natMo a).size : Int) + (bl (topWord a) : Int) := IntWalk.i64_in _ (by have := bl_small hgl; omega)
  have hfin : (8 * ((natMo a).size : Int) + (bl (topWord a) : Int)) = (bl a : Int) := by
    obtain ⟨x, hx, _, hbl⟩ := bl_words (Nat.le_of_not_lt hs)
    rw [natMo_size, topWord, List.getLastD_eq_getLast?, hx, hbl]
    simp only [Option.getD_some]
    omega
  have Hfin := Lib.hid hfin
  clear hub hl hfin
  go_enter Tryz.func119, Tryz.ntmps119
  refine wp_seq (Code.wp_mono NoP.up (wp_region_lit ?_))
  go_wp2_with fail
  generalize hu : World.alloc w _ = u
  obtain ⟨hB, hG⟩ := bx_first [(_, _)] w u hu
  have hF := fr_first w [(45, #[])]
  simp only [numbered, List.map_cons, List.map_nil] at hB hF
  clear hu
  generalize w.heap.size = b1 at hB hF ⊢
  refine NoP.norm ?_
  refine then_norm ?_
  refine wp_seq ?_
  refine wp_seq ?_
  refine wp_region_bs (w := w) allocs 3 [0, 0, 0] (by kernel_rfl) hB hG ?_
  simp only [List.zip_cons_cons, List.zip_nil_left]
  (apply gy
   · exact rfl
   · (rintro v - N hN; go_simp; exact hN))
  (apply gy
   · exact rfl
   · (rintro v ⟨-, hB, hG⟩ N hN; have r := hB.r; simp only [BxR] at r; go_simp; exact hN))
  (apply gy
   · exact rfl
   · (rintro v - N hN; go_simp; exact hN))
  refine gend ?_
  rintro v ⟨-, hB1, hG1⟩
  clear hB hG
  have hB := hB1
  have hG := hG1
  clear hB1 hG1
  simp only [List.drop_succ_cons, List.drop_nil]
  refine wpList_nil ?_
  refine NoP.norm ?_
  refine then_norm ?_
  refine wp_cond_split rfl ?_ ?_
  · intro ht
    cases ht
  · intro ht
    refine wp_skip ?_
    refine then_norm ?_
    refine wp_seq ?_
    refine wp_region_bx (w := w) allocs 14 [(0, 0), (0, 1), (0, 2), (0, 3), (0, 4), (0, 5), (0, 6), (0, 7), (0, 8), (0, 9), (0, 10), (1, 11), (1, 12), (0, 13)] (by kernel_rfl) (by kernel_rfl) hB hG ?_
    simp only [pickOps, List.getElem?_toArray, List.getElem?_cons_zero, List.getElem?_cons_succ]
    (apply gy
     · exact rfl
     · (rintro v - N hN; go_simp; exact hN))
    (apply gy
     · exact rfl
     · (rintro v ⟨-, hB, hG⟩ N hN; have r := hB.r; simp only [BxR] at r; go_simp; exact hN))
    (apply gy
     · exact rfl
     · (rintro v - N hN; go_simp; exact hN))
    (apply gy
     · exact rfl
     · (rintro v - N hN; go_simp; exact hN))
    (apply gy
     · exact rfl
     · (rintro v - N hN; go_simp; exact hN))
    (apply gy
     · exact rfl
     · (rintro v ⟨-, hB, hG⟩ N hN; have r := hB.r; simp only [BxR] at r; go_simp; exact hN))
    (apply gy
     · exact rfl
     · (rintro v - N hN; go_simp; exact hN))
    (apply gy
     · exact rfl
     · (rintro v ⟨-, hB, hG⟩ N hN; have r := hB.r; simp only [BxR] at r; go_simp; exact hN))
    (apply gy
     · exact rfl
     · (rintro v - N hN; go_simp; exact hN))
    (apply gy
     · exact rfl
     · (rintro v - N hN; go_simp; exact hN))
    (apply gy
     · exact rfl
     · (rintro v - N hN; go_simp; exact hN))
    (apply gm
     · exact rfl
     · (rintro v - N hN; go_simp; ((with_reducible refine (last_word a hs _ (Lib.extract_to_end _ _) _).mono ?_); rintro e w1 ⟨rfl, hb⟩; exact ⟨_, rfl, hN _ hb⟩)))
    (apply gm
     · exact rfl
     · (rintro v - N hN; go_simp; ((with_reducible refine (bits_Len64 _ _ (by omega) (by omega)).mono ?_); rintro e w1 ⟨rfl, hb⟩; exact ⟨_, rfl, hN _ hb⟩)))
    (apply gy
     · exact rfl
     · (rintro v - N hN; go_simp; exact hN))
    refine gend ?_
    rintro v ⟨-, hB1, hG1⟩
    clear hB hG
    have hB := hB1
    have hG := hG1
    clear hB1 hG1
    simp only [List.drop_succ_cons, List.drop_zero]
    go_wp2_with fail
    refine NoP.norm ?_
    refine then_norm ?_
    refine ret_k rfl ?_
    intro N hN
    have r := hB.r
    simp only [BxR] at r
    simp only [results, Tryz.results119]
    go_simp
    refine hN _ ?_
    clear hN N r
    refine And.intro ?_ hG
    rw [Hfin.out]
--! nat_Bits = nat_Bits _ SIDE _
theorem nat_Bits (a : Nat) (ha : bl a ≤ 1099511627776) (w : World) : Calls Tryz.prog 119 #[natV a] w fun e w' => e = .returned (.int .i64 (bl a)) ∧ Grow w w' := by
 by_cases hs : a < W64
 ·exact nat_Bits_small a hs w
 ·exact nat_Bits_big a hs ha w
set_option maxHeartbeats 400000 in
theorem nat_Small (a : Nat) (w : World) : Calls Tryz.prog 178 #[natV a] w fun e w' => e = .returned (if a < W64 then .tuple #[.int .u64 (a : Nat), .bool true] else .tuple #[.int .u64 0, .bool false]) ∧ Grow w w' := by
 by_cases hs : a < W64
 ·have hE : (natMo a).toList.isEmpty = true := by rw [natMo_isEmpty]; simpa using hs
  rw [if_pos hs]
  go_enter Tryz.func178, Tryz.ntmps178
  go_wp2
  go_ret2
  refine ⟨?_, Grow.alloc w _⟩
  rw [← natLo_small hs]
  rfl
 ·have hE : (natMo a).toList.isEmpty = false := by rw [natMo_isEmpty]; simpa using hs
  rw [if_neg hs]
  go_enter Tryz.func178, Tryz.ntmps178
  go_wp2
  go_ret2
  exact ⟨rfl, Grow.alloc w _⟩
end Go.Proofs.YtjmopgepnndckaaGreatDoor
