/-
  Contracts: math/bits at a word; nat.word, nat.cmpWord, nat.Of, Nat.Small, Nat.Bits.
-/
import Derived.Test.YtimjnkfcnpfoeaaGreatDoorVals
import Derived.Test.YtimjnkfcnpfoeaaGreatDoorShelf
import Derived.Test.YtimjnkfcnpfoeaaGreatDoorProg
import Derived.WalkKit
import Derived.WalkSpells
import Derived.WalkLawsBesides
import Derived.Deep.QuietTactic
import Derived.BigQuiet
import Derived.Lib.EndianBits
import Derived.Lib.Hide
import Derived.Lib.IndexBytes
namespace Go.Proofs.YtimjnkfcnpfoeaaGreatDoor
open Go.RowKit

theorem newObj_Nat (d : Option Tmp) (ty : TypeId) (pos : String) (af : Array Edge) (gd : Option (Nat × Bool)) : newObj Tryz.prog ⟨d, .alloc 28, ty, pos, af, gd⟩ = .cells #[.int .u64 0, .string ⟨#[]⟩] 28 := by kernel_rfl
theorem newObj_Int (d : Option Tmp) (ty : TypeId) (pos : String) (af : Array Edge) (gd : Option (Nat × Bool)) : newObj Tryz.prog ⟨d, .alloc 30, ty, pos, af, gd⟩ = .cells #[.bool false, .int .u64 0, .string ⟨#[]⟩] 30 := by kernel_rfl
theorem newObj_Q (d : Option Tmp) (ty : TypeId) (pos : String) (af : Array Edge) (gd : Option (Nat × Bool)) : newObj Tryz.prog ⟨d, .alloc 32, ty, pos, af, gd⟩ = .cells #[.bool false, .int .u64 0, .string ⟨#[]⟩, .int .u64 0, .string ⟨#[]⟩] 32 := by kernel_rfl
theorem allocs : ∀ t ∈ [28, 30, 32], AllocT Tryz.prog t := by
  intro t ht
  simp only [List.mem_cons, List.not_mem_nil, or_false] at ht
  rcases ht with rfl | rfl | rfl
  · exact fun _ _ _ _ _ _ => by rw [newObj_Nat]; kernel_rfl
  · exact fun _ _ _ _ _ _ => by rw [newObj_Int]; kernel_rfl
  · exact fun _ _ _ _ _ _ => by rw [newObj_Q]; kernel_rfl

theorem grow_of_eq {w w' : World} (h : w' = w) : Grow w w' := h ▸ Grow.refl _
--! bits_Len64 = bits_Len64 _ _ SIDE SIDE
theorem bits_Len64 (x : Int) (w : World) (h0 : 0 ≤ x) (h1 : x < 18446744073709551616) : Calls Tryz.prog 152 #[.int .u64 x] w fun e w' => e = .returned (.int .i64 (bl x.toNat)) ∧ Grow w w' :=
  (Tryz.bits_Len64 x w h0 (by omega)).mono fun e w' ⟨he, hw⟩ => ⟨by rw [he, bitLen_eq _ (by omega)], grow_of_eq hw⟩

theorem take8 : ∀ (l : List UInt8) (h : 8 ≤ l.length), l.take 8 = [l[0], l[1], l[2], l[3], l[4], l[5], l[6], l[7]]
  | _ :: _ :: _ :: _ :: _ :: _ :: _ :: _ :: _, _ => rfl
theorem leNat_lin (a b c d e f g h : Nat) : ((a + 256 * (b + 256 * (c + 256 * (d + 256 * (e + 256 * (f + 256 * (g + 256 * (h + 256 * 0))))))) : Nat) : Int) =
    (a : Int) + (b : Int) * 256 + (c : Int) * 65536 + (d : Int) * 16777216 + (e : Int) * 4294967296 + (f : Int) * 1099511627776 + (g : Int) * 281474976710656 + (h : Int) * 72057594037927936 := by omega
theorem leNat8 (s : ByteArray) (hs : 8 ≤ s.size) : ((Lib.leNat (s.data.toList.take 8) : Nat) : Int) = (s[0].toNat : Int) + (s[1].toNat : Int) * 256 + (s[2].toNat : Int) * 65536 + (s[3].toNat : Int) * 16777216 + (s[4].toNat : Int) * 4294967296 + (s[5].toNat : Int) * 1099511627776 + (s[6].toNat : Int) * 281474976710656 + (s[7].toNat : Int) * 72057594037927936 := by
  rw [take8 s.data.toList (by simpa using hs)]
  exact leNat_lin s[0].toNat s[1].toNat s[2].toNat s[3].toNat s[4].toNat s[5].toNat s[6].toNat s[7].toNat
set_option maxHeartbeats 2000000 in
set_option maxRecDepth 100000 in
theorem nat_word (s : ByteArray) (hs : 8 ≤ s.size) (w : World) :
    Calls Tryz.prog 153 #[.string s] w fun e w' => e = .returned (.int .u64 (Lib.leNat (s.data.toList.take 8))) ∧ ∃ n, w' = w.drewN n := by
  have q0 : 0 < s.size := by omega
  have q1 : (1 : Int) < (s.size : Int) := by omega
  have q2 : (2 : Int) < (s.size : Int) := by omega
  have q3 : (3 : Int) < (s.size : Int) := by omega
  have q4 : (4 : Int) < (s.size : Int) := by omega
  have q5 : (5 : Int) < (s.size : Int) := by omega
  have q6 : (6 : Int) < (s.size : Int) := by omega
  have q7 : (7 : Int) < (s.size : Int) := by omega
  go_enter Tryz.func153, Tryz.ntmps153
  go_wp2
  go_quiet (fail)
  go_wp2
  go_ret
  refine ⟨congrArg (fun n => Ending.returned (.int .u64 n)) ?_, _, rfl⟩
  rw [leNat8 s hs]
  have h0 := s[0].toNat_lt
  have h1 := s[1].toNat_lt
  have h2 := s[2].toNat_lt
  have h3 := s[3].toNat_lt
  have h4 := s[4].toNat_lt
  have h5 := s[5].toNat_lt
  have h6 := s[6].toNat_lt
  have h7 := s[7].toNat_lt
  simp (disch := omega) only [u64_wrap_id, u64_or8, u64_or16, u64_or24, u64_or32, u64_or40, u64_or48, u64_or56]
  rfl
theorem grow_drewN (w : World) (n : Nat) : Grow w (w.drewN n) := ⟨rfl, rfl, rfl, Nat.le_refl _, fun _ _ => rfl⟩
/-- the word at place i of the bytes above -/
theorem word_at (a i : Nat) (hi : i < (upper a).length) (s : ByteArray) (hs : s.data.toList = (natMo a).data.toList.drop (8 * i)) (w : World) :
    Calls Tryz.prog 153 #[.string s] w fun e w' => e = .returned (.int .u64 ((upper a)[i] : Nat)) ∧ Grow w w' := by
  have hsz : 8 ≤ s.size := by
    have h1 : s.size = s.data.toList.length := by show s.data.size = _; simp
    have h2 : (natMo a).data.toList.length = (natMo a).size := by show _ = (natMo a).data.size; simp
    rw [h1, hs, List.length_drop, h2, natMo_size]; omega
  refine (nat_word s hsz w).mono fun e w' ⟨he, n, hw⟩ => ⟨?_, hw ▸ grow_drewN w n⟩
  rw [he, hs, natMo_word a i hi]

set_option maxHeartbeats 400000 in
--! nat_cmpWord = nat_cmpWord _ _ _
theorem nat_cmpWord (x y : Nat) (w : World) : Calls Tryz.prog 156 #[.int .u64 x, .int .u64 y] w fun e w' => e = .returned (.int .i64 (cmpN x y)) ∧ Grow w w' := by
  by_cases h : x < y
  · rw [cmpN_lt h]
    go_enter Tryz.func156, Tryz.ntmps156
    go_wp2
    go_ret
    exact ⟨rfl, Grow.refl _⟩
  · by_cases h' : y < x
    · rw [cmpN_gt h']
      go_enter Tryz.func156, Tryz.ntmps156
      go_wp2
      go_ret
      exact ⟨rfl, Grow.refl _⟩
    · rw [cmpN_eq (show x = y by omega)]
      go_enter Tryz.func156, Tryz.ntmps156
      go_wp2
      go_ret
      exact ⟨rfl, Grow.refl _⟩

set_option maxHeartbeats 400000 in
--! nat_Of = nat_Of _ SIDE _
theorem nat_Of (a : Nat) (ha : a < W64) (w : World) : Calls Tryz.prog 125 #[.int .u64 a] w fun e w' => e = .returned (natV a) ∧ Grow w w' := by
  go_enter Tryz.func125, Tryz.ntmps125
  refine wp_seq (Code.wp_mono NoP.up (wp_region_lit ?_))
  go_wp2_with fail
  generalize hu : World.alloc w _ = u
  obtain ⟨hB, hG⟩ := bx_first [(_, _)] w u hu
  have hF := fr_first w [(28, #[])]
  simp only [numbered, List.map_cons, List.map_nil] at hB hF
  clear hu
  generalize w.heap.size = b2 at hB hF ⊢
  refine NoP.norm ?_
  refine then_norm ?_
  refine wp_seq ?_
  refine wp_region_bs (w := w) allocs 2 [0, 0] (by kernel_rfl) hB hG ?_
  simp only [List.zip_cons_cons, List.zip_nil_left]
  (apply gy
   · exact rfl
   · (rintro v - N hN; go_simp; exact hN))
  (apply gy
   · exact rfl
   · (rintro v - N hN; go_simp; exact hN))
  refine gend ?_
  rintro v ⟨-, hB1, hG1⟩
  clear hB hG
  have hB := hB1
  have hG := hG1
  clear hB1 hG1
  simp only [List.drop_succ_cons, List.drop_zero]
  have r := hB.r
  simp only [BxR] at r
  go_wp2_with fail
  clear r
  generalize hu0 : World.setCell (World.setCell v _ _) _ _ = u0
  have hBG := hB.over hF hG 0 rfl 0 [_, _] hu0
  clear hB hG hu0
  simp only [List.modify_zero_cons, wrAll, List.setIfInBounds_toArray, List.set_cons_zero, List.set_cons_succ, Nat.zero_add] at hBG
  obtain ⟨hB, hG⟩ := hBG
  clear v
  obtain ⟨u, rfl⟩ : ∃ x, x = u0 := ⟨_, rfl⟩
  refine NoP.norm ?_
  refine then_norm ?_
  refine ret_k rfl ?_
  intro N hN
  have r := hB.r
  simp only [BxR] at r
  simp only [results, Tryz.results125]
  go_simp
  refine hN _ ?_
  clear hN N r
  refine And.intro ?_ hG
  rw [natV, natLo_small ha, natMo_small ha]

set_option maxHeartbeats 400000 in
theorem nat_Bits_small (a : Nat) (hs : a < W64) (w : World) : Calls Tryz.prog 119 #[natV a] w fun e w' => e = .returned (.int .i64 (bl a)) ∧ Grow w w' := by
  have hE : (natMo a).toList.isEmpty = true := by rw [natMo_isEmpty]; simpa using hs
  have hlo := natLo_nonneg a
  have hhi := natLo_lt a
  go_enter Tryz.func119, Tryz.ntmps119
  go_wp2_with (go_at_call 152; refine (bits_Len64 _ _ hlo hhi).mono ?_; rintro e w1 ⟨rfl, hb⟩)
  go_ret
  refine ⟨?_, (Grow.alloc w _).trans hb⟩
  simp only [natLo_toNat, Nat.mod_eq_of_lt hs]
  rfl

/-- the highest word -/
def topWord (a : Nat) : Nat := (upper a).getLastD 0
theorem last_word (a : Nat) (hs : ¬ a < W64) (s : ByteArray) (hsl : s.data.toList = (natMo a).data.toList.drop ((natMo a).size - 8)) (w : World) :
    Calls Tryz.prog 153 #[.string s] w fun e w' => e = .returned (.int .u64 (topWord a : Nat)) ∧ Grow w w' := by
  have hne : upper a ≠ [] := by rw [Ne, upper_nil]; exact hs
  have hl : 0 < (upper a).length := List.length_pos_iff.2 hne
  have h8 : (natMo a).size - 8 = 8 * ((upper a).length - 1) := by rw [natMo_size]; omega
  refine (word_at a ((upper a).length - 1) (by omega) s (by rw [hsl, h8]) w).mono fun e w' ⟨he, hg⟩ => ⟨?_, hg⟩
  rw [he, topWord, List.getLastD_eq_getLast?, List.getLast?_eq_getElem?, List.getElem?_eq_getElem (by omega)]
  rfl

set_option maxHeartbeats 1000000 in
theorem nat_Bits_big (a : Nat) (hs : ¬ a < W64) (ha : bl a ≤ 1099511627776) (w : World) : Calls Tryz.prog 119 #[natV a] w fun e w' => e = .returned (.int .i64 (bl a)) ∧ Grow w w' := by
  have hE : (natMo a).toList.isEmpty = false := by rw [natMo_isEmpty]; simpa using hs
  have hub := upper_bits a
  have hne : upper a ≠ [] := by rw [Ne, upper_nil]; exact hs
  have hl : 0 < (upper a).length := List.length_pos_iff.2 hne
  have h8 : 8 ≤ (natMo a).size := by rw [natMo_size]; omega
  have hm : (natMo a).size ≤ 1099511627776 := by rw [natMo_size]; omega
  have hw1 : IntKind.i64.wrap (8 * ((natMo a).size : Int)) = 8 * ((natMo a).size : Int) := IntWalk.i64_in _ (by omega)
  have hw2 : IntKind.i64.wrap (((natMo a).size : Int) - 8) = ((natMo a).size : Int) - 8 := IntWalk.i64_in _ (by omega)
  have hw3 : (((natMo a).size : Int) - 8).toNat = (natMo a).size - 8 := by omega
  have hw4 : (8 : Int) ≤ ((natMo a).size : Int) := by omega
  have hw5 : ((natMo a).size : Int) - 8 ≤ ((natMo a).size : Int) := by omega
  have hgl : topWord a < 18446744073709551616 := by
    rw [topWord, List.getLastD_eq_getLast?, List.getLast?_eq_getElem?, List.getElem?_eq_getElem (by omega)]
    exact dig_upper a _ (List.getElem_mem _)
  have hw6 : IntKind.i64.wrap (8 * ((natMo a).size : Int) + (bl (topWord a) : Int)) = 8 * ((natMo a).size : Int) + (bl (topWord a) : Int) := IntWalk.i64_in _ (by have := bl_small hgl; omega)
  have hfin : (8 * ((natMo a).size : Int) + (bl (topWord a) : Int)) = (bl a : Int) := by
    obtain ⟨x, hx, _, hbl⟩ := bl_words (Nat.le_of_not_lt hs)
    rw [natMo_size, topWord, List.getLastD_eq_getLast?, hx, hbl]
    simp only [Option.getD_some]
    omega
  have Hfin := Lib.hid hfin
  clear hub hl hfin
  go_enter Tryz.func119, Tryz.ntmps119
  refine wp_seq (Code.wp_mono NoP.up (wp_region_lit ?_))
  go_wp2_with fail
  generalize hu : World.alloc w _ = u
  obtain ⟨hB, hG⟩ := bx_first [(_, _)] w u hu
  have hF := fr_first w [(28, #[])]
  simp only [numbered, List.map_cons, List.map_nil] at hB hF
  clear hu
  generalize w.heap.size = b1 at hB hF ⊢
  refine NoP.norm ?_
  refine then_norm ?_
  refine wp_seq ?_
  refine wp_seq ?_
  refine wp_region_bs (w := w) allocs 3 [0, 0, 0] (by kernel_rfl) hB hG ?_
  simp only [List.zip_cons_cons, List.zip_nil_left]
  (apply gy
   · exact rfl
   · (rintro v - N hN; go_simp; exact hN))
  (apply gy
   · exact rfl
   · (rintro v ⟨-, hB, hG⟩ N hN; have r := hB.r; simp only [BxR] at r; go_simp; exact hN))
  (apply gy
   · exact rfl
   · (rintro v - N hN; go_simp; exact hN))
  refine gend ?_
  rintro v ⟨-, hB1, hG1⟩
  clear hB hG
  have hB := hB1
  have hG := hG1
  clear hB1 hG1
  simp only [List.drop_succ_cons, List.drop_nil]
  refine wpList_nil ?_
  refine NoP.norm ?_
  refine then_norm ?_
  refine wp_cond_split rfl ?_ ?_
  · intro ht
    cases ht
  · intro ht
    refine wp_skip ?_
    refine then_norm ?_
    refine wp_seq ?_
    refine wp_region_bx (w := w) allocs 14 [(0, 0), (0, 1), (0, 2), (0, 3), (0, 4), (0, 5), (0, 6), (0, 7), (0, 8), (0, 9), (0, 10), (1, 11), (1, 12), (0, 13)] (by kernel_rfl) (by kernel_rfl) hB hG ?_
    simp only [pickOps, List.getElem?_toArray, List.getElem?_cons_zero, List.getElem?_cons_succ]
    (apply gy
     · exact rfl
     · (rintro v - N hN; go_simp; exact hN))
    (apply gy
     · exact rfl
     · (rintro v ⟨-, hB, hG⟩ N hN; have r := hB.r; simp only [BxR] at r; go_simp; exact hN))
    (apply gy
     · exact rfl
     · (rintro v - N hN; go_simp; exact hN))
    (apply gy
     · exact rfl
     · (rintro v - N hN; go_simp; exact hN))
    (apply gy
     · exact rfl
     · (rintro v - N hN; go_simp; exact hN))
    (apply gy
     · exact rfl
     · (rintro v ⟨-, hB, hG⟩ N hN; have r := hB.r; simp only [BxR] at r; go_simp; exact hN))
    (apply gy
     · exact rfl
     · (rintro v - N hN; go_simp; exact hN))
    (apply gy
     · exact rfl
     · (rintro v ⟨-, hB, hG⟩ N hN; have r := hB.r; simp only [BxR] at r; go_simp; exact hN))
    (apply gy
     · exact rfl
     · (rintro v - N hN; go_simp; exact hN))
    (apply gy
     · exact rfl
     · (rintro v - N hN; go_simp; exact hN))
    (apply gy
     · exact rfl
     · (rintro v - N hN; go_simp; exact hN))
    (apply gm
     · exact rfl
     · (rintro v - N hN; go_simp; ((with_reducible refine (last_word a hs _ (Lib.extract_to_end _ _) _).mono ?_); rintro e w1 ⟨rfl, hb⟩; exact ⟨_, rfl, hN _ hb⟩)))
    (apply gm
     · exact rfl
     · (rintro v - N hN; go_simp; ((with_reducible refine (bits_Len64 _ _ (by omega) (by omega)).mono ?_); rintro e w1 ⟨rfl, hb⟩; exact ⟨_, rfl, hN _ hb⟩)))
    (apply gy
     · exact rfl
     · (rintro v - N hN; go_simp; exact hN))
    refine gend ?_
    rintro v ⟨-, hB1, hG1⟩
    clear hB hG
    have hB := hB1
    have hG := hG1
    clear hB1 hG1
    simp only [List.drop_succ_cons, List.drop_zero]
    go_wp2_with fail
    refine NoP.norm ?_
    refine then_norm ?_
    refine ret_k rfl ?_
    intro N hN
    have r := hB.r
    simp only [BxR] at r
    simp only [results, Tryz.results119]
    go_simp
    refine hN _ ?_
    clear hN N r
    refine And.intro ?_ hG
    rw [Hfin.out]
--! nat_Bits = nat_Bits _ SIDE _
theorem nat_Bits (a : Nat) (ha : bl a ≤ 1099511627776) (w : World) : Calls Tryz.prog 119 #[natV a] w fun e w' => e = .returned (.int .i64 (bl a)) ∧ Grow w w' := by
  by_cases hs : a < W64
  · exact nat_Bits_small a hs w
  · exact nat_Bits_big a hs ha w

set_option maxHeartbeats 400000 in
theorem nat_Small (a : Nat) (w : World) : Calls Tryz.prog 124 #[natV a] w fun e w' => e = .returned (if a < W64 then .tuple #[.int .u64 (a : Nat), .bool true] else .tuple #[.int .u64 0, .bool false]) ∧ Grow w w' := by
  by_cases hs : a < W64
  · have hE : (natMo a).toList.isEmpty = true := by rw [natMo_isEmpty]; simpa using hs
    rw [if_pos hs]
    go_enter Tryz.func124, Tryz.ntmps124
    go_wp2
    go_ret2
    refine ⟨?_, Grow.alloc w _⟩
    rw [← natLo_small hs]
    rfl
  · have hE : (natMo a).toList.isEmpty = false := by rw [natMo_isEmpty]; simpa using hs
    rw [if_neg hs]
    go_enter Tryz.func124, Tryz.ntmps124
    go_wp2
    go_ret2
    exact ⟨rfl, Grow.alloc w _⟩
end Go.Proofs.YtimjnkfcnpfoeaaGreatDoor
