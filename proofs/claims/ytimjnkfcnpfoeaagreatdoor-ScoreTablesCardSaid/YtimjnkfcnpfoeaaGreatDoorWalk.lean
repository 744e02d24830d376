/-
  Small laws of the walk: what stands behind a block's end, an exit, a return; the size up to which divisions are told.
-/
import Derived.Test.YtimjnkfcnpfoeaaGreatDoorNatH
namespace Go.Proofs.YtimjnkfcnpfoeaaGreatDoor
open Go.RowKit
section
variable {P : Program} {Q : Exit → Act → World → Prop} {n : Act → World → Prop} {a : Act} {w : World}
theorem then_exit {id : Nat} (h : Q (.exit id) a w) : Exit.then n Q (.exit id) a w := h
theorem then_ret (h : Q .ret a w) : Exit.then n Q .ret a w := h
theorem blk_norm {id : Nat} (h : Q .normal a w) : Exit.inBlock id Q .normal a w := h
theorem blk_ret {id : Nat} (h : Q .ret a w) : Exit.inBlock id Q .ret a w := h
theorem blk_exit {id : Nat} (h : Q .normal a w) : Exit.inBlock id Q (.exit id) a w := by
  show (if id = id then Q .normal a w else _)
  rw [if_pos rfl]; exact h
theorem blk_pass {id j : Nat} (hj : j ≠ id) (h : Q (.exit j) a w) : Exit.inBlock id Q (.exit j) a w := by
  show (if j = id then _ else Q (.exit j) a w)
  rw [if_neg hj]; exact h
theorem ret_b {fn : Func} {R : Ending → World → Prop} (hd : a.defers = []) (h : ∀ N : Value → Prop, (∀ v, R (.returned v) w → N v) → ResUpon w N ((results fn a.tmps).run P w)) : bodyPost P fn R .ret a w := by
  have h1 := h (fun v => R (.returned v) w) (fun v hv => hv)
  revert h1
  cases hres : (results fn a.tmps).run P w with
  | ok v w' =>
    rintro ⟨rfl, hv⟩
    exact bodyPost_ret hres hd hv
  | halt x w' => exact fun h => (h : False).elim
end
/-- the size in bits up to which divisions are told -/
def BIG : Nat := 64
theorem BIG_le : BIG ≤ 1099511627776 := by decide
theorem fits_small {a : Nat} (h : bl a ≤ BIG) : a < W64 := by
  have := bl_le.1 h
  rw [W64_pow]; exact this
theorem fits_most {a : Nat} (h : bl a ≤ BIG) : bl a ≤ 1099511627776 := Nat.le_trans h BIG_le
end Go.Proofs.YtimjnkfcnpfoeaaGreatDoor
