/- Merged by a program of this session (wip/gprint/merge.py): what this claim needs of this session's texts, each part as it was. -/
import Derived.Test.YtkbimiimgcklaaaDoorAllPlaceTurn7
import Derived.Test.YtkbimiimgcklaaaDoorAllPlaceTurn5
namespace Go.Proofs.YtkbimiimgcklaaaDoor.Print
end Go.Proofs.YtkbimiimgcklaaaDoor.Print

-- of YtkbimiimgcklaaaDoorPrint4
-- Written by a program of this session (wip/gprint/gprint.py) over the kit's print; the parts marked GIVEN by hand.
namespace Go.Proofs.YtkbimiimgcklaaaDoor.Print
open Go.RowKit Go.Proofs.YtkbimiimgcklaaaDoorW.PrintWords Go.Proofs.YtkbimiimgcklaaaDoorW.PrintLast Go.Proofs.YtkbimiimgcklaaaDoorW.PrintMore
attribute [local go_sem] max2_int min2_int max_two min_two max_three min_three max_four min_four   -- for this text's walks alone
set_option linter.unusedVariables false
set_option linter.unusedSimpArgs false

/-! GIVEN bits_TrailingZeros64 -/
-- GIVEN math/bits.TrailingZeros64
-- MAKES yes
-- NEEDY yes
-- IMPORT Derived.Test.YtkbimiimgcklaaaDoorShelf
/-- math/bits' table lies as its initialiser lays it. -/
def TabHere (w : World) : Prop := TabAt 0 Lib.deBruijn64tab w
theorem tab_of {w W : World} (h : TabHere w) (hb : Below w.heap.size w W) : TabHere W := fun j hj => pw_cell_below hb (h j hj)
def bits_TrailingZeros64.f (a0 : Int) : Option (Int) := if 0 ≤ a0 ∧ a0 < 18446744073709551616 then some (Lib.ctz 64 a0.toNat : Int) else none
theorem bits_TrailingZeros64.calls (a0 : Int) (r : Int) (w : World) (hT : TabHere w) (h : bits_TrailingZeros64.f a0 = some r) :
    Calls Tryd.prog 91 #[.int .u64 a0] w fun e w' => e = .returned (.int .i64 r) ∧ Below w.heap.size w w' := by
  unfold bits_TrailingZeros64.f at h
  split at h
  case isFalse => cases h
  rename_i hr
  obtain ⟨n, rfl⟩ : ∃ n : Nat, a0 = n := ⟨a0.toNat, by omega⟩
  obtain rfl := Option.some.inj h
  refine (Tryd.bits_TrailingZeros64 n w (by omega) (fun _ => hT)).mono fun e w' ⟨he, hw⟩ => ⟨by rw [he]; simp, by rw [hw]; exact Below.refl _ _⟩

end Go.Proofs.YtkbimiimgcklaaaDoor.Print
