/- Merged by a program of this session (wip/gprint/merge.py): what this claim needs of this session's texts, each part as it was. -/
import Derived.Test.YtkbimiimgcklaaaDoorAllBoardSquares26
namespace Go.Proofs.YtkbimiimgcklaaaDoor.Print
end Go.Proofs.YtkbimiimgcklaaaDoor.Print
namespace Go.Proofs.YtkbimiimgcklaaaDoor.Pure
end Go.Proofs.YtkbimiimgcklaaaDoor.Pure

-- of YtkbimiimgcklaaaDoorPureBoardSquares
namespace Go.Proofs.YtkbimiimgcklaaaDoor.Pure
open Go.RowKit Go.Proofs.YtkbimiimgcklaaaDoor.Print Go.Proofs.YtkbimiimgcklaaaDoorW.PrintWords Go.Proofs.YtkbimiimgcklaaaDoorW.PrintLast
set_option maxRecDepth 100000 in
theorem squares_all : (List.range 90).all (fun n => (List.range 90).all fun m => decide (riverbanklaw02_BoardSquares.f 9 (n : Int) (m : Int) = some true)) = true := by decide +kernel
theorem BoardSquares : riverbanklaw02_BoardSquares.Pure := by
  intro a0 a1 _ _
  refine ⟨9, ?_⟩
  by_cases c0 : a0 < 0
  · unfold riverbanklaw02_BoardSquares.f
    rw [if_pos c0]; rfl
  by_cases c1 : a0 > 89
  · unfold riverbanklaw02_BoardSquares.f
    rw [if_neg c0, if_pos c1]; rfl
  by_cases c2 : a1 < 0
  · unfold riverbanklaw02_BoardSquares.f
    rw [if_neg c0, if_neg c1, if_pos c2]; rfl
  by_cases c3 : a1 > 89
  · unfold riverbanklaw02_BoardSquares.f
    rw [if_neg c0, if_neg c1, if_neg c2, decide_eq_true c3]; rfl
  obtain ⟨n, rfl⟩ : ∃ n : Nat, a0 = n := ⟨a0.toNat, by omega⟩
  obtain ⟨m, rfl⟩ : ∃ m : Nat, a1 = m := ⟨a1.toNat, by omega⟩
  have h := List.all_eq_true.1 squares_all n (List.mem_range.2 (by omega))
  have h2 := List.all_eq_true.1 h m (List.mem_range.2 (by omega))
  exact of_decide_eq_true h2
end Go.Proofs.YtkbimiimgcklaaaDoor.Pure
