/- Merged by a program of this session (wip/gprint/merge.py): what this claim needs of this session's texts, each part as it was. -/
import Derived.Test.YtkbimiimgcklaaaDoorAllPlaceTurn10
import Derived.Test.YtkbimiimgcklaaaDoorAllPlaceTurn11
import Derived.Test.YtkbimiimgcklaaaDoorAllPlaceTurn24
namespace Go.Proofs.YtkbimiimgcklaaaDoor.BitMath
end Go.Proofs.YtkbimiimgcklaaaDoor.BitMath
namespace Go.Proofs.YtkbimiimgcklaaaDoor.Print
end Go.Proofs.YtkbimiimgcklaaaDoor.Print
namespace Go.Proofs.YtkbimiimgcklaaaDoor.SetMath
end Go.Proofs.YtkbimiimgcklaaaDoor.SetMath

-- of YtkbimiimgcklaaaDoorSetMathThree
/- What the document's sets (lists of truths) are: each answer, square by square. -/
namespace Go.Proofs.YtkbimiimgcklaaaDoor.SetMath
open Go.RowKit Go.Proofs.YtkbimiimgcklaaaDoor.Print Go.Proofs.YtkbimiimgcklaaaDoor.BitMath Go.Proofs.YtkbimiimgcklaaaDoorW.PrintWords Go.Proofs.YtkbimiimgcklaaaDoorW.PrintLast Go.Proofs.YtkbimiimgcklaaaDoorW.PrintMore

/-- A list of 90 truths. -/
def tl (p : Nat → Bool) : List Bool := (List.range 90).map p
theorem tl_length (p : Nat → Bool) : (tl p).length = 90 := by simp [tl]
theorem tl_congr {p q : Nat → Bool} (h : ∀ n, n < 90 → p n = q n) : tl p = tl q := List.map_congr_left (fun n hn => h n (List.mem_range.1 hn))
theorem tl_set (p : Nat → Bool) (i : Nat) (b : Bool) : (tl p).set i b = tl (fun j => if j = i then b else p j) := by
  apply List.ext_getElem
  · simp [tl]
  · intro n h1 h2
    rw [List.getElem_set]
    simp only [tl, List.getElem_map, List.getElem_range]
    by_cases c : i = n
    · rw [if_pos c, if_pos c.symm]
    · rw [if_neg c, if_neg (fun e => c e.symm)]
end Go.Proofs.YtkbimiimgcklaaaDoor.SetMath
