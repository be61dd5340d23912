/- Merged by a program of this session (wip/gprint/merge.py): what this claim needs of this session's texts, each part as it was. -/
import Derived.Test.YtkbimiimgcklaaaDoorAllBitsBack5
import Derived.Test.YtkbimiimgcklaaaDoorAllBitsBack7
import Derived.Test.YtkbimiimgcklaaaDoorAllBitsBack11
import Derived.Test.YtkbimiimgcklaaaDoorAllBitsBack9
import Derived.Test.YtkbimiimgcklaaaDoorAllBitsBack13
import Derived.Test.YtkbimiimgcklaaaDoorAllBitsBack21
import Derived.Test.YtkbimiimgcklaaaDoorAllBitsBack22
import Derived.Test.YtkbimiimgcklaaaDoorAllBitsBack23
import Derived.Test.YtkbimiimgcklaaaDoorAllBitsBack15
import Derived.Test.YtkbimiimgcklaaaDoorAllBitsBack10
import Derived.Test.YtkbimiimgcklaaaDoorAllBitsBack19
namespace Go.Proofs.YtkbimiimgcklaaaDoor.BitMath
end Go.Proofs.YtkbimiimgcklaaaDoor.BitMath
namespace Go.Proofs.YtkbimiimgcklaaaDoor.Print
end Go.Proofs.YtkbimiimgcklaaaDoor.Print
namespace Go.Proofs.YtkbimiimgcklaaaDoor.SetMath
end Go.Proofs.YtkbimiimgcklaaaDoor.SetMath

-- of YtkbimiimgcklaaaDoorSetMathSix
/- The document's Shift, Between, List, Put, Of; how many squares a set has, whether one, which last. -/
namespace Go.Proofs.YtkbimiimgcklaaaDoor.SetMath
open Go.RowKit Go.Proofs.YtkbimiimgcklaaaDoor.Print Go.Proofs.YtkbimiimgcklaaaDoor.BitMath Go.Proofs.YtkbimiimgcklaaaDoorW.PrintWords Go.Proofs.YtkbimiimgcklaaaDoorW.PrintLast Go.Proofs.YtkbimiimgcklaaaDoorW.PrintMore
theorem tl_lt (p : Nat → Bool) (i : Int) (h : i < 90) : i < ((tl p).length : Int) := by rw [tl_length]; omega
theorem Square_f (n : Int) : riverbankref01_Square.f n = some (decide (0 ≤ n ∧ n < 90)) := by
  unfold riverbankref01_Square.f
  by_cases c : n ≥ 0
  · rw [if_pos c]; congr 1; exact decide_eq_decide.2 (by omega)
  · rw [if_neg c, decide_eq_false (by omega)]
end Go.Proofs.YtkbimiimgcklaaaDoor.SetMath
