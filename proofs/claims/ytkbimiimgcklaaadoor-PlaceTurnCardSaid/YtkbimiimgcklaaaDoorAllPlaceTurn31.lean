/- Merged by a program of this session (wip/gprint/merge.py): what this claim needs of this session's texts, each part as it was. -/
import Derived.Test.YtkbimiimgcklaaaDoorAllPlaceTurn7
import Derived.Test.YtkbimiimgcklaaaDoorAllPlaceTurn10
import Derived.Test.YtkbimiimgcklaaaDoorAllPlaceTurn14
import Derived.Test.YtkbimiimgcklaaaDoorAllPlaceTurn21
import Derived.Test.YtkbimiimgcklaaaDoorAllPlaceTurn11
import Derived.Test.YtkbimiimgcklaaaDoorAllPlaceTurn20
import Derived.Test.YtkbimiimgcklaaaDoorAllPlaceTurn27
import Derived.Test.YtkbimiimgcklaaaDoorAllPlaceTurn5
import Derived.Test.YtkbimiimgcklaaaDoorAllPlaceTurn15
import Derived.Test.YtkbimiimgcklaaaDoorAllPlaceTurn30
import Derived.Test.YtkbimiimgcklaaaDoorAllPlaceTurn25
namespace Go.Proofs.YtkbimiimgcklaaaDoor.BitMath
end Go.Proofs.YtkbimiimgcklaaaDoor.BitMath
namespace Go.Proofs.YtkbimiimgcklaaaDoor.Print
end Go.Proofs.YtkbimiimgcklaaaDoor.Print
namespace Go.Proofs.YtkbimiimgcklaaaDoor.SetMath
end Go.Proofs.YtkbimiimgcklaaaDoor.SetMath

-- of YtkbimiimgcklaaaDoorSetMathSix
/- The document's Shift, Between, List, Put, Of; how many squares a set has, whether one, which last. -/
namespace Go.Proofs.YtkbimiimgcklaaaDoor.SetMath
open Go.RowKit Go.Proofs.YtkbimiimgcklaaaDoor.Print Go.Proofs.YtkbimiimgcklaaaDoor.BitMath Go.Proofs.YtkbimiimgcklaaaDoorW.PrintWords Go.Proofs.YtkbimiimgcklaaaDoorW.PrintLast Go.Proofs.YtkbimiimgcklaaaDoorW.PrintMore
theorem tl_lt (p : Nat → Bool) (i : Int) (h : i < 90) : i < ((tl p).length : Int) := by rw [tl_length]; omega
theorem Square_f (n : Int) : riverbankref01_Square.f n = some (decide (0 ≤ n ∧ n < 90)) := by
  unfold riverbankref01_Square.f
  by_cases c : n ≥ 0
  · rw [if_pos c]; congr 1; exact decide_eq_decide.2 (by omega)
  · rw [if_neg c, decide_eq_false (by omega)]
theorem RPut_f (p : Nat → Bool) (n : Int) (b : Bool) : riverbankref01_Put.f (tl p) n b = some (tl fun i => if (i : Int) = n then b else p i) := by
  unfold riverbankref01_Put.f
  rw [if_pos (by rw [tl_length]; decide), Square_f]
  simp only [Option.bind_some, List.nil_append]
  by_cases c : 0 ≤ n ∧ n < 90
  · rw [if_pos (decide_eq_true c), if_pos c.1, if_pos (tl_lt _ _ c.2), tl_set]
    exact congrArg some (tl_congr fun j hj => by
      by_cases e : j = n.toNat
      · rw [if_pos e, if_pos (by omega)]
      · rw [if_neg e, if_neg (by omega)])
  · rw [if_neg (by rw [decide_eq_false c]; decide)]
    exact congrArg some (tl_congr fun j hj => by rw [if_neg (by omega)])
end Go.Proofs.YtkbimiimgcklaaaDoor.SetMath
