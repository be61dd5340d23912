/- Merged by a program of this session (wip/gprint/merge.py): what this claim needs of this session's texts, each part as it was. -/
import Derived.Test.YtkbimiimgcklaaaDoorAllPlaceMore7
import Derived.Test.YtkbimiimgcklaaaDoorAllPlaceMore11
import Derived.Test.YtkbimiimgcklaaaDoorAllPlaceMore14
import Derived.Test.YtkbimiimgcklaaaDoorAllPlaceMore12
import Derived.Test.YtkbimiimgcklaaaDoorAllPlaceMore18
import Derived.Test.YtkbimiimgcklaaaDoorAllPlaceMore19
import Derived.Test.YtkbimiimgcklaaaDoorAllPlaceMore20
import Derived.Test.YtkbimiimgcklaaaDoorAllPlaceMore22
import Derived.Test.YtkbimiimgcklaaaDoorAllPlaceMore29
import Derived.Test.YtkbimiimgcklaaaDoorAllPlaceMore30
import Derived.Test.YtkbimiimgcklaaaDoorAllPlaceMore27
import Derived.Test.YtkbimiimgcklaaaDoorAllPlaceMore21
import Derived.Test.YtkbimiimgcklaaaDoorAllPlaceMore33
import Derived.Test.YtkbimiimgcklaaaDoorAllPlaceMore8
import Derived.Test.YtkbimiimgcklaaaDoorAllPlaceMore13
import Derived.Test.YtkbimiimgcklaaaDoorAllPlaceMore9
namespace Go.Proofs.YtkbimiimgcklaaaDoor.Print
end Go.Proofs.YtkbimiimgcklaaaDoor.Print

-- of YtkbimiimgcklaaaDoorPrint37
-- Written by a program of this session (wip/gprint/gprint.py) over the kit's print; the parts marked GIVEN by hand.
namespace Go.Proofs.YtkbimiimgcklaaaDoor.Print
open Go.RowKit Go.Proofs.YtkbimiimgcklaaaDoorW.PrintWords Go.Proofs.YtkbimiimgcklaaaDoorW.PrintLast Go.Proofs.YtkbimiimgcklaaaDoorW.PrintMore
attribute [local go_sem] max2_int min2_int max_two min_two max_three min_three max_four min_four   -- for this text's walks alone
set_option linter.unusedVariables false
set_option linter.unusedSimpArgs false

/-! ### riverbankref02_File: function 66 -/
def riverbankref02_File.f (a0 : Int) : Option (Int) := if a0 < 0 then (some (-1)) else (if a0 > 89 then (some (-1)) else (some (Int.tmod a0 9)))
set_option maxHeartbeats 8000000 in
set_option maxRecDepth 100000 in
theorem riverbankref02_File.calls (a0 : Int) (r : Int) (w : World) (h : riverbankref02_File.f a0 = some r) :
    Calls Tryd.prog 66 #[.int .i64 a0] w fun e w' => e = .returned (.int .i64 r) ∧ Drawn0 w w' := by
  have H : (if a0 < 0 then (some (-1)) else (if a0 > 89 then (some (-1)) else (some (Int.tmod a0 9)))) = some r := h
  clear h
  by_cases c2 : a0 < 0
  · rw [if_pos c2] at H
    have c2b0 : decide (a0 < 0) = true := decide_eq_true c2
    clear c2
    obtain rfl := Option.some.inj H
    go_enter Tryd.func66, Tryd.ntmps66
    go_wp2
    go_ret
    exact ⟨by first | rfl | (simp; done) | (simp [*]; done), by repeat (first | exact Drawn0.refl _ | apply Drawn0.step)⟩
  · rw [if_neg c2] at H
    have c2b0 : decide (a0 < 0) = false := decide_eq_false c2
    clear c2
    by_cases c3 : a0 > 89
    · rw [if_pos c3] at H
      have c3b0 : decide (89 < a0) = true := decide_eq_true c3
      clear c3
      obtain rfl := Option.some.inj H
      go_enter Tryd.func66, Tryd.ntmps66
      go_wp2
      go_ret
      exact ⟨by first | rfl | (simp; done) | (simp [*]; done), by repeat (first | exact Drawn0.refl _ | apply Drawn0.step)⟩
    · rw [if_neg c3] at H
      have c3b0 : decide (89 < a0) = false := decide_eq_false c3
      clear c3
      obtain rfl := Option.some.inj H
      go_enter Tryd.func66, Tryd.ntmps66
      go_wp2
      go_ret
      exact ⟨by first | rfl | (simp; done) | (simp [*]; done), by repeat (first | exact Drawn0.refl _ | apply Drawn0.step)⟩

/-! ### riverbankref02_Rank: function 68 -/
def riverbankref02_Rank.f (a0 : Int) : Option (Int) := if a0 < 0 then (some (-1)) else (if a0 > 89 then (some (-1)) else (some (wrap64 (Int.tdiv a0 9))))
set_option maxHeartbeats 8000000 in
set_option maxRecDepth 100000 in
theorem riverbankref02_Rank.calls (a0 : Int) (r : Int) (w : World) (h : riverbankref02_Rank.f a0 = some r) :
    Calls Tryd.prog 68 #[.int .i64 a0] w fun e w' => e = .returned (.int .i64 r) ∧ Drawn0 w w' := by
  have H : (if a0 < 0 then (some (-1)) else (if a0 > 89 then (some (-1)) else (some (wrap64 (Int.tdiv a0 9))))) = some r := h
  clear h
  by_cases c2 : a0 < 0
  · rw [if_pos c2] at H
    have c2b0 : decide (a0 < 0) = true := decide_eq_true c2
    clear c2
    obtain rfl := Option.some.inj H
    go_enter Tryd.func68, Tryd.ntmps68
    go_wp2
    go_ret
    exact ⟨by first | rfl | (simp; done) | (simp [*]; done), by repeat (first | exact Drawn0.refl _ | apply Drawn0.step)⟩
  · rw [if_neg c2] at H
    have c2b0 : decide (a0 < 0) = false := decide_eq_false c2
    clear c2
    by_cases c3 : a0 > 89
    · rw [if_pos c3] at H
      have c3b0 : decide (89 < a0) = true := decide_eq_true c3
      clear c3
      obtain rfl := Option.some.inj H
      go_enter Tryd.func68, Tryd.ntmps68
      go_wp2
      go_ret
      exact ⟨by first | rfl | (simp; done) | (simp [*]; done), by repeat (first | exact Drawn0.refl _ | apply Drawn0.step)⟩
    · rw [if_neg c3] at H
      have c3b0 : decide (89 < a0) = false := decide_eq_false c3
      clear c3
      obtain rfl := Option.some.inj H
      go_enter Tryd.func68, Tryd.ntmps68
      go_wp2
      go_ret
      exact ⟨by first | rfl | (simp; done) | (simp [*]; done), by repeat (first | exact Drawn0.refl _ | apply Drawn0.step)⟩

end Go.Proofs.YtkbimiimgcklaaaDoor.Print
