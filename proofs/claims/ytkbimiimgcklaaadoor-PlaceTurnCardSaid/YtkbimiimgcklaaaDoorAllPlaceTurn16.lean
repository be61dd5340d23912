/- Merged by a program of this session (wip/gprint/merge.py): what this claim needs of this session's texts, each part as it was. -/
import Derived.Test.YtkbimiimgcklaaaDoorAllPlaceTurn7
import Derived.Test.YtkbimiimgcklaaaDoorAllPlaceTurn15
namespace Go.Proofs.YtkbimiimgcklaaaDoor.Print
end Go.Proofs.YtkbimiimgcklaaaDoor.Print

-- of YtkbimiimgcklaaaDoorPrint23
-- Written by a program of this session (wip/gprint/gprint.py) over the kit's print; the parts marked GIVEN by hand.
namespace Go.Proofs.YtkbimiimgcklaaaDoor.Print
open Go.RowKit Go.Proofs.YtkbimiimgcklaaaDoorW.PrintWords Go.Proofs.YtkbimiimgcklaaaDoorW.PrintLast Go.Proofs.YtkbimiimgcklaaaDoorW.PrintMore
attribute [local go_sem] max2_int min2_int max_two min_two max_three min_three max_four min_four   -- for this text's walks alone
set_option linter.unusedVariables false
set_option linter.unusedSimpArgs false

/-! ### board_Side: function 62 -/
def board_Side.f (a0 : Int) : Option (Int) := (strings_IndexByte.f (⟨#[75, 65, 66, 78, 82, 67, 80]⟩ : ByteArray) a0).bind fun t398 => (if t398 ≥ 0 then (some 0) else ((strings_IndexByte.f (⟨#[107, 97, 98, 110, 114, 99, 112]⟩ : ByteArray) a0).bind fun t399 => (if t399 ≥ 0 then (some 1) else (some (-1)))))
set_option maxHeartbeats 8000000 in
set_option maxRecDepth 100000 in
theorem board_Side.calls (a0 : Int) (r : Int) (w : World) (h : board_Side.f a0 = some r) :
    Calls Tryd.prog 62 #[.int .u8 a0] w fun e w' => e = .returned (.int .i64 r) ∧ Drawn0 w w' := by
  have H : ((strings_IndexByte.f (⟨#[75, 65, 66, 78, 82, 67, 80]⟩ : ByteArray) a0).bind fun t398 => (if t398 ≥ 0 then (some 0) else ((strings_IndexByte.f (⟨#[107, 97, 98, 110, 114, 99, 112]⟩ : ByteArray) a0).bind fun t399 => (if t399 ≥ 0 then (some 1) else (some (-1)))))) = some r := h
  clear h
  replace H := Option.bind_eq_some_iff.mp H
  obtain ⟨t398, A20, H⟩ := H
  replace H : (if t398 ≥ 0 then (some 0) else ((strings_IndexByte.f (⟨#[107, 97, 98, 110, 114, 99, 112]⟩ : ByteArray) a0).bind fun t399 => (if t399 ≥ 0 then (some 1) else (some (-1))))) = some r := H
  have A2 := Aside0.mk A20
  clear A20
  by_cases c3 : t398 ≥ 0
  · rw [if_pos c3] at H
    have c3b0 : decide (0 ≤ t398) = true := decide_eq_true c3
    clear c3
    obtain rfl := Option.some.inj H
    go_enter Tryd.func62, Tryd.ntmps62
    go_wp2_with (first | ((with_reducible refine gate_callee (f := 102) rfl ?_); refine goesL_ (some 5) rfl rfl Tryd.func102 (by kernel_rfl) rfl #[.string (⟨#[75, 65, 66, 78, 82, 67, 80]⟩ : ByteArray), .int .u8 a0] rfl (by (try simp only [List.map_toArray, List.map_cons, List.map_nil]); first | done | rfl | (simp only [List.length_drop, List.length_take]; rfl)) ?_; (with_reducible refine (strings_IndexByte.calls (⟨#[75, 65, 66, 78, 82, 67, 80]⟩ : ByteArray) a0 t398 _ A2.out).mono ?_); rintro e w' ⟨rfl, ⟨nd, rfl⟩⟩; refine ⟨_, rfl, ?_⟩))
    go_ret
    exact ⟨by first | rfl | (simp; done) | (simp [*]; done), by repeat (first | exact Drawn0.refl _ | apply Drawn0.step)⟩
  · rw [if_neg c3] at H
    have c3b0 : decide (0 ≤ t398) = false := decide_eq_false c3
    clear c3
    replace H := Option.bind_eq_some_iff.mp H
    obtain ⟨t399, A40, H⟩ := H
    replace H : (if t399 ≥ 0 then (some 1) else (some (-1))) = some r := H
    have A4 := Aside0.mk A40
    clear A40
    by_cases c5 : t399 ≥ 0
    · rw [if_pos c5] at H
      have c5b0 : decide (0 ≤ t399) = true := decide_eq_true c5
      clear c5
      obtain rfl := Option.some.inj H
      go_enter Tryd.func62, Tryd.ntmps62
      go_wp2_with (first | ((with_reducible refine gate_callee (f := 102) rfl ?_); refine goesL_ (some 5) rfl rfl Tryd.func102 (by kernel_rfl) rfl #[.string (⟨#[75, 65, 66, 78, 82, 67, 80]⟩ : ByteArray), .int .u8 a0] rfl (by (try simp only [List.map_toArray, List.map_cons, List.map_nil]); first | done | rfl | (simp only [List.length_drop, List.length_take]; rfl)) ?_; (with_reducible refine (strings_IndexByte.calls (⟨#[75, 65, 66, 78, 82, 67, 80]⟩ : ByteArray) a0 t398 _ A2.out).mono ?_); rintro e w' ⟨rfl, ⟨nd, rfl⟩⟩; refine ⟨_, rfl, ?_⟩) | ((with_reducible refine gate_callee (f := 102) rfl ?_); refine goesL_ (some 9) rfl rfl Tryd.func102 (by kernel_rfl) rfl #[.string (⟨#[107, 97, 98, 110, 114, 99, 112]⟩ : ByteArray), .int .u8 a0] rfl (by (try simp only [List.map_toArray, List.map_cons, List.map_nil]); first | done | rfl | (simp only [List.length_drop, List.length_take]; rfl)) ?_; (with_reducible refine (strings_IndexByte.calls (⟨#[107, 97, 98, 110, 114, 99, 112]⟩ : ByteArray) a0 t399 _ A4.out).mono ?_); rintro e w' ⟨rfl, ⟨nd, rfl⟩⟩; refine ⟨_, rfl, ?_⟩))
      go_ret
      exact ⟨by first | rfl | (simp; done) | (simp [*]; done), by repeat (first | exact Drawn0.refl _ | apply Drawn0.step)⟩
    · rw [if_neg c5] at H
      have c5b0 : decide (0 ≤ t399) = false := decide_eq_false c5
      clear c5
      obtain rfl := Option.some.inj H
      go_enter Tryd.func62, Tryd.ntmps62
      go_wp2_with (first | ((with_reducible refine gate_callee (f := 102) rfl ?_); refine goesL_ (some 5) rfl rfl Tryd.func102 (by kernel_rfl) rfl #[.string (⟨#[75, 65, 66, 78, 82, 67, 80]⟩ : ByteArray), .int .u8 a0] rfl (by (try simp only [List.map_toArray, List.map_cons, List.map_nil]); first | done | rfl | (simp only [List.length_drop, List.length_take]; rfl)) ?_; (with_reducible refine (strings_IndexByte.calls (⟨#[75, 65, 66, 78, 82, 67, 80]⟩ : ByteArray) a0 t398 _ A2.out).mono ?_); rintro e w' ⟨rfl, ⟨nd, rfl⟩⟩; refine ⟨_, rfl, ?_⟩) | ((with_reducible refine gate_callee (f := 102) rfl ?_); refine goesL_ (some 9) rfl rfl Tryd.func102 (by kernel_rfl) rfl #[.string (⟨#[107, 97, 98, 110, 114, 99, 112]⟩ : ByteArray), .int .u8 a0] rfl (by (try simp only [List.map_toArray, List.map_cons, List.map_nil]); first | done | rfl | (simp only [List.length_drop, List.length_take]; rfl)) ?_; (with_reducible refine (strings_IndexByte.calls (⟨#[107, 97, 98, 110, 114, 99, 112]⟩ : ByteArray) a0 t399 _ A4.out).mono ?_); rintro e w' ⟨rfl, ⟨nd, rfl⟩⟩; refine ⟨_, rfl, ?_⟩))
      go_ret
      exact ⟨by first | rfl | (simp; done) | (simp [*]; done), by repeat (first | exact Drawn0.refl _ | apply Drawn0.step)⟩

/-! ### board_isCell: function 96 -/
def board_isCell.f (a0 : Int) : Option (Bool) := if a0 = 46 then (some true) else ((board_Side.f a0).bind fun t400 => (some (decide (t400 ≥ 0))))
set_option maxHeartbeats 8000000 in
set_option maxRecDepth 100000 in
theorem board_isCell.calls (a0 : Int) (r : Bool) (w : World) (h : board_isCell.f a0 = some r) :
    Calls Tryd.prog 96 #[.int .u8 a0] w fun e w' => e = .returned (.bool r) ∧ Drawn0 w w' := by
  have H : (if a0 = 46 then (some true) else ((board_Side.f a0).bind fun t400 => (some (decide (t400 ≥ 0))))) = some r := h
  clear h
  by_cases c2 : a0 = 46
  · rw [if_pos c2] at H
    have c2b0 : (a0 == 46) = true := beq_iff_eq.mpr c2
    have c2b1 : (a0 != 46) = false := bne_eq_false_iff_eq.mpr c2
    clear c2
    obtain rfl := Option.some.inj H
    go_enter Tryd.func96, Tryd.ntmps96
    go_wp2
    go_ret
    exact ⟨by first | rfl | (simp; done) | (simp [*]; done), by repeat (first | exact Drawn0.refl _ | apply Drawn0.step)⟩
  · rw [if_neg c2] at H
    have c2b0 : (a0 == 46) = false := beq_eq_false_iff_ne.mpr c2
    have c2b1 : (a0 != 46) = true := bne_iff_ne.mpr c2
    replace H := Option.bind_eq_some_iff.mp H
    obtain ⟨t400, A30, H⟩ := H
    replace H : (some (decide (t400 ≥ 0))) = some r := H
    have A3 := Aside0.mk A30
    clear A30
    obtain rfl := Option.some.inj H
    go_enter Tryd.func96, Tryd.ntmps96
    go_wp2_with (first | (go_at_call 62; (with_reducible refine (board_Side.calls a0 t400 _ A3.out).mono ?_); rintro e w' ⟨rfl, ⟨nd, rfl⟩⟩))
    go_ret
    exact ⟨by first | rfl | (simp; done) | (simp [*]; done), by repeat (first | exact Drawn0.refl _ | apply Drawn0.step)⟩

end Go.Proofs.YtkbimiimgcklaaaDoor.Print
