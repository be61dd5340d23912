/- Merged by a program of this session (wip/gprint/merge.py): what this claim needs of this session's texts, each part as it was. -/
import Derived.Test.YtkbimiimgcklaaaDoorAllPlaceTurn7
namespace Go.Proofs.YtkbimiimgcklaaaDoor.Print
end Go.Proofs.YtkbimiimgcklaaaDoor.Print

-- of YtkbimiimgcklaaaDoorPrint34
-- Written by a program of this session (wip/gprint/gprint.py) over the kit's print; the parts marked GIVEN by hand.
namespace Go.Proofs.YtkbimiimgcklaaaDoor.Print
open Go.RowKit Go.Proofs.YtkbimiimgcklaaaDoorW.PrintWords Go.Proofs.YtkbimiimgcklaaaDoorW.PrintLast Go.Proofs.YtkbimiimgcklaaaDoorW.PrintMore
attribute [local go_sem] max2_int min2_int max_two min_two max_three min_three max_four min_four   -- for this text's walks alone
set_option linter.unusedVariables false
set_option linter.unusedSimpArgs false

/-! ### riverbankref02_Side: function 49 -/
def riverbankref02_Side.j0 : Nat → Int → Bool → Option (Int)
  | 0, _, _ => none
  | k + 1, x3, x4 => if x4 = true then (some 0) else (if x3 = 107 then (some 1) else (if x3 = 97 then (some 1) else (if x3 = 98 then (some 1) else (if x3 = 110 then (some 1) else (if x3 = 114 then (some 1) else (if x3 = 99 then (some 1) else (if x3 = 112 then (some 1) else (some (-1)))))))))
def riverbankref02_Side.f (k : Nat) (a0 : Int) : Option (Int) := if a0 = 75 then (riverbankref02_Side.j0 k a0 (a0 == 75)) else (if a0 = 65 then (riverbankref02_Side.j0 k a0 (a0 == 65)) else (if a0 = 66 then (riverbankref02_Side.j0 k a0 (a0 == 66)) else (if a0 = 78 then (riverbankref02_Side.j0 k a0 (a0 == 78)) else (if a0 = 82 then (riverbankref02_Side.j0 k a0 (a0 == 82)) else (if a0 = 67 then (riverbankref02_Side.j0 k a0 (a0 == 67)) else (riverbankref02_Side.j0 k a0 (a0 == 80)))))))
theorem riverbankref02_Side.mono_l : ∀ k, (∀ y0 y1, LeO (riverbankref02_Side.j0 k y0 y1) (riverbankref02_Side.j0 (k + 1) y0 y1))
  | 0 => fun _ _ r h => by simp [riverbankref02_Side.j0] at h
  | k + 1 => by
    have ih0 := riverbankref02_Side.mono_l k
    · intro y0 y1
      unfold riverbankref02_Side.j0
      repeat' first
      | (with_reducible exact ih0 _ _)
      | (with_reducible exact LeO.refl _)
      | (with_reducible exact LeO.none _)
      | (with_reducible refine LeO.ite ?_ ?_)
      | (with_reducible refine LeO.bind ?_ (fun _ => ?_))
      | exact ih0 _ _
      | exact LeO.none _
      | refine LeO.ite ?_ ?_
      | refine LeO.bind ?_ (fun _ => ?_)
theorem riverbankref02_Side.mono : ∀ a0 k, LeO (riverbankref02_Side.f k a0) (riverbankref02_Side.f (k + 1) a0) := by
  intro a0 k
  have ih0 := riverbankref02_Side.mono_l k
  unfold riverbankref02_Side.f
  repeat' first
      | (with_reducible exact ih0 _ _)
      | (with_reducible exact LeO.refl _)
      | (with_reducible exact LeO.none _)
      | (with_reducible refine LeO.ite ?_ ?_)
      | (with_reducible refine LeO.bind ?_ (fun _ => ?_))
      | exact ih0 _ _
      | exact LeO.none _
      | refine LeO.ite ?_ ?_
      | refine LeO.bind ?_ (fun _ => ?_)
set_option maxHeartbeats 8000000 in
set_option maxRecDepth 100000 in
theorem riverbankref02_Side.calls (k : Nat) (a0 : Int) (r : Int) (w : World) (h : riverbankref02_Side.f k a0 = some r) :
    Calls Tryd.prog 49 #[.int .u8 a0] w fun e w' => e = .returned (.int .i64 r) ∧ Drawn0 w w' := by
  have H : (if a0 = 75 then (riverbankref02_Side.j0 k a0 (a0 == 75)) else (if a0 = 65 then (riverbankref02_Side.j0 k a0 (a0 == 65)) else (if a0 = 66 then (riverbankref02_Side.j0 k a0 (a0 == 66)) else (if a0 = 78 then (riverbankref02_Side.j0 k a0 (a0 == 78)) else (if a0 = 82 then (riverbankref02_Side.j0 k a0 (a0 == 82)) else (if a0 = 67 then (riverbankref02_Side.j0 k a0 (a0 == 67)) else (riverbankref02_Side.j0 k a0 (a0 == 80)))))))) = some r := h
  clear h
  have HC2 := Aside0.mk H
  clear H
  go_enter Tryd.func49, Tryd.ntmps49
  go_upto_if 4 with (fail)
  go_cut [4] (fun v4 wc => ∃ (kq : Nat) (x4_1 : Bool), v4 = .bool x4_1 ∧ Aside0 (riverbankref02_Side.j0 kq a0 x4_1 = some r) ∧ Aside0 (kq ≤ k) ∧ Drawn0 w wc)
  case first =>
    have H := HC2.out
    clear HC2
    by_cases c3 : a0 = 75
    · rw [if_pos c3] at H
      have c3b0 : (a0 == 75) = true := beq_iff_eq.mpr c3
      have c3b1 : (a0 != 75) = false := bne_eq_false_iff_eq.mpr c3
      clear c3
      (first | rw [c3b0] | (simp only [i64_w, i32_w]; rw [c3b0]) | skip)
      have H' := Aside0.mk H
      clear H
      go_wp2
      go_meet
      case rel => exact ⟨_, ((a0 == 75)), (by first | rfl | (simp; done) | (simp [*]; done)), H', ⟨by first | omega | exact Nat.le_refl _⟩, by repeat (first | exact Drawn0.refl _ | apply Drawn0.step)⟩
    · rw [if_neg c3] at H
      have c3b0 : (a0 == 75) = false := beq_eq_false_iff_ne.mpr c3
      have c3b1 : (a0 != 75) = true := bne_iff_ne.mpr c3
      (first | rw [c3b0] | (simp only [i64_w, i32_w]; rw [c3b0]) | skip)
      by_cases c4 : a0 = 65
      · rw [if_pos c4] at H
        have c4b0 : (a0 == 65) = true := beq_iff_eq.mpr c4
        have c4b1 : (a0 != 65) = false := bne_eq_false_iff_eq.mpr c4
        clear c4
        have H' := Aside0.mk H
        clear H
        go_wp2
        go_meet
        case rel => exact ⟨_, ((a0 == 65)), (by first | rfl | (simp; done) | (simp [*]; done)), H', ⟨by first | omega | exact Nat.le_refl _⟩, by repeat (first | exact Drawn0.refl _ | apply Drawn0.step)⟩
      · rw [if_neg c4] at H
        have c4b0 : (a0 == 65) = false := beq_eq_false_iff_ne.mpr c4
        have c4b1 : (a0 != 65) = true := bne_iff_ne.mpr c4
        by_cases c5 : a0 = 66
        · rw [if_pos c5] at H
          have c5b0 : (a0 == 66) = true := beq_iff_eq.mpr c5
          have c5b1 : (a0 != 66) = false := bne_eq_false_iff_eq.mpr c5
          clear c5
          have H' := Aside0.mk H
          clear H
          go_wp2
          go_meet
          case rel => exact ⟨_, ((a0 == 66)), (by first | rfl | (simp; done) | (simp [*]; done)), H', ⟨by first | omega | exact Nat.le_refl _⟩, by repeat (first | exact Drawn0.refl _ | apply Drawn0.step)⟩
        · rw [if_neg c5] at H
          have c5b0 : (a0 == 66) = false := beq_eq_false_iff_ne.mpr c5
          have c5b1 : (a0 != 66) = true := bne_iff_ne.mpr c5
          by_cases c6 : a0 = 78
          · rw [if_pos c6] at H
            have c6b0 : (a0 == 78) = true := beq_iff_eq.mpr c6
            have c6b1 : (a0 != 78) = false := bne_eq_false_iff_eq.mpr c6
            clear c6
            have H' := Aside0.mk H
            clear H
            go_wp2
            go_meet
            case rel => exact ⟨_, ((a0 == 78)), (by first | rfl | (simp; done) | (simp [*]; done)), H', ⟨by first | omega | exact Nat.le_refl _⟩, by repeat (first | exact Drawn0.refl _ | apply Drawn0.step)⟩
          · rw [if_neg c6] at H
            have c6b0 : (a0 == 78) = false := beq_eq_false_iff_ne.mpr c6
            have c6b1 : (a0 != 78) = true := bne_iff_ne.mpr c6
            by_cases c7 : a0 = 82
            · rw [if_pos c7] at H
              have c7b0 : (a0 == 82) = true := beq_iff_eq.mpr c7
              have c7b1 : (a0 != 82) = false := bne_eq_false_iff_eq.mpr c7
              clear c7
              have H' := Aside0.mk H
              clear H
              go_wp2
              go_meet
              case rel => exact ⟨_, ((a0 == 82)), (by first | rfl | (simp; done) | (simp [*]; done)), H', ⟨by first | omega | exact Nat.le_refl _⟩, by repeat (first | exact Drawn0.refl _ | apply Drawn0.step)⟩
            · rw [if_neg c7] at H
              have c7b0 : (a0 == 82) = false := beq_eq_false_iff_ne.mpr c7
              have c7b1 : (a0 != 82) = true := bne_iff_ne.mpr c7
              by_cases c8 : a0 = 67
              · rw [if_pos c8] at H
                have c8b0 : (a0 == 67) = true := beq_iff_eq.mpr c8
                have c8b1 : (a0 != 67) = false := bne_eq_false_iff_eq.mpr c8
                clear c8
                have H' := Aside0.mk H
                clear H
                go_wp2
                go_meet
                case rel => exact ⟨_, ((a0 == 67)), (by first | rfl | (simp; done) | (simp [*]; done)), H', ⟨by first | omega | exact Nat.le_refl _⟩, by repeat (first | exact Drawn0.refl _ | apply Drawn0.step)⟩
              · rw [if_neg c8] at H
                have c8b0 : (a0 == 67) = false := beq_eq_false_iff_ne.mpr c8
                have c8b1 : (a0 != 67) = true := bne_iff_ne.mpr c8
                have H' := Aside0.mk H
                clear H
                go_wp2
                go_meet
                case rel => exact ⟨_, ((a0 == 80)), (by first | rfl | (simp; done) | (simp [*]; done)), H', ⟨by first | omega | exact Nat.le_refl _⟩, by repeat (first | exact Drawn0.refl _ | apply Drawn0.step)⟩
  case rest =>
    clear HC2
    try clear p2
    try clear c3
    try clear c3b0
    try clear c3b1
    try clear c4
    try clear c4b0
    try clear c4b1
    try clear c5
    try clear c5b0
    try clear c5b1
    try clear c6
    try clear c6b0
    try clear c6b1
    try clear c7
    try clear c7b0
    try clear c7b1
    try clear c8
    try clear c8b0
    try clear c8b1
    obtain ⟨kq, x4_1, rfl, HA, HJ1, ⟨mc1, rfl⟩⟩ := hcut
    cases kq with
    | zero => exact absurd HA.out (by simp [riverbankref02_Side.j0])
    | succ kj1 =>
      have H := HA.out
      clear HA
      simp only [riverbankref02_Side.j0] at H
      by_cases c9 : x4_1 = true
      · subst c9
        have H1 : (some 0) = some r := by rw [if_pos rfl] at H; exact H
        clear H
        have H := H1
        clear H1
        obtain rfl := Option.some.inj H
        go_wp2
        go_ret
        exact ⟨by first | rfl | (simp; done) | (simp [*]; done), by repeat (first | exact Drawn0.refl _ | apply Drawn0.step)⟩
      · replace c9 := Bool.eq_false_iff.mpr c9
        subst c9
        have H1 : (if a0 = 107 then (some 1) else (if a0 = 97 then (some 1) else (if a0 = 98 then (some 1) else (if a0 = 110 then (some 1) else (if a0 = 114 then (some 1) else (if a0 = 99 then (some 1) else (if a0 = 112 then (some 1) else (some (-1))))))))) = some r := by rw [if_neg (show ¬ (false = true) by decide)] at H; exact H
        clear H
        have H := H1
        clear H1
        by_cases c10 : a0 = 107
        · rw [if_pos c10] at H
          have c10b0 : (a0 == 107) = true := beq_iff_eq.mpr c10
          have c10b1 : (a0 != 107) = false := bne_eq_false_iff_eq.mpr c10
          clear c10
          obtain rfl := Option.some.inj H
          go_wp2
          go_ret
          exact ⟨by first | rfl | (simp; done) | (simp [*]; done), by repeat (first | exact Drawn0.refl _ | apply Drawn0.step)⟩
        · rw [if_neg c10] at H
          have c10b0 : (a0 == 107) = false := beq_eq_false_iff_ne.mpr c10
          have c10b1 : (a0 != 107) = true := bne_iff_ne.mpr c10
          by_cases c11 : a0 = 97
          · rw [if_pos c11] at H
            have c11b0 : (a0 == 97) = true := beq_iff_eq.mpr c11
            have c11b1 : (a0 != 97) = false := bne_eq_false_iff_eq.mpr c11
            clear c11
            obtain rfl := Option.some.inj H
            go_wp2
            go_ret
            exact ⟨by first | rfl | (simp; done) | (simp [*]; done), by repeat (first | exact Drawn0.refl _ | apply Drawn0.step)⟩
          · rw [if_neg c11] at H
            have c11b0 : (a0 == 97) = false := beq_eq_false_iff_ne.mpr c11
            have c11b1 : (a0 != 97) = true := bne_iff_ne.mpr c11
            by_cases c12 : a0 = 98
            · rw [if_pos c12] at H
              have c12b0 : (a0 == 98) = true := beq_iff_eq.mpr c12
              have c12b1 : (a0 != 98) = false := bne_eq_false_iff_eq.mpr c12
              clear c12
              obtain rfl := Option.some.inj H
              go_wp2
              go_ret
              exact ⟨by first | rfl | (simp; done) | (simp [*]; done), by repeat (first | exact Drawn0.refl _ | apply Drawn0.step)⟩
            · rw [if_neg c12] at H
              have c12b0 : (a0 == 98) = false := beq_eq_false_iff_ne.mpr c12
              have c12b1 : (a0 != 98) = true := bne_iff_ne.mpr c12
              by_cases c13 : a0 = 110
              · rw [if_pos c13] at H
                have c13b0 : (a0 == 110) = true := beq_iff_eq.mpr c13
                have c13b1 : (a0 != 110) = false := bne_eq_false_iff_eq.mpr c13
                clear c13
                obtain rfl := Option.some.inj H
                go_wp2
                go_ret
                exact ⟨by first | rfl | (simp; done) | (simp [*]; done), by repeat (first | exact Drawn0.refl _ | apply Drawn0.step)⟩
              · rw [if_neg c13] at H
                have c13b0 : (a0 == 110) = false := beq_eq_false_iff_ne.mpr c13
                have c13b1 : (a0 != 110) = true := bne_iff_ne.mpr c13
                by_cases c14 : a0 = 114
                · rw [if_pos c14] at H
                  have c14b0 : (a0 == 114) = true := beq_iff_eq.mpr c14
                  have c14b1 : (a0 != 114) = false := bne_eq_false_iff_eq.mpr c14
                  clear c14
                  obtain rfl := Option.some.inj H
                  go_wp2
                  go_ret
                  exact ⟨by first | rfl | (simp; done) | (simp [*]; done), by repeat (first | exact Drawn0.refl _ | apply Drawn0.step)⟩
                · rw [if_neg c14] at H
                  have c14b0 : (a0 == 114) = false := beq_eq_false_iff_ne.mpr c14
                  have c14b1 : (a0 != 114) = true := bne_iff_ne.mpr c14
                  by_cases c15 : a0 = 99
                  · rw [if_pos c15] at H
                    have c15b0 : (a0 == 99) = true := beq_iff_eq.mpr c15
                    have c15b1 : (a0 != 99) = false := bne_eq_false_iff_eq.mpr c15
                    clear c15
                    obtain rfl := Option.some.inj H
                    go_wp2
                    go_ret
                    exact ⟨by first | rfl | (simp; done) | (simp [*]; done), by repeat (first | exact Drawn0.refl _ | apply Drawn0.step)⟩
                  · rw [if_neg c15] at H
                    have c15b0 : (a0 == 99) = false := beq_eq_false_iff_ne.mpr c15
                    have c15b1 : (a0 != 99) = true := bne_iff_ne.mpr c15
                    by_cases c16 : a0 = 112
                    · rw [if_pos c16] at H
                      have c16b0 : (a0 == 112) = true := beq_iff_eq.mpr c16
                      have c16b1 : (a0 != 112) = false := bne_eq_false_iff_eq.mpr c16
                      clear c16
                      obtain rfl := Option.some.inj H
                      go_wp2
                      go_ret
                      exact ⟨by first | rfl | (simp; done) | (simp [*]; done), by repeat (first | exact Drawn0.refl _ | apply Drawn0.step)⟩
                    · rw [if_neg c16] at H
                      have c16b0 : (a0 == 112) = false := beq_eq_false_iff_ne.mpr c16
                      have c16b1 : (a0 != 112) = true := bne_iff_ne.mpr c16
                      obtain rfl := Option.some.inj H
                      go_wp2
                      go_ret
                      exact ⟨by first | rfl | (simp; done) | (simp [*]; done), by repeat (first | exact Drawn0.refl _ | apply Drawn0.step)⟩

/-! ### riverbankref02_Is: function 51 -/
def riverbankref02_Is.l0 : Nat → ByteArray → Int → Option (Bool)
  | 0, _, _ => none
  | k + 1, x0, x3 => if x3 < 90 then (if 0 ≤ x3 then (if x3 < (x0.size : Int) then (if (bt x0 x3) = 46 then (riverbankref02_Is.l0 k x0 (wrap64 (x3 + 1))) else ((riverbankref02_Side.f k (bt x0 x3)).bind fun t406 => (if t406 < 0 then (some false) else (riverbankref02_Is.l0 k x0 (wrap64 (x3 + 1)))))) else (none)) else (none)) else (some true)
def riverbankref02_Is.f (k : Nat) (a0 : ByteArray) : Option (Bool) := if (a0.size : Int) = 90 then (riverbankref02_Is.l0 k a0 0) else (some false)
theorem riverbankref02_Is.mono_l : ∀ k, (∀ y0 y1, LeO (riverbankref02_Is.l0 k y0 y1) (riverbankref02_Is.l0 (k + 1) y0 y1))
  | 0 => fun _ _ r h => by simp [riverbankref02_Is.l0] at h
  | k + 1 => by
    have ih0 := riverbankref02_Is.mono_l k
    · intro y0 y1
      unfold riverbankref02_Is.l0
      repeat' first
      | (with_reducible exact ih0 _ _)
      | (with_reducible exact riverbankref02_Side.mono _ _)
      | (with_reducible exact LeO.refl _)
      | (with_reducible exact LeO.none _)
      | (with_reducible refine LeO.ite ?_ ?_)
      | (with_reducible refine LeO.bind ?_ (fun _ => ?_))
      | exact ih0 _ _
      | exact riverbankref02_Side.mono _ _
      | exact LeO.none _
      | refine LeO.ite ?_ ?_
      | refine LeO.bind ?_ (fun _ => ?_)
theorem riverbankref02_Is.mono : ∀ a0 k, LeO (riverbankref02_Is.f k a0) (riverbankref02_Is.f (k + 1) a0) := by
  intro a0 k
  have ih0 := riverbankref02_Is.mono_l k
  unfold riverbankref02_Is.f
  repeat' first
      | (with_reducible exact ih0 _ _)
      | (with_reducible exact riverbankref02_Side.mono _ _)
      | (with_reducible exact LeO.refl _)
      | (with_reducible exact LeO.none _)
      | (with_reducible refine LeO.ite ?_ ?_)
      | (with_reducible refine LeO.bind ?_ (fun _ => ?_))
      | exact ih0 _ _
      | exact riverbankref02_Side.mono _ _
      | exact LeO.none _
      | refine LeO.ite ?_ ?_
      | refine LeO.bind ?_ (fun _ => ?_)
set_option maxHeartbeats 8000000 in
set_option maxRecDepth 100000 in
theorem riverbankref02_Is.calls (k : Nat) (a0 : ByteArray) (r : Bool) (w : World) (h : riverbankref02_Is.f k a0 = some r) :
    Calls Tryd.prog 51 #[.string a0] w fun e w' => e = .returned (.bool r) ∧ Drawn0 w w' := by
  have H : (if (a0.size : Int) = 90 then (riverbankref02_Is.l0 k a0 0) else (some false)) = some r := h
  clear h
  by_cases c2 : (a0.size : Int) = 90
  · rw [if_pos c2] at H
    have c2b0 : ((a0.size : Int) == 90) = true := beq_iff_eq.mpr c2
    have c2b1 : ((a0.size : Int) != 90) = false := bne_eq_false_iff_eq.mpr c2
    clear c2
    have H' := Aside0.mk H
    clear H
    go_enter Tryd.func51, Tryd.ntmps51
    go_wp2
    go_loopg [3] k (fun kq v3 w' => ∃ (x3_1 : Int), v3 = .int .i64 x3_1 ∧ Aside0 (riverbankref02_Is.l0 kq a0 x3_1 = some r) ∧ Aside0 (kq ≤ k) ∧ Drawn0 w w')
    case atStart => exact ⟨(0), (by first | rfl | (simp; done) | (simp [*]; done)), H', ⟨Nat.le_refl _⟩, by repeat (first | exact Drawn0.refl _ | apply Drawn0.step)⟩
    case round =>
      clear H'
      try clear c2
      try clear c2b0
      try clear c2b1
      try clear p2
      obtain ⟨x3_1, rfl, HA, HK1, ⟨m1, rfl⟩⟩ := hrel
      cases gk with
      | zero => exact absurd HA.out (by simp [riverbankref02_Is.l0])
      | succ k1 =>
        have H := HA.out
        clear HA
        simp only [riverbankref02_Is.l0] at H
        by_cases c3 : x3_1 < 90
        · rw [if_pos c3] at H
          have c3b0 : decide (x3_1 < 90) = true := decide_eq_true c3
          clear c3
          by_cases c4 : 0 ≤ x3_1
          · rw [if_pos c4] at H
            have c4b0 : decide (0 ≤ x3_1) = true := decide_eq_true c4
            clear c4
            by_cases c5 : x3_1 < (a0.size : Int)
            · rw [if_pos c5] at H
              have c5b0 : decide (x3_1 < (a0.size : Int)) = true := decide_eq_true c5
              clear c5
              by_cases c7 : (bt a0 x3_1) = 46
              · rw [if_pos c7] at H
                have c7b0 : ((bt a0 x3_1) == 46) = true := beq_iff_eq.mpr c7
                have c7b1 : ((bt a0 x3_1) != 46) = false := bne_eq_false_iff_eq.mpr c7
                clear c7
                have H' := Aside0.mk H
                clear H
                have p6 : 0 ≤ (x3_1 : Int) := of_decide_eq_true (by first | (with_reducible assumption) | assumption)
                have q6 : x3_1 < (a0.size : Int) := of_decide_eq_true (by first | (with_reducible assumption) | assumption)
                have hx6 := bt_at a0 x3_1
                replace p6 := eq_true p6
                replace q6 := eq_true q6
                go_wp2
                go_roundg k1
                case measure => have := HK1.out; omega
                case rel => exact ⟨(wrap64 (x3_1 + 1)), (by first | rfl | (simp; done) | (simp [*]; done)), H', ⟨by have := HK1.out; omega⟩, by repeat (first | exact Drawn0.refl _ | apply Drawn0.step)⟩
              · rw [if_neg c7] at H
                have c7b0 : ((bt a0 x3_1) == 46) = false := beq_eq_false_iff_ne.mpr c7
                have c7b1 : ((bt a0 x3_1) != 46) = true := bne_iff_ne.mpr c7
                replace H := Option.bind_eq_some_iff.mp H
                obtain ⟨t406, A90, H⟩ := H
                replace H : (if t406 < 0 then (some false) else (riverbankref02_Is.l0 k1 a0 (wrap64 (x3_1 + 1)))) = some r := H
                have A9 := Aside0.mk A90
                clear A90
                by_cases c10 : t406 < 0
                · rw [if_pos c10] at H
                  have c10b0 : decide (t406 < 0) = true := decide_eq_true c10
                  clear c10
                  obtain rfl := Option.some.inj H
                  have p6 : 0 ≤ (x3_1 : Int) := of_decide_eq_true (by first | (with_reducible assumption) | assumption)
                  have q6 : x3_1 < (a0.size : Int) := of_decide_eq_true (by first | (with_reducible assumption) | assumption)
                  have hx6 := bt_at a0 x3_1
                  replace p6 := eq_true p6
                  replace q6 := eq_true q6
                  have p8 : 0 ≤ (x3_1 : Int) := of_decide_eq_true (by first | (with_reducible assumption) | assumption)
                  have q8 : x3_1 < (a0.size : Int) := of_decide_eq_true (by first | (with_reducible assumption) | assumption)
                  have hx8 := bt_at a0 x3_1
                  replace p8 := eq_true p8
                  replace q8 := eq_true q8
                  go_wp2_with (first | (go_at_call 49; (with_reducible refine (riverbankref02_Side.calls k1 (bt a0 x3_1) t406 _ A9.out).mono ?_); rintro e w' ⟨rfl, ⟨nd, rfl⟩⟩))
                  go_ret
                  exact ⟨by first | rfl | (simp; done) | (simp [*]; done), by repeat (first | exact Drawn0.refl _ | apply Drawn0.step)⟩
                · rw [if_neg c10] at H
                  have c10b0 : decide (t406 < 0) = false := decide_eq_false c10
                  clear c10
                  have H' := Aside0.mk H
                  clear H
                  have p6 : 0 ≤ (x3_1 : Int) := of_decide_eq_true (by first | (with_reducible assumption) | assumption)
                  have q6 : x3_1 < (a0.size : Int) := of_decide_eq_true (by first | (with_reducible assumption) | assumption)
                  have hx6 := bt_at a0 x3_1
                  replace p6 := eq_true p6
                  replace q6 := eq_true q6
                  have p8 : 0 ≤ (x3_1 : Int) := of_decide_eq_true (by first | (with_reducible assumption) | assumption)
                  have q8 : x3_1 < (a0.size : Int) := of_decide_eq_true (by first | (with_reducible assumption) | assumption)
                  have hx8 := bt_at a0 x3_1
                  replace p8 := eq_true p8
                  replace q8 := eq_true q8
                  go_wp2_with (first | (go_at_call 49; (with_reducible refine (riverbankref02_Side.calls k1 (bt a0 x3_1) t406 _ A9.out).mono ?_); rintro e w' ⟨rfl, ⟨nd, rfl⟩⟩))
                  go_roundg k1
                  case measure => have := HK1.out; omega
                  case rel => exact ⟨(wrap64 (x3_1 + 1)), (by first | rfl | (simp; done) | (simp [*]; done)), H', ⟨by have := HK1.out; omega⟩, by repeat (first | exact Drawn0.refl _ | apply Drawn0.step)⟩
            · rw [if_neg c5] at H
              exact absurd H (by simp)
          · rw [if_neg c4] at H
            exact absurd H (by simp)
        · rw [if_neg c3] at H
          have c3b0 : decide (x3_1 < 90) = false := decide_eq_false c3
          clear c3
          obtain rfl := Option.some.inj H
          go_wp2
          go_ret
          exact ⟨by first | rfl | (simp; done) | (simp [*]; done), by repeat (first | exact Drawn0.refl _ | apply Drawn0.step)⟩
  · rw [if_neg c2] at H
    have c2b0 : ((a0.size : Int) == 90) = false := beq_eq_false_iff_ne.mpr c2
    have c2b1 : ((a0.size : Int) != 90) = true := bne_iff_ne.mpr c2
    obtain rfl := Option.some.inj H
    go_enter Tryd.func51, Tryd.ntmps51
    go_wp2
    go_ret
    exact ⟨by first | rfl | (simp; done) | (simp [*]; done), by repeat (first | exact Drawn0.refl _ | apply Drawn0.step)⟩

/-! ### riverbankref02_At: function 53 -/
def riverbankref02_At.f (k : Nat) (a0 : ByteArray) (a1 : Int) : Option (Int) := (riverbankref02_Is.f k a0).bind fun t407 => (if t407 = true then (if a1 < 0 then (some 46) else (if a1 > 89 then (some 46) else (if 0 ≤ a1 then (if a1 < (a0.size : Int) then (some (bt a0 a1)) else (none)) else (none)))) else (some 46))
theorem riverbankref02_At.mono : ∀ a0 a1 k, LeO (riverbankref02_At.f k a0 a1) (riverbankref02_At.f (k + 1) a0 a1) := by
  intro a0 a1 k
  unfold riverbankref02_At.f
  repeat' first
      | (with_reducible exact riverbankref02_Is.mono _ _)
      | (with_reducible exact LeO.refl _)
      | (with_reducible exact LeO.none _)
      | (with_reducible refine LeO.ite ?_ ?_)
      | (with_reducible refine LeO.bind ?_ (fun _ => ?_))
      | exact riverbankref02_Is.mono _ _
      | exact LeO.none _
      | refine LeO.ite ?_ ?_
      | refine LeO.bind ?_ (fun _ => ?_)
set_option maxHeartbeats 8000000 in
set_option maxRecDepth 100000 in
theorem riverbankref02_At.calls (k : Nat) (a0 : ByteArray) (a1 : Int) (r : Int) (w : World) (h : riverbankref02_At.f k a0 a1 = some r) :
    Calls Tryd.prog 53 #[.string a0, .int .i64 a1] w fun e w' => e = .returned (.int .u8 r) ∧ Drawn0 w w' := by
  have H : ((riverbankref02_Is.f k a0).bind fun t407 => (if t407 = true then (if a1 < 0 then (some 46) else (if a1 > 89 then (some 46) else (if 0 ≤ a1 then (if a1 < (a0.size : Int) then (some (bt a0 a1)) else (none)) else (none)))) else (some 46))) = some r := h
  clear h
  replace H := Option.bind_eq_some_iff.mp H
  obtain ⟨t407, A30, H⟩ := H
  replace H : (if t407 = true then (if a1 < 0 then (some 46) else (if a1 > 89 then (some 46) else (if 0 ≤ a1 then (if a1 < (a0.size : Int) then (some (bt a0 a1)) else (none)) else (none)))) else (some 46)) = some r := H
  have A3 := Aside0.mk A30
  clear A30
  by_cases c4 : t407 = true
  · subst c4
    have H1 : (if a1 < 0 then (some 46) else (if a1 > 89 then (some 46) else (if 0 ≤ a1 then (if a1 < (a0.size : Int) then (some (bt a0 a1)) else (none)) else (none)))) = some r := by rw [if_pos rfl] at H; exact H
    clear H
    have H := H1
    clear H1
    by_cases c5 : a1 < 0
    · rw [if_pos c5] at H
      have c5b0 : decide (a1 < 0) = true := decide_eq_true c5
      clear c5
      obtain rfl := Option.some.inj H
      go_enter Tryd.func53, Tryd.ntmps53
      go_wp2_with (first | ((with_reducible refine gate_callee (f := 51) rfl ?_); refine goesL_ (some 6) rfl rfl Tryd.func51 (by kernel_rfl) rfl #[.string a0] rfl (by (try simp only [List.map_toArray, List.map_cons, List.map_nil]); first | done | rfl | (simp only [List.length_drop, List.length_take]; rfl)) ?_; (with_reducible refine (riverbankref02_Is.calls k a0 true _ A3.out).mono ?_); rintro e w' ⟨rfl, ⟨nd, rfl⟩⟩; refine ⟨_, rfl, ?_⟩))
      go_ret
      exact ⟨by first | rfl | (simp; done) | (simp [*]; done), by repeat (first | exact Drawn0.refl _ | apply Drawn0.step)⟩
    · rw [if_neg c5] at H
      have c5b0 : decide (a1 < 0) = false := decide_eq_false c5
      clear c5
      by_cases c6 : a1 > 89
      · rw [if_pos c6] at H
        have c6b0 : decide (89 < a1) = true := decide_eq_true c6
        clear c6
        obtain rfl := Option.some.inj H
        go_enter Tryd.func53, Tryd.ntmps53
        go_wp2_with (first | ((with_reducible refine gate_callee (f := 51) rfl ?_); refine goesL_ (some 6) rfl rfl Tryd.func51 (by kernel_rfl) rfl #[.string a0] rfl (by (try simp only [List.map_toArray, List.map_cons, List.map_nil]); first | done | rfl | (simp only [List.length_drop, List.length_take]; rfl)) ?_; (with_reducible refine (riverbankref02_Is.calls k a0 true _ A3.out).mono ?_); rintro e w' ⟨rfl, ⟨nd, rfl⟩⟩; refine ⟨_, rfl, ?_⟩))
        go_ret
        exact ⟨by first | rfl | (simp; done) | (simp [*]; done), by repeat (first | exact Drawn0.refl _ | apply Drawn0.step)⟩
      · rw [if_neg c6] at H
        have c6b0 : decide (89 < a1) = false := decide_eq_false c6
        clear c6
        by_cases c7 : 0 ≤ a1
        · rw [if_pos c7] at H
          have c7b0 : decide (0 ≤ a1) = true := decide_eq_true c7
          clear c7
          by_cases c8 : a1 < (a0.size : Int)
          · rw [if_pos c8] at H
            have c8b0 : decide (a1 < (a0.size : Int)) = true := decide_eq_true c8
            clear c8
            obtain rfl := Option.some.inj H
            go_enter Tryd.func53, Tryd.ntmps53
            go_wp2_with (first | ((with_reducible refine gate_callee (f := 51) rfl ?_); refine goesL_ (some 6) rfl rfl Tryd.func51 (by kernel_rfl) rfl #[.string a0] rfl (by (try simp only [List.map_toArray, List.map_cons, List.map_nil]); first | done | rfl | (simp only [List.length_drop, List.length_take]; rfl)) ?_; (with_reducible refine (riverbankref02_Is.calls k a0 true _ A3.out).mono ?_); rintro e w' ⟨rfl, ⟨nd, rfl⟩⟩; refine ⟨_, rfl, ?_⟩; have p9 : 0 ≤ (a1 : Int) := of_decide_eq_true (by first | (with_reducible assumption) | assumption); have q9 : a1 < (a0.size : Int) := of_decide_eq_true (by first | (with_reducible assumption) | assumption); have hx9 := bt_at a0 a1; replace p9 := eq_true p9; replace q9 := eq_true q9))
            go_ret
            exact ⟨by first | rfl | (simp; done) | (simp [*]; done), by repeat (first | exact Drawn0.refl _ | apply Drawn0.step)⟩
          · rw [if_neg c8] at H
            exact absurd H (by simp)
        · rw [if_neg c7] at H
          exact absurd H (by simp)
  · replace c4 := Bool.eq_false_iff.mpr c4
    subst c4
    have H1 : (some 46) = some r := by rw [if_neg (show ¬ (false = true) by decide)] at H; exact H
    clear H
    have H := H1
    clear H1
    obtain rfl := Option.some.inj H
    go_enter Tryd.func53, Tryd.ntmps53
    go_wp2_with (first | ((with_reducible refine gate_callee (f := 51) rfl ?_); refine goesL_ (some 6) rfl rfl Tryd.func51 (by kernel_rfl) rfl #[.string a0] rfl (by (try simp only [List.map_toArray, List.map_cons, List.map_nil]); first | done | rfl | (simp only [List.length_drop, List.length_take]; rfl)) ?_; (with_reducible refine (riverbankref02_Is.calls k a0 false _ A3.out).mono ?_); rintro e w' ⟨rfl, ⟨nd, rfl⟩⟩; refine ⟨_, rfl, ?_⟩))
    go_ret
    exact ⟨by first | rfl | (simp; done) | (simp [*]; done), by repeat (first | exact Drawn0.refl _ | apply Drawn0.step)⟩

end Go.Proofs.YtkbimiimgcklaaaDoor.Print
