/- Merged by a program of this session (wip/gprint/merge.py): what this claim needs of this session's texts, each part as it was. -/
import Derived.Test.YtkbimiimgcklaaaDoorAllBoardSquares7
import Derived.Test.YtkbimiimgcklaaaDoorAllBoardSquares10
import Derived.Test.YtkbimiimgcklaaaDoorAllBoardSquares15
import Derived.Test.YtkbimiimgcklaaaDoorAllBoardSquares25
namespace Go.Proofs.YtkbimiimgcklaaaDoor.Print
end Go.Proofs.YtkbimiimgcklaaaDoor.Print

-- of YtkbimiimgcklaaaDoorPrint41
-- Written by a program of this session (wip/gprint/gprint.py) over the kit's print; the parts marked GIVEN by hand.
namespace Go.Proofs.YtkbimiimgcklaaaDoor.Print
open Go.RowKit Go.Proofs.YtkbimiimgcklaaaDoorW.PrintWords Go.Proofs.YtkbimiimgcklaaaDoorW.PrintLast Go.Proofs.YtkbimiimgcklaaaDoorW.PrintMore
attribute [local go_sem] max2_int min2_int max_two min_two max_three min_three max_four min_four   -- for this text's walks alone
set_option linter.unusedVariables false
set_option linter.unusedSimpArgs false

/-! ### riverbanklaw02_BoardSquares: function 15 -/
mutual
def riverbanklaw02_BoardSquares.j0 : Nat → Int → Int → Bool → Option (Bool)
  | 0, _, _, _ => none
  | k + 1, x0, x1, x19 => if x19 = true then ((riverbanklaw02_live.f).bind fun t574 => (some t574)) else ((board_File.f x0).bind fun t575 => ((board_File.f x1).bind fun t576 => (if t575 = t576 then ((board_Rank.f x0).bind fun t577 => ((board_Rank.f x1).bind fun t578 => (riverbanklaw02_BoardSquares.j1 k x0 x1 (t577 == t578)))) else (riverbanklaw02_BoardSquares.j1 k x0 x1 false))))
def riverbanklaw02_BoardSquares.j1 : Nat → Int → Int → Bool → Option (Bool)
  | 0, _, _, _ => none
  | k + 1, x0, x1, x5 => if (x5 == (x0 == x1)) = true then ((board_Rank.f x0).bind fun t579 => ((board_Rank.f x1).bind fun t580 => (if x0 < x1 then ((board_Rank.f x0).bind fun t581 => ((board_Rank.f x1).bind fun t582 => (if ((decide (t579 < t580)) == (t581 != t582)) = true then ((riverbanklaw02_live.f).bind fun t583 => (some t583)) else (some false)))) else (if ((decide (t579 < t580)) == false) = true then ((riverbanklaw02_live.f).bind fun t584 => (some t584)) else (some false))))) else (some false)
end
def riverbanklaw02_BoardSquares.f (k : Nat) (a0 : Int) (a1 : Int) : Option (Bool) := if a0 < 0 then (riverbanklaw02_BoardSquares.j0 k a0 a1 true) else (if a0 > 89 then (riverbanklaw02_BoardSquares.j0 k a0 a1 true) else (if a1 < 0 then (riverbanklaw02_BoardSquares.j0 k a0 a1 true) else (riverbanklaw02_BoardSquares.j0 k a0 a1 (decide (a1 > 89)))))
theorem riverbanklaw02_BoardSquares.mono_l : ∀ k, (∀ y0 y1 y2, LeO (riverbanklaw02_BoardSquares.j0 k y0 y1 y2) (riverbanklaw02_BoardSquares.j0 (k + 1) y0 y1 y2)) ∧ (∀ y0 y1 y2, LeO (riverbanklaw02_BoardSquares.j1 k y0 y1 y2) (riverbanklaw02_BoardSquares.j1 (k + 1) y0 y1 y2))
  | 0 => ⟨fun _ _ _ r h => by simp [riverbanklaw02_BoardSquares.j0] at h, fun _ _ _ r h => by simp [riverbanklaw02_BoardSquares.j1] at h⟩
  | k + 1 => by
    obtain ⟨ih0, ih1⟩ := riverbanklaw02_BoardSquares.mono_l k
    refine ⟨?_, ?_⟩
    · intro y0 y1 y2
      unfold riverbanklaw02_BoardSquares.j0
      repeat' first
      | (with_reducible exact ih0 _ _ _)
      | (with_reducible exact ih1 _ _ _)
      | (with_reducible exact LeO.refl _)
      | (with_reducible exact LeO.none _)
      | (with_reducible refine LeO.ite ?_ ?_)
      | (with_reducible refine LeO.bind ?_ (fun _ => ?_))
      | exact ih0 _ _ _
      | exact ih1 _ _ _
      | exact LeO.none _
      | refine LeO.ite ?_ ?_
      | refine LeO.bind ?_ (fun _ => ?_)
    · intro y0 y1 y2
      unfold riverbanklaw02_BoardSquares.j1
      repeat' first
      | (with_reducible exact ih0 _ _ _)
      | (with_reducible exact ih1 _ _ _)
      | (with_reducible exact LeO.refl _)
      | (with_reducible exact LeO.none _)
      | (with_reducible refine LeO.ite ?_ ?_)
      | (with_reducible refine LeO.bind ?_ (fun _ => ?_))
      | exact ih0 _ _ _
      | exact ih1 _ _ _
      | exact LeO.none _
      | refine LeO.ite ?_ ?_
      | refine LeO.bind ?_ (fun _ => ?_)
theorem riverbanklaw02_BoardSquares.mono : ∀ a0 a1 k, LeO (riverbanklaw02_BoardSquares.f k a0 a1) (riverbanklaw02_BoardSquares.f (k + 1) a0 a1) := by
  intro a0 a1 k
  obtain ⟨ih0, ih1⟩ := riverbanklaw02_BoardSquares.mono_l k
  unfold riverbanklaw02_BoardSquares.f
  repeat' first
      | (with_reducible exact ih0 _ _ _)
      | (with_reducible exact ih1 _ _ _)
      | (with_reducible exact LeO.refl _)
      | (with_reducible exact LeO.none _)
      | (with_reducible refine LeO.ite ?_ ?_)
      | (with_reducible refine LeO.bind ?_ (fun _ => ?_))
      | exact ih0 _ _ _
      | exact ih1 _ _ _
      | exact LeO.none _
      | refine LeO.ite ?_ ?_
      | refine LeO.bind ?_ (fun _ => ?_)
set_option maxHeartbeats 8000000 in
set_option maxRecDepth 100000 in
theorem riverbanklaw02_BoardSquares.calls (k : Nat) (a0 : Int) (a1 : Int) (r : Bool) (w : World) (hT : TabHere w) (h : riverbanklaw02_BoardSquares.f k a0 a1 = some r) :
    Calls Tryd.prog 15 #[.int .i64 a0, .int .i64 a1] w fun e w' => e = .returned (.bool r) ∧ Below w.heap.size w w' := by
  have HT := Aside0.mk hT
  clear hT
  have HB := Aside0.mk (Below.refl w.heap.size w)
  have H : (if a0 < 0 then (riverbanklaw02_BoardSquares.j0 k a0 a1 true) else (if a0 > 89 then (riverbanklaw02_BoardSquares.j0 k a0 a1 true) else (if a1 < 0 then (riverbanklaw02_BoardSquares.j0 k a0 a1 true) else (riverbanklaw02_BoardSquares.j0 k a0 a1 (decide (a1 > 89)))))) = some r := h
  clear h
  have HC3 := Aside0.mk H
  clear H
  go_enter Tryd.func15, Tryd.ntmps15
  go_upto_region 1 with (fail)
  go_cut [19] (fun v19 wc => ∃ (kq : Nat) (x19_2 : Bool), v19 = .bool x19_2 ∧ Aside0 (riverbanklaw02_BoardSquares.j0 kq a0 a1 x19_2 = some r) ∧ Aside0 (kq ≤ k) ∧ Aside0 (Below w.heap.size w wc))
  case first =>
    have H := HC3.out
    clear HC3
    by_cases c4 : a0 < 0
    · rw [if_pos c4] at H
      have c4b0 : decide (a0 < 0) = true := decide_eq_true c4
      clear c4
      (first | rw [c4b0] | (simp only [i64_w, i32_w]; rw [c4b0]) | skip)
      have H' := Aside0.mk H
      clear H
      go_wp2
      go_meet
      case rel => exact ⟨_, (true), (by first | rfl | (simp; done) | (simp [*]; done)), H', ⟨by first | omega | exact Nat.le_refl _⟩, ⟨by repeat (first | (with_reducible first | exact HB.out | apply below_alloc | apply pw_below_drewN | apply below_drew1) | exact HB.out)⟩⟩
    · rw [if_neg c4] at H
      have c4b0 : decide (a0 < 0) = false := decide_eq_false c4
      clear c4
      (first | rw [c4b0] | (simp only [i64_w, i32_w]; rw [c4b0]) | skip)
      by_cases c5 : a0 > 89
      · rw [if_pos c5] at H
        have c5b0 : decide (89 < a0) = true := decide_eq_true c5
        clear c5
        have H' := Aside0.mk H
        clear H
        go_wp2
        go_meet
        case rel => exact ⟨_, (true), (by first | rfl | (simp; done) | (simp [*]; done)), H', ⟨by first | omega | exact Nat.le_refl _⟩, ⟨by repeat (first | (with_reducible first | exact HB.out | apply below_alloc | apply pw_below_drewN | apply below_drew1) | exact HB.out)⟩⟩
      · rw [if_neg c5] at H
        have c5b0 : decide (89 < a0) = false := decide_eq_false c5
        clear c5
        by_cases c6 : a1 < 0
        · rw [if_pos c6] at H
          have c6b0 : decide (a1 < 0) = true := decide_eq_true c6
          clear c6
          have H' := Aside0.mk H
          clear H
          go_wp2
          go_meet
          case rel => exact ⟨_, (true), (by first | rfl | (simp; done) | (simp [*]; done)), H', ⟨by first | omega | exact Nat.le_refl _⟩, ⟨by repeat (first | (with_reducible first | exact HB.out | apply below_alloc | apply pw_below_drewN | apply below_drew1) | exact HB.out)⟩⟩
        · rw [if_neg c6] at H
          have c6b0 : decide (a1 < 0) = false := decide_eq_false c6
          clear c6
          have H' := Aside0.mk H
          clear H
          go_wp2
          go_meet
          case rel => exact ⟨_, (decide (a1 > 89)), (by first | rfl | (simp; done) | (simp [*]; done)), H', ⟨by first | omega | exact Nat.le_refl _⟩, ⟨by repeat (first | (with_reducible first | exact HB.out | apply below_alloc | apply pw_below_drewN | apply below_drew1) | exact HB.out)⟩⟩
  case rest =>
    clear HC3
    try clear c1
    try clear p2
    try clear c4
    try clear c4b0
    try clear c5
    try clear c5b0
    try clear c6
    try clear c6b0
    obtain ⟨kq, x19_2, rfl, HA, HJ2, HB⟩ := hcut
    cases kq with
    | zero => exact absurd HA.out (by simp [riverbanklaw02_BoardSquares.j0])
    | succ kj2 =>
      have H := HA.out
      clear HA
      simp only [riverbanklaw02_BoardSquares.j0] at H
      by_cases c7 : x19_2 = true
      · subst c7
        have H1 : ((riverbanklaw02_live.f).bind fun t574 => (some t574)) = some r := by rw [if_pos rfl] at H; exact H
        clear H
        have H := H1
        clear H1
        replace H := Option.bind_eq_some_iff.mp H
        obtain ⟨t574, A80, H⟩ := H
        replace H : (some t574) = some r := H
        have A8 := Aside0.mk A80
        clear A80
        obtain rfl := Option.some.inj H
        go_wp2_with (first | ((with_reducible refine gate_callee (f := 48) rfl ?_); refine goesL_ (some 20) rfl rfl Tryd.func48 (by kernel_rfl) rfl #[] rfl (by (try simp only [List.map_toArray, List.map_cons, List.map_nil]); first | done | rfl | (simp only [List.length_drop, List.length_take]; rfl)) ?_; (with_reducible refine (riverbanklaw02_live.calls  t574 _ (tab_of HT.out (by repeat (first | (with_reducible first | exact HB.out | apply below_alloc | apply pw_below_drewN | apply below_drew1) | exact HB.out))) A8.out).mono ?_); rintro e w9 ⟨rfl, hb⟩; refine ⟨_, rfl, ?_⟩; have n0_ := Aside0.mk (below_step (by repeat (first | (with_reducible first | exact HB.out | apply below_alloc | apply pw_below_drewN | apply below_drew1) | exact HB.out)) hb); clear HB; have HB := n0_; clear n0_; (try clear hb); (try clear hb2); (try clear hk); (try clear hi)))
        go_ret
        exact ⟨by first | rfl | (simp [errW_none, errW_some] <;> rfl) | (simp [*, errW_none, errW_some] <;> rfl), by repeat (first | (with_reducible first | exact HB.out | apply below_alloc | apply pw_below_drewN | apply below_drew1) | exact HB.out)⟩
      · replace c7 := Bool.eq_false_iff.mpr c7
        subst c7
        have H1 : ((board_File.f a0).bind fun t575 => ((board_File.f a1).bind fun t576 => (if t575 = t576 then ((board_Rank.f a0).bind fun t577 => ((board_Rank.f a1).bind fun t578 => (riverbanklaw02_BoardSquares.j1 kj2 a0 a1 (t577 == t578)))) else (riverbanklaw02_BoardSquares.j1 kj2 a0 a1 false)))) = some r := by rw [if_neg (show ¬ (false = true) by decide)] at H; exact H
        clear H
        have H := H1
        clear H1
        have HC10 := Aside0.mk H
        clear H
        go_upto_region 3 with (fail)
        go_cut [5] (fun v5 wc => ∃ (kq : Nat) (x5_9 : Bool), v5 = .bool x5_9 ∧ Aside0 (riverbanklaw02_BoardSquares.j1 kq a0 a1 x5_9 = some r) ∧ Aside0 (kq ≤ kj2) ∧ Aside0 (Below w.heap.size w wc))
        case first =>
          have H := HC10.out
          clear HC10
          replace H := Option.bind_eq_some_iff.mp H
          obtain ⟨t575, A110, H⟩ := H
          replace H : ((board_File.f a1).bind fun t576 => (if t575 = t576 then ((board_Rank.f a0).bind fun t577 => ((board_Rank.f a1).bind fun t578 => (riverbanklaw02_BoardSquares.j1 kj2 a0 a1 (t577 == t578)))) else (riverbanklaw02_BoardSquares.j1 kj2 a0 a1 false))) = some r := H
          have A11 := Aside0.mk A110
          clear A110
          replace H := Option.bind_eq_some_iff.mp H
          obtain ⟨t576, A120, H⟩ := H
          replace H : (if t575 = t576 then ((board_Rank.f a0).bind fun t577 => ((board_Rank.f a1).bind fun t578 => (riverbanklaw02_BoardSquares.j1 kj2 a0 a1 (t577 == t578)))) else (riverbanklaw02_BoardSquares.j1 kj2 a0 a1 false)) = some r := H
          have A12 := Aside0.mk A120
          clear A120
          by_cases c13 : t575 = t576
          · rw [if_pos c13] at H
            have c13b0 : (t575 == t576) = true := beq_iff_eq.mpr c13
            have c13b1 : (t575 != t576) = false := bne_eq_false_iff_eq.mpr c13
            clear c13
            (first | rw [c13b0] | (simp only [i64_w, i32_w]; rw [c13b0]) | skip)
            replace H := Option.bind_eq_some_iff.mp H
            obtain ⟨t577, A140, H⟩ := H
            replace H : ((board_Rank.f a1).bind fun t578 => (riverbanklaw02_BoardSquares.j1 kj2 a0 a1 (t577 == t578))) = some r := H
            have A14 := Aside0.mk A140
            clear A140
            replace H := Option.bind_eq_some_iff.mp H
            obtain ⟨t578, A150, H⟩ := H
            replace H : (riverbanklaw02_BoardSquares.j1 kj2 a0 a1 (t577 == t578)) = some r := H
            have A15 := Aside0.mk A150
            clear A150
            have H' := Aside0.mk H
            clear H
            go_wp2_with (first | ((with_reducible refine gate_callee (f := 65) rfl ?_); refine goesL_ (some 22) rfl rfl Tryd.func65 (by kernel_rfl) rfl #[.int .i64 a0] rfl (by (try simp only [List.map_toArray, List.map_cons, List.map_nil]); first | done | rfl | (simp only [List.length_drop, List.length_take]; rfl)) ?_; (with_reducible refine (board_File.calls a0 t575 _ A11.out).mono ?_); rintro e w' ⟨rfl, ⟨nd, rfl⟩⟩; refine ⟨_, rfl, ?_⟩) | ((with_reducible refine gate_callee (f := 65) rfl ?_); refine goesL_ (some 24) rfl rfl Tryd.func65 (by kernel_rfl) rfl #[.int .i64 a1] rfl (by (try simp only [List.map_toArray, List.map_cons, List.map_nil]); first | done | rfl | (simp only [List.length_drop, List.length_take]; rfl)) ?_; (with_reducible refine (board_File.calls a1 t576 _ A12.out).mono ?_); rintro e w' ⟨rfl, ⟨nd, rfl⟩⟩; refine ⟨_, rfl, ?_⟩) | (go_at_call 67; (with_reducible refine (board_Rank.calls a0 t577 _ A14.out).mono ?_); rintro e w' ⟨rfl, ⟨nd, rfl⟩⟩) | (go_at_call 67; (with_reducible refine (board_Rank.calls a1 t578 _ A15.out).mono ?_); rintro e w' ⟨rfl, ⟨nd, rfl⟩⟩))
            go_meet
            case rel => exact ⟨_, ((t577 == t578)), (by first | rfl | (simp; done) | (simp [*]; done)), H', ⟨by have := HJ2.out; first | omega | exact Nat.le_refl _⟩, ⟨by repeat (first | (with_reducible first | exact HB.out | apply below_alloc | apply pw_below_drewN | apply below_drew1) | exact HB.out)⟩⟩
          · rw [if_neg c13] at H
            have c13b0 : (t575 == t576) = false := beq_eq_false_iff_ne.mpr c13
            have c13b1 : (t575 != t576) = true := bne_iff_ne.mpr c13
            (first | rw [c13b0] | (simp only [i64_w, i32_w]; rw [c13b0]) | skip)
            have H' := Aside0.mk H
            clear H
            go_wp2_with (first | ((with_reducible refine gate_callee (f := 65) rfl ?_); refine goesL_ (some 22) rfl rfl Tryd.func65 (by kernel_rfl) rfl #[.int .i64 a0] rfl (by (try simp only [List.map_toArray, List.map_cons, List.map_nil]); first | done | rfl | (simp only [List.length_drop, List.length_take]; rfl)) ?_; (with_reducible refine (board_File.calls a0 t575 _ A11.out).mono ?_); rintro e w' ⟨rfl, ⟨nd, rfl⟩⟩; refine ⟨_, rfl, ?_⟩) | ((with_reducible refine gate_callee (f := 65) rfl ?_); refine goesL_ (some 24) rfl rfl Tryd.func65 (by kernel_rfl) rfl #[.int .i64 a1] rfl (by (try simp only [List.map_toArray, List.map_cons, List.map_nil]); first | done | rfl | (simp only [List.length_drop, List.length_take]; rfl)) ?_; (with_reducible refine (board_File.calls a1 t576 _ A12.out).mono ?_); rintro e w' ⟨rfl, ⟨nd, rfl⟩⟩; refine ⟨_, rfl, ?_⟩))
            go_meet
            case rel => exact ⟨_, (false), (by first | rfl | (simp; done) | (simp [*]; done)), H', ⟨by have := HJ2.out; first | omega | exact Nat.le_refl _⟩, ⟨by repeat (first | (with_reducible first | exact HB.out | apply below_alloc | apply pw_below_drewN | apply below_drew1) | exact HB.out)⟩⟩
        case rest =>
          clear HC10
          try clear c1
          try clear p2
          try clear c4
          try clear c4b0
          try clear c5
          try clear c5b0
          try clear c6
          try clear c6b0
          try clear c7
          try clear c13
          try clear c13b0
          try clear c13b1
          try clear c15
          try clear p2
          obtain ⟨kq, x5_9, rfl, HA, HJ9, HB⟩ := hcut
          cases kq with
          | zero => exact absurd HA.out (by simp [riverbanklaw02_BoardSquares.j1])
          | succ kj9 =>
            have H := HA.out
            clear HA
            simp only [riverbanklaw02_BoardSquares.j1] at H
            by_cases c16 : (x5_9 == (a0 == a1)) = true
            · rw [if_pos c16] at H
              have c16b0 : (x5_9 == (a0 == a1)) = true := c16
              (try (have c16b1 : decide (x5_9 = (a0 == a1)) = true := by simpa using c16))
              (try (have c16b2 : (x5_9 == (a0 == a1)) = true := by simpa using c16))
              clear c16
              replace H := Option.bind_eq_some_iff.mp H
              obtain ⟨t579, A170, H⟩ := H
              replace H : ((board_Rank.f a1).bind fun t580 => (if a0 < a1 then ((board_Rank.f a0).bind fun t581 => ((board_Rank.f a1).bind fun t582 => (if ((decide (t579 < t580)) == (t581 != t582)) = true then ((riverbanklaw02_live.f).bind fun t583 => (some t583)) else (some false)))) else (if ((decide (t579 < t580)) == false) = true then ((riverbanklaw02_live.f).bind fun t584 => (some t584)) else (some false)))) = some r := H
              have A17 := Aside0.mk A170
              clear A170
              replace H := Option.bind_eq_some_iff.mp H
              obtain ⟨t580, A180, H⟩ := H
              replace H : (if a0 < a1 then ((board_Rank.f a0).bind fun t581 => ((board_Rank.f a1).bind fun t582 => (if ((decide (t579 < t580)) == (t581 != t582)) = true then ((riverbanklaw02_live.f).bind fun t583 => (some t583)) else (some false)))) else (if ((decide (t579 < t580)) == false) = true then ((riverbanklaw02_live.f).bind fun t584 => (some t584)) else (some false))) = some r := H
              have A18 := Aside0.mk A180
              clear A180
              by_cases c19 : a0 < a1
              · rw [if_pos c19] at H
                have c19b0 : decide (a0 < a1) = true := decide_eq_true c19
                clear c19
                replace H := Option.bind_eq_some_iff.mp H
                obtain ⟨t581, A200, H⟩ := H
                replace H : ((board_Rank.f a1).bind fun t582 => (if ((decide (t579 < t580)) == (t581 != t582)) = true then ((riverbanklaw02_live.f).bind fun t583 => (some t583)) else (some false))) = some r := H
                have A20 := Aside0.mk A200
                clear A200
                have eA20_A17 := Aside0.mk (Option.some.inj (A20.out.symm.trans A17.out) : t581 = t579)
                replace H := Option.bind_eq_some_iff.mp H
                obtain ⟨t582, A210, H⟩ := H
                replace H : (if ((decide (t579 < t580)) == (t581 != t582)) = true then ((riverbanklaw02_live.f).bind fun t583 => (some t583)) else (some false)) = some r := H
                have A21 := Aside0.mk A210
                clear A210
                (try rw [eA20_A17.out] at A21)
                have eA21_A18 := Aside0.mk (Option.some.inj (A21.out.symm.trans A18.out) : t582 = t580)
                by_cases c22 : ((decide (t579 < t580)) == (t581 != t582)) = true
                · rw [if_pos c22] at H
                  have c22b0 : ((decide (t579 < t580)) == (t581 != t582)) = true := c22
                  (try rw [eA20_A17.out] at c22b0)
                  (try rw [eA21_A18.out] at c22b0)
                  (try (have c22b1 : decide ((decide (t579 < t580)) = (t581 != t582)) = true := by simpa using c22))
                  (try rw [eA20_A17.out] at c22b1)
                  (try rw [eA21_A18.out] at c22b1)
                  (try (have c22b2 : ((decide (t579 < t580)) == (t581 != t582)) = true := by simpa using c22))
                  (try rw [eA20_A17.out] at c22b2)
                  (try rw [eA21_A18.out] at c22b2)
                  clear c22
                  replace H := Option.bind_eq_some_iff.mp H
                  obtain ⟨t583, A230, H⟩ := H
                  replace H : (some t583) = some r := H
                  have A23 := Aside0.mk A230
                  clear A230
                  (try rw [eA20_A17.out] at A23)
                  (try rw [eA21_A18.out] at A23)
                  obtain rfl := Option.some.inj H
                  go_wp2_with (first | (go_at_call 67; (with_reducible refine (board_Rank.calls a0 t579 _ A17.out).mono ?_); rintro e w' ⟨rfl, ⟨nd, rfl⟩⟩) | (go_at_call 67; (with_reducible refine (board_Rank.calls a1 t580 _ A18.out).mono ?_); rintro e w' ⟨rfl, ⟨nd, rfl⟩⟩) | (go_at_call 67; (with_reducible refine (board_Rank.calls a0 t579 _ A20.out).mono ?_); rintro e w' ⟨rfl, ⟨nd, rfl⟩⟩) | (go_at_call 67; (with_reducible refine (board_Rank.calls a1 t580 _ A21.out).mono ?_); rintro e w' ⟨rfl, ⟨nd, rfl⟩⟩) | (go_at_call 48; (with_reducible refine (riverbanklaw02_live.calls  t583 _ (tab_of HT.out (by repeat (first | (with_reducible first | exact HB.out | apply below_alloc | apply pw_below_drewN | apply below_drew1) | exact HB.out))) A23.out).mono ?_); rintro e w24 ⟨rfl, hb⟩; have n0_ := Aside0.mk (below_step (by repeat (first | (with_reducible first | exact HB.out | apply below_alloc | apply pw_below_drewN | apply below_drew1) | exact HB.out)) hb); clear HB; have HB := n0_; clear n0_; (try clear hb); (try clear hb2); (try clear hk); (try clear hi)))
                  go_ret
                  exact ⟨by first | rfl | (simp [errW_none, errW_some] <;> rfl) | (simp [*, errW_none, errW_some] <;> rfl), by repeat (first | (with_reducible first | exact HB.out | apply below_alloc | apply pw_below_drewN | apply below_drew1) | exact HB.out)⟩
                · rw [if_neg c22] at H
                  have c22b0 : ((decide (t579 < t580)) == (t581 != t582)) = false := by simpa using c22
                  (try rw [eA20_A17.out] at c22b0)
                  (try rw [eA21_A18.out] at c22b0)
                  (try (have c22b1 : decide ((decide (t579 < t580)) = (t581 != t582)) = false := by simpa using c22))
                  (try rw [eA20_A17.out] at c22b1)
                  (try rw [eA21_A18.out] at c22b1)
                  (try (have c22b2 : ((decide (t579 < t580)) == (t581 != t582)) = false := by simpa using c22))
                  (try rw [eA20_A17.out] at c22b2)
                  (try rw [eA21_A18.out] at c22b2)
                  (try (have c22b3 : ¬ ((decide (t579 < t580)) = (t581 != t582)) := by simpa using c22))
                  (try rw [eA20_A17.out] at c22b3)
                  (try rw [eA21_A18.out] at c22b3)
                  clear c22
                  obtain rfl := Option.some.inj H
                  go_wp2_with (first | (go_at_call 67; (with_reducible refine (board_Rank.calls a0 t579 _ A17.out).mono ?_); rintro e w' ⟨rfl, ⟨nd, rfl⟩⟩) | (go_at_call 67; (with_reducible refine (board_Rank.calls a1 t580 _ A18.out).mono ?_); rintro e w' ⟨rfl, ⟨nd, rfl⟩⟩) | (go_at_call 67; (with_reducible refine (board_Rank.calls a0 t579 _ A20.out).mono ?_); rintro e w' ⟨rfl, ⟨nd, rfl⟩⟩) | (go_at_call 67; (with_reducible refine (board_Rank.calls a1 t580 _ A21.out).mono ?_); rintro e w' ⟨rfl, ⟨nd, rfl⟩⟩))
                  go_ret
                  exact ⟨by first | rfl | (simp [errW_none, errW_some] <;> rfl) | (simp [*, errW_none, errW_some] <;> rfl), by repeat (first | (with_reducible first | exact HB.out | apply below_alloc | apply pw_below_drewN | apply below_drew1) | exact HB.out)⟩
              · rw [if_neg c19] at H
                have c19b0 : decide (a0 < a1) = false := decide_eq_false c19
                clear c19
                by_cases c25 : ((decide (t579 < t580)) == false) = true
                · rw [if_pos c25] at H
                  have c25b0 : ((decide (t579 < t580)) == false) = true := c25
                  (try (have c25b1 : decide ((decide (t579 < t580)) = false) = true := by simpa using c25))
                  (try (have c25b2 : ((decide (t579 < t580)) == false) = true := by simpa using c25))
                  clear c25
                  replace H := Option.bind_eq_some_iff.mp H
                  obtain ⟨t584, A260, H⟩ := H
                  replace H : (some t584) = some r := H
                  have A26 := Aside0.mk A260
                  clear A260
                  obtain rfl := Option.some.inj H
                  go_wp2_with (first | (go_at_call 67; (with_reducible refine (board_Rank.calls a0 t579 _ A17.out).mono ?_); rintro e w' ⟨rfl, ⟨nd, rfl⟩⟩) | (go_at_call 67; (with_reducible refine (board_Rank.calls a1 t580 _ A18.out).mono ?_); rintro e w' ⟨rfl, ⟨nd, rfl⟩⟩) | (go_at_call 48; (with_reducible refine (riverbanklaw02_live.calls  t584 _ (tab_of HT.out (by repeat (first | (with_reducible first | exact HB.out | apply below_alloc | apply pw_below_drewN | apply below_drew1) | exact HB.out))) A26.out).mono ?_); rintro e w27 ⟨rfl, hb⟩; have n0_ := Aside0.mk (below_step (by repeat (first | (with_reducible first | exact HB.out | apply below_alloc | apply pw_below_drewN | apply below_drew1) | exact HB.out)) hb); clear HB; have HB := n0_; clear n0_; (try clear hb); (try clear hb2); (try clear hk); (try clear hi)))
                  go_ret
                  exact ⟨by first | rfl | (simp [errW_none, errW_some] <;> rfl) | (simp [*, errW_none, errW_some] <;> rfl), by repeat (first | (with_reducible first | exact HB.out | apply below_alloc | apply pw_below_drewN | apply below_drew1) | exact HB.out)⟩
                · rw [if_neg c25] at H
                  have c25b0 : ((decide (t579 < t580)) == false) = false := by simpa using c25
                  (try (have c25b1 : decide ((decide (t579 < t580)) = false) = false := by simpa using c25))
                  (try (have c25b2 : ((decide (t579 < t580)) == false) = false := by simpa using c25))
                  (try (have c25b3 : ¬ ((decide (t579 < t580)) = false) := by simpa using c25))
                  clear c25
                  obtain rfl := Option.some.inj H
                  go_wp2_with (first | (go_at_call 67; (with_reducible refine (board_Rank.calls a0 t579 _ A17.out).mono ?_); rintro e w' ⟨rfl, ⟨nd, rfl⟩⟩) | (go_at_call 67; (with_reducible refine (board_Rank.calls a1 t580 _ A18.out).mono ?_); rintro e w' ⟨rfl, ⟨nd, rfl⟩⟩))
                  go_ret
                  exact ⟨by first | rfl | (simp [errW_none, errW_some] <;> rfl) | (simp [*, errW_none, errW_some] <;> rfl), by repeat (first | (with_reducible first | exact HB.out | apply below_alloc | apply pw_below_drewN | apply below_drew1) | exact HB.out)⟩
            · rw [if_neg c16] at H
              have c16b0 : (x5_9 == (a0 == a1)) = false := by simpa using c16
              (try (have c16b1 : decide (x5_9 = (a0 == a1)) = false := by simpa using c16))
              (try (have c16b2 : (x5_9 == (a0 == a1)) = false := by simpa using c16))
              (try (have c16b3 : ¬ (x5_9 = (a0 == a1)) := by simpa using c16))
              clear c16
              obtain rfl := Option.some.inj H
              go_wp2
              go_ret
              exact ⟨by first | rfl | (simp [errW_none, errW_some] <;> rfl) | (simp [*, errW_none, errW_some] <;> rfl), by repeat (first | (with_reducible first | exact HB.out | apply below_alloc | apply pw_below_drewN | apply below_drew1) | exact HB.out)⟩

/-- THE ONE PURE STATEMENT of riverbanklaw02_BoardSquares: yours. -/
def riverbanklaw02_BoardSquares.Pure : Prop := ∀ (a0 : Int) (a1 : Int), (Lit.int .i64 a0).wf = true → (Lit.int .i64 a1).wf = true → ∃ k, riverbanklaw02_BoardSquares.f k a0 a1 = some true
theorem riverbanklaw02_BoardSquares.walk (P : riverbanklaw02_BoardSquares.Pure) (a0 : Int) (a1 : Int) (w : World) (hT : TabHere w) (w0 : (Lit.int .i64 a0).wf = true) (w1 : (Lit.int .i64 a1).wf = true) :
    Calls Tryd.prog 15 #[.int .i64 a0, .int .i64 a1] w fun e w' => e = .returned (.bool true) ∧ Below w.heap.size w w' := by
  obtain ⟨k, h⟩ := P a0 a1 w0 w1
  refine (riverbanklaw02_BoardSquares.calls k a0 a1 true w hT h).mono ?_
  rintro e w' ⟨rfl, hd⟩
  exact ⟨rfl, hd⟩

end Go.Proofs.YtkbimiimgcklaaaDoor.Print
