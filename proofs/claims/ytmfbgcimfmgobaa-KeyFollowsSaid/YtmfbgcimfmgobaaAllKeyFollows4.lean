/- Merged by a program of this session (wip/gprint/merge.py): what this claim needs of this session's texts, each part as it was. -/
import Derived.Test.YtmfbgcimfmgobaaAllKeyFollows3

-- of YtmfbgcimfmgobaaPrint21
-- Written by a program of this session (wip/gprint/gprint.py) over the kit's print; the parts marked GIVEN by hand.
namespace Go.Proofs.Ytmfbgcimfmgobaa.Print
open Go.RowKit Go.Proofs.YtmfbgcimfmgobaaW.PrintWords Go.Proofs.YtmfbgcimfmgobaaW.PrintLast Go.Proofs.YtmfbgcimfmgobaaW.PrintMore
attribute [local go_sem] max2_int min2_int max_two min_two max_three min_three max_four min_four   -- for this text's walks alone
set_option linter.unusedVariables false
set_option linter.unusedSimpArgs false
/-! ### riverbankref05_half: function 101 -/
def riverbankref05_half.f (a0 : Int) (a1 : Int) (a2 : Int) (a3 : ByteArray) (a4 : Int) : Option (Bool) := if a1 > a0 then (if 0 ≤ (wrap64 (a2 + a4)) then (if (wrap64 (a2 + a4)) < (a3.size : Int) then (some ((bt a3 (wrap64 (a2 + a4))) == 46)) else (none)) else (none)) else (if 0 ≤ (wrap64 (a2 - a4)) then (if (wrap64 (a2 - a4)) < (a3.size : Int) then (some ((bt a3 (wrap64 (a2 - a4))) == 46)) else (none)) else (none))
set_option maxHeartbeats 8000000 in
set_option maxRecDepth 100000 in
theorem riverbankref05_half.calls (a0 : Int) (a1 : Int) (a2 : Int) (a3 : ByteArray) (a4 : Int) (r : Bool) (w : World) (h : riverbankref05_half.f a0 a1 a2 a3 a4 = some r) :
    Calls Try.prog 101 #[.int .i64 a0, .int .i64 a1, .int .i64 a2, .string a3, .int .i64 a4] w fun e w' => e = .returned (.bool r) ∧ Drawn0 w w' := by
  have H : (if a1 > a0 then (if 0 ≤ (wrap64 (a2 + a4)) then (if (wrap64 (a2 + a4)) < (a3.size : Int) then (some ((bt a3 (wrap64 (a2 + a4))) == 46)) else (none)) else (none)) else (if 0 ≤ (wrap64 (a2 - a4)) then (if (wrap64 (a2 - a4)) < (a3.size : Int) then (some ((bt a3 (wrap64 (a2 - a4))) == 46)) else (none)) else (none))) = some r := h
  clear h
  by_cases c6 : a1 > a0
  · rw [if_pos c6] at H
    have c6b0 : decide (a0 < a1) = true := decide_eq_true c6
    clear c6
    obtain ⟨ji7, hji7⟩ : ∃ j_ : Int, (wrap64 (a2 + a4)) = j_ := ⟨_, rfl⟩
    replace H : (if 0 ≤ (ji7) then (if (ji7) < (a3.size : Int) then (some ((bt a3 (ji7)) == 46)) else (none)) else (none)) = some r := by first | (rw [hji7] at H; exact H) | (simp only [hji7] at H ⊢; exact H)
    have hji7w : (IntKind.i64.wrap (a2 + a4)) = ji7 := (i64_w _).trans hji7
    by_cases c8 : 0 ≤ (ji7)
    · rw [if_pos c8] at H
      have c8b0 : decide (0 ≤ (ji7)) = true := decide_eq_true c8
      clear c8
      by_cases c9 : (ji7) < (a3.size : Int)
      · rw [if_pos c9] at H
        have c9b0 : decide ((ji7) < (a3.size : Int)) = true := decide_eq_true c9
        clear c9
        obtain rfl := Option.some.inj H
        have p10 : 0 ≤ ((ji7) : Int) := of_decide_eq_true (by first | (with_reducible assumption) | assumption)
        have q10 : (ji7) < (a3.size : Int) := of_decide_eq_true (by first | (with_reducible assumption) | assumption)
        have hx10 := bt_at a3 (ji7)
        replace p10 := eq_true p10
        replace q10 := eq_true q10
        go_enter Try.func101, Try.ntmps101
        go_wp2
        go_ret
        exact ⟨by first | rfl | (simp; done) | (simp only [← hji7] <;> (first | rfl | simp)) | (simp [*]; done), by repeat (first | exact Drawn0.refl _ | apply Drawn0.step)⟩
      · rw [if_neg c9] at H
        exact absurd H (by simp)
    · rw [if_neg c8] at H
      exact absurd H (by simp)
  · rw [if_neg c6] at H
    have c6b0 : decide (a0 < a1) = false := decide_eq_false c6
    clear c6
    obtain ⟨ji11, hji11⟩ : ∃ j_ : Int, (wrap64 (a2 - a4)) = j_ := ⟨_, rfl⟩
    replace H : (if 0 ≤ (ji11) then (if (ji11) < (a3.size : Int) then (some ((bt a3 (ji11)) == 46)) else (none)) else (none)) = some r := by first | (rw [hji11] at H; exact H) | (simp only [hji11] at H ⊢; exact H)
    have hji11w : (IntKind.i64.wrap (a2 - a4)) = ji11 := (i64_w _).trans hji11
    by_cases c12 : 0 ≤ (ji11)
    · rw [if_pos c12] at H
      have c12b0 : decide (0 ≤ (ji11)) = true := decide_eq_true c12
      clear c12
      by_cases c13 : (ji11) < (a3.size : Int)
      · rw [if_pos c13] at H
        have c13b0 : decide ((ji11) < (a3.size : Int)) = true := decide_eq_true c13
        clear c13
        obtain rfl := Option.some.inj H
        have p14 : 0 ≤ ((ji11) : Int) := of_decide_eq_true (by first | (with_reducible assumption) | assumption)
        have q14 : (ji11) < (a3.size : Int) := of_decide_eq_true (by first | (with_reducible assumption) | assumption)
        have hx14 := bt_at a3 (ji11)
        replace p14 := eq_true p14
        replace q14 := eq_true q14
        go_enter Try.func101, Try.ntmps101
        go_wp2
        go_ret
        exact ⟨by first | rfl | (simp; done) | (simp only [← hji11] <;> (first | rfl | simp)) | (simp [*]; done), by repeat (first | exact Drawn0.refl _ | apply Drawn0.step)⟩
      · rw [if_neg c13] at H
        exact absurd H (by simp)
    · rw [if_neg c12] at H
      exact absurd H (by simp)

/-! ### riverbankref05_horse: function 99 -/
def riverbankref05_horse.j0 : Nat → ByteArray → Int → Int → Int → Int → Bool → Option (Bool)
  | 0, _, _, _, _, _, _ => none
  | k + 1, x0, x1, x2, x7, x8, x24 => if x24 = true then ((riverbankref05_half.f (wrap64 (Int.tdiv x1 9)) (wrap64 (Int.tdiv x2 9)) x1 x0 9).bind fun t229 => (some t229)) else (if x7 = 2 then (if x8 = 1 then ((riverbankref05_half.f (Int.tmod x1 9) (Int.tmod x2 9) x1 x0 1).bind fun t230 => (some t230)) else (some false)) else (some false))
def riverbankref05_horse.f (k : Nat) (a0 : ByteArray) (a1 : Int) (a2 : Int) : Option (Bool) := (riverbankref05_away.f (Int.tmod a1 9) (Int.tmod a2 9)).bind fun t227 => ((riverbankref05_away.f (wrap64 (Int.tdiv a1 9)) (wrap64 (Int.tdiv a2 9))).bind fun t228 => (if t227 = 1 then (riverbankref05_horse.j0 k a0 a1 a2 t227 t228 (t228 == 2)) else (riverbankref05_horse.j0 k a0 a1 a2 t227 t228 false)))
theorem riverbankref05_horse.mono_l : ∀ k, (∀ y0 y1 y2 y3 y4 y5, LeO (riverbankref05_horse.j0 k y0 y1 y2 y3 y4 y5) (riverbankref05_horse.j0 (k + 1) y0 y1 y2 y3 y4 y5))
  | 0 => fun _ _ _ _ _ _ r h => by simp [riverbankref05_horse.j0] at h
  | k + 1 => by
    have ih0 := riverbankref05_horse.mono_l k
    · intro y0 y1 y2 y3 y4 y5
      unfold riverbankref05_horse.j0
      repeat' first
      | (with_reducible exact ih0 _ _ _ _ _ _)
      | (with_reducible exact LeO.refl _)
      | (with_reducible exact LeO.none _)
      | (with_reducible refine LeO.ite ?_ ?_)
      | (with_reducible refine LeO.bind ?_ (fun _ => ?_))
      | exact ih0 _ _ _ _ _ _
      | exact LeO.none _
      | refine LeO.ite ?_ ?_
      | refine LeO.bind ?_ (fun _ => ?_)
theorem riverbankref05_horse.mono : ∀ a0 a1 a2 k, LeO (riverbankref05_horse.f k a0 a1 a2) (riverbankref05_horse.f (k + 1) a0 a1 a2) := by
  intro a0 a1 a2 k
  have ih0 := riverbankref05_horse.mono_l k
  unfold riverbankref05_horse.f
  repeat' first
      | (with_reducible exact ih0 _ _ _ _ _ _)
      | (with_reducible exact LeO.refl _)
      | (with_reducible exact LeO.none _)
      | (with_reducible refine LeO.ite ?_ ?_)
      | (with_reducible refine LeO.bind ?_ (fun _ => ?_))
      | exact ih0 _ _ _ _ _ _
      | exact LeO.none _
      | refine LeO.ite ?_ ?_
      | refine LeO.bind ?_ (fun _ => ?_)
set_option maxHeartbeats 8000000 in
set_option maxRecDepth 100000 in
theorem riverbankref05_horse.calls (k : Nat) (a0 : ByteArray) (a1 : Int) (a2 : Int) (r : Bool) (w : World) (h : riverbankref05_horse.f k a0 a1 a2 = some r) :
    Calls Try.prog 99 #[.string a0, .int .i64 a1, .int .i64 a2] w fun e w' => e = .returned (.bool r) ∧ Below w.heap.size w w' := by
  have HB := Aside0.mk (Below.refl w.heap.size w)
  have H : ((riverbankref05_away.f (Int.tmod a1 9) (Int.tmod a2 9)).bind fun t227 => ((riverbankref05_away.f (wrap64 (Int.tdiv a1 9)) (wrap64 (Int.tdiv a2 9))).bind fun t228 => (if t227 = 1 then (riverbankref05_horse.j0 k a0 a1 a2 t227 t228 (t228 == 2)) else (riverbankref05_horse.j0 k a0 a1 a2 t227 t228 false)))) = some r := h
  clear h
  replace H := Option.bind_eq_some_iff.mp H
  obtain ⟨t227, A40, H⟩ := H
  replace H : ((riverbankref05_away.f (wrap64 (Int.tdiv a1 9)) (wrap64 (Int.tdiv a2 9))).bind fun t228 => (if t227 = 1 then (riverbankref05_horse.j0 k a0 a1 a2 t227 t228 (t228 == 2)) else (riverbankref05_horse.j0 k a0 a1 a2 t227 t228 false))) = some r := H
  have A4 := Aside0.mk A40
  clear A40
  replace H := Option.bind_eq_some_iff.mp H
  obtain ⟨t228, A50, H⟩ := H
  replace H : (if t227 = 1 then (riverbankref05_horse.j0 k a0 a1 a2 t227 t228 (t228 == 2)) else (riverbankref05_horse.j0 k a0 a1 a2 t227 t228 false)) = some r := H
  have A5 := Aside0.mk A50
  clear A50
  have HC6 := Aside0.mk H
  clear H
  go_enter Try.func99, Try.ntmps99
  go_upto_region 3 with (first | ((with_reducible refine gate_callee (f := 98) rfl ?_); refine goesL_ (some 13) rfl rfl Try.func98 (by kernel_rfl) rfl #[.int .i64 (Int.tmod a1 9), .int .i64 (Int.tmod a2 9)] rfl (by (try simp only [List.map_toArray, List.map_cons, List.map_nil]); first | done | rfl | (simp only [List.length_drop, List.length_take]; rfl)) ?_; (with_reducible refine (riverbankref05_away.calls (Int.tmod a1 9) (Int.tmod a2 9) t227 _ A4.out).mono ?_); rintro e w7 ⟨rfl, hb⟩; refine ⟨_, rfl, ?_⟩; have n0_ := Aside0.mk (below_step (by repeat (first | (with_reducible first | exact HB.out | apply below_alloc | apply pw_below_drewN | apply below_drew1) | exact HB.out)) hb); clear HB; have HB := n0_; clear n0_; (try clear hb); (try clear hb2); (try clear hk); (try clear hi)) | ((with_reducible refine gate_callee (f := 98) rfl ?_); refine goesL_ (some 18) rfl rfl Try.func98 (by kernel_rfl) rfl #[.int .i64 (wrap64 (Int.tdiv a1 9)), .int .i64 (wrap64 (Int.tdiv a2 9))] rfl (by (try simp only [List.map_toArray, List.map_cons, List.map_nil]); first | done | rfl | (simp only [List.length_drop, List.length_take]; rfl)) ?_; (with_reducible refine (riverbankref05_away.calls (wrap64 (Int.tdiv a1 9)) (wrap64 (Int.tdiv a2 9)) t228 _ A5.out).mono ?_); rintro e w8 ⟨rfl, hb⟩; refine ⟨_, rfl, ?_⟩; have n0_ := Aside0.mk (below_step (by repeat (first | (with_reducible first | exact HB.out | apply below_alloc | apply pw_below_drewN | apply below_drew1) | exact HB.out)) hb); clear HB; have HB := n0_; clear n0_; (try clear hb); (try clear hb2); (try clear hk); (try clear hi)))
  (try simp only [Act.put, List.setIfInBounds_toArray, List.set_cons_zero, List.set_cons_succ])
  go_cut [24] (fun v24 wc => ∃ (kq : Nat) (x24_5 : Bool), v24 = .bool x24_5 ∧ Aside0 (riverbankref05_horse.j0 kq a0 a1 a2 t227 t228 x24_5 = some r) ∧ Aside0 (kq ≤ k) ∧ Aside0 (Below w.heap.size w wc))
  case first =>
    have H := HC6.out
    clear HC6
    by_cases c9 : t227 = 1
    · rw [if_pos c9] at H
      have c9b0 : (t227 == 1) = true := beq_iff_eq.mpr c9
      have c9b1 : (t227 != 1) = false := bne_eq_false_iff_eq.mpr c9
      clear c9
      (first | rw [c9b0] | (simp only [i64_w, i32_w]; rw [c9b0]) | skip)
      have H' := Aside0.mk H
      clear H
      go_wp2
      go_meet
      case rel => exact ⟨_, ((t228 == 2)), (by first | rfl | (simp; done) | (simp [*]; done)), H', ⟨by first | omega | exact Nat.le_refl _⟩, ⟨by repeat (first | (with_reducible first | exact HB.out | apply below_alloc | apply pw_below_drewN | apply below_drew1) | exact HB.out)⟩⟩
    · rw [if_neg c9] at H
      have c9b0 : (t227 == 1) = false := beq_eq_false_iff_ne.mpr c9
      have c9b1 : (t227 != 1) = true := bne_iff_ne.mpr c9
      (first | rw [c9b0] | (simp only [i64_w, i32_w]; rw [c9b0]) | skip)
      have H' := Aside0.mk H
      clear H
      go_wp2
      go_meet
      case rel => exact ⟨_, (false), (by first | rfl | (simp; done) | (simp [*]; done)), H', ⟨by first | omega | exact Nat.le_refl _⟩, ⟨by repeat (first | (with_reducible first | exact HB.out | apply below_alloc | apply pw_below_drewN | apply below_drew1) | exact HB.out)⟩⟩
  case rest =>
    clear HC6
    try clear p2
    try clear p6
    try clear c9
    try clear c9b0
    try clear c9b1
    obtain ⟨kq, x24_5, rfl, HA, HJ5, HB⟩ := hcut
    cases kq with
    | zero => exact absurd HA.out (by simp [riverbankref05_horse.j0])
    | succ kj5 =>
      have H := HA.out
      clear HA
      simp only [riverbankref05_horse.j0] at H
      by_cases c10 : x24_5 = true
      · subst c10
        have H1 : ((riverbankref05_half.f (wrap64 (Int.tdiv a1 9)) (wrap64 (Int.tdiv a2 9)) a1 a0 9).bind fun t229 => (some t229)) = some r := by rw [if_pos rfl] at H; exact H
        clear H
        have H := H1
        clear H1
        replace H := Option.bind_eq_some_iff.mp H
        obtain ⟨t229, A110, H⟩ := H
        replace H : (some t229) = some r := H
        have A11 := Aside0.mk A110
        clear A110
        obtain rfl := Option.some.inj H
        go_wp2_with (first | ((with_reducible refine gate_callee (f := 101) rfl ?_); refine goesL_ (some 31) rfl rfl Try.func101 (by kernel_rfl) rfl #[.int .i64 (wrap64 (Int.tdiv a1 9)), .int .i64 (wrap64 (Int.tdiv a2 9)), .int .i64 a1, .string a0, .int .i64 9] rfl (by (try simp only [List.map_toArray, List.map_cons, List.map_nil]); first | done | rfl | (simp only [List.length_drop, List.length_take]; rfl)) ?_; (with_reducible refine (riverbankref05_half.calls (wrap64 (Int.tdiv a1 9)) (wrap64 (Int.tdiv a2 9)) a1 a0 9 t229 _ A11.out).mono ?_); rintro e w' ⟨rfl, ⟨nd, rfl⟩⟩; refine ⟨_, rfl, ?_⟩))
        go_ret
        exact ⟨by first | rfl | (simp [errW_none, errW_some] <;> rfl) | (simp [*, errW_none, errW_some] <;> rfl), by repeat (first | (with_reducible first | exact HB.out | apply below_alloc | apply pw_below_drewN | apply below_drew1) | exact HB.out)⟩
      · replace c10 := Bool.eq_false_iff.mpr c10
        subst c10
        have H1 : (if t227 = 2 then (if t228 = 1 then ((riverbankref05_half.f (Int.tmod a1 9) (Int.tmod a2 9) a1 a0 1).bind fun t230 => (some t230)) else (some false)) else (some false)) = some r := by rw [if_neg (show ¬ (false = true) by decide)] at H; exact H
        clear H
        have H := H1
        clear H1
        by_cases c12 : t227 = 2
        · rw [if_pos c12] at H
          have c12b0 : (t227 == 2) = true := beq_iff_eq.mpr c12
          have c12b1 : (t227 != 2) = false := bne_eq_false_iff_eq.mpr c12
          clear c12
          by_cases c13 : t228 = 1
          · rw [if_pos c13] at H
            have c13b0 : (t228 == 1) = true := beq_iff_eq.mpr c13
            have c13b1 : (t228 != 1) = false := bne_eq_false_iff_eq.mpr c13
            clear c13
            replace H := Option.bind_eq_some_iff.mp H
            obtain ⟨t230, A140, H⟩ := H
            replace H : (some t230) = some r := H
            have A14 := Aside0.mk A140
            clear A140
            obtain rfl := Option.some.inj H
            go_wp2_with (first | ((with_reducible refine gate_callee (f := 101) rfl ?_); refine goesL_ (some 44) rfl rfl Try.func101 (by kernel_rfl) rfl #[.int .i64 (Int.tmod a1 9), .int .i64 (Int.tmod a2 9), .int .i64 a1, .string a0, .int .i64 1] rfl (by (try simp only [List.map_toArray, List.map_cons, List.map_nil]); first | done | rfl | (simp only [List.length_drop, List.length_take]; rfl)) ?_; (with_reducible refine (riverbankref05_half.calls (Int.tmod a1 9) (Int.tmod a2 9) a1 a0 1 t230 _ A14.out).mono ?_); rintro e w' ⟨rfl, ⟨nd, rfl⟩⟩; refine ⟨_, rfl, ?_⟩))
            go_ret
            exact ⟨by first | rfl | (simp [errW_none, errW_some] <;> rfl) | (simp [*, errW_none, errW_some] <;> rfl), by repeat (first | (with_reducible first | exact HB.out | apply below_alloc | apply pw_below_drewN | apply below_drew1) | exact HB.out)⟩
          · rw [if_neg c13] at H
            have c13b0 : (t228 == 1) = false := beq_eq_false_iff_ne.mpr c13
            have c13b1 : (t228 != 1) = true := bne_iff_ne.mpr c13
            obtain rfl := Option.some.inj H
            go_wp2
            go_ret
            exact ⟨by first | rfl | (simp [errW_none, errW_some] <;> rfl) | (simp [*, errW_none, errW_some] <;> rfl), by repeat (first | (with_reducible first | exact HB.out | apply below_alloc | apply pw_below_drewN | apply below_drew1) | exact HB.out)⟩
        · rw [if_neg c12] at H
          have c12b0 : (t227 == 2) = false := beq_eq_false_iff_ne.mpr c12
          have c12b1 : (t227 != 2) = true := bne_iff_ne.mpr c12
          obtain rfl := Option.some.inj H
          go_wp2
          go_ret
          exact ⟨by first | rfl | (simp [errW_none, errW_some] <;> rfl) | (simp [*, errW_none, errW_some] <;> rfl), by repeat (first | (with_reducible first | exact HB.out | apply below_alloc | apply pw_below_drewN | apply below_drew1) | exact HB.out)⟩

/-! ### riverbankref03_Over: function 63 -/
def riverbankref03_Over.f (a0 : Int) (a1 : Int) : Option (Bool) := (riverbankref03_real.f a0 a1).bind fun t231 => (if t231 = true then ((riverbankref03_own.f a0 a1).bind fun t232 => (some (decide (t232 ≥ 5)))) else (some false))
set_option maxHeartbeats 8000000 in
set_option maxRecDepth 100000 in
theorem riverbankref03_Over.calls (a0 : Int) (a1 : Int) (r : Bool) (w : World) (h : riverbankref03_Over.f a0 a1 = some r) :
    Calls Try.prog 63 #[.int .i64 a0, .int .i64 a1] w fun e w' => e = .returned (.bool r) ∧ Drawn0 w w' := by
  have H : ((riverbankref03_real.f a0 a1).bind fun t231 => (if t231 = true then ((riverbankref03_own.f a0 a1).bind fun t232 => (some (decide (t232 ≥ 5)))) else (some false))) = some r := h
  clear h
  replace H := Option.bind_eq_some_iff.mp H
  obtain ⟨t231, A30, H⟩ := H
  replace H : (if t231 = true then ((riverbankref03_own.f a0 a1).bind fun t232 => (some (decide (t232 ≥ 5)))) else (some false)) = some r := H
  have A3 := Aside0.mk A30
  clear A30
  by_cases c4 : t231 = true
  · subst c4
    have H1 : ((riverbankref03_own.f a0 a1).bind fun t232 => (some (decide (t232 ≥ 5)))) = some r := by rw [if_pos rfl] at H; exact H
    clear H
    have H := H1
    clear H1
    replace H := Option.bind_eq_some_iff.mp H
    obtain ⟨t232, A50, H⟩ := H
    replace H : (some (decide (t232 ≥ 5))) = some r := H
    have A5 := Aside0.mk A50
    clear A50
    obtain rfl := Option.some.inj H
    go_enter Try.func63, Try.ntmps63
    go_wp2_with (first | ((with_reducible refine gate_callee (f := 80) rfl ?_); refine goesL_ (some 7) rfl rfl Try.func80 (by kernel_rfl) rfl #[.int .i64 a0, .int .i64 a1] rfl (by (try simp only [List.map_toArray, List.map_cons, List.map_nil]); first | done | rfl | (simp only [List.length_drop, List.length_take]; rfl)) ?_; (with_reducible refine (riverbankref03_real.calls a0 a1 true _ A3.out).mono ?_); rintro e w' ⟨rfl, ⟨nd, rfl⟩⟩; refine ⟨_, rfl, ?_⟩) | (go_at_call 81; (with_reducible refine (riverbankref03_own.calls a0 a1 t232 _ A5.out).mono ?_); rintro e w' ⟨rfl, ⟨nd, rfl⟩⟩))
    go_ret
    exact ⟨by first | rfl | (simp; done) | (simp [*]; done), by repeat (first | exact Drawn0.refl _ | apply Drawn0.step)⟩
  · replace c4 := Bool.eq_false_iff.mpr c4
    subst c4
    have H1 : (some false) = some r := by rw [if_neg (show ¬ (false = true) by decide)] at H; exact H
    clear H
    have H := H1
    clear H1
    obtain rfl := Option.some.inj H
    go_enter Try.func63, Try.ntmps63
    go_wp2_with (first | ((with_reducible refine gate_callee (f := 80) rfl ?_); refine goesL_ (some 7) rfl rfl Try.func80 (by kernel_rfl) rfl #[.int .i64 a0, .int .i64 a1] rfl (by (try simp only [List.map_toArray, List.map_cons, List.map_nil]); first | done | rfl | (simp only [List.length_drop, List.length_take]; rfl)) ?_; (with_reducible refine (riverbankref03_real.calls a0 a1 false _ A3.out).mono ?_); rintro e w' ⟨rfl, ⟨nd, rfl⟩⟩; refine ⟨_, rfl, ?_⟩))
    go_ret
    exact ⟨by first | rfl | (simp; done) | (simp [*]; done), by repeat (first | exact Drawn0.refl _ | apply Drawn0.step)⟩

/-! ### riverbankref05_pawn: function 100 -/
def riverbankref05_pawn.j0 : Nat → Int → Int → Int → Int → Option (Bool)
  | 0, _, _, _, _ => none
  | k + 1, x0, x1, x2, x7 => if x2 = (wrap64 (x1 + x7)) then (some true) else ((riverbankref03_Over.f x1 x0).bind fun t233 => (if t233 = true then (if (wrap64 (Int.tdiv x1 9)) = (wrap64 (Int.tdiv x2 9)) then ((riverbankref05_away.f x1 x2).bind fun t234 => (some (t234 == 1))) else (some false)) else (some false)))
def riverbankref05_pawn.f (k : Nat) (a0 : Int) (a1 : Int) (a2 : Int) : Option (Bool) := if a0 = 1 then (riverbankref05_pawn.j0 k a0 a1 a2 (-9)) else (riverbankref05_pawn.j0 k a0 a1 a2 9)
theorem riverbankref05_pawn.mono_l : ∀ k, (∀ y0 y1 y2 y3, LeO (riverbankref05_pawn.j0 k y0 y1 y2 y3) (riverbankref05_pawn.j0 (k + 1) y0 y1 y2 y3))
  | 0 => fun _ _ _ _ r h => by simp [riverbankref05_pawn.j0] at h
  | k + 1 => by
    have ih0 := riverbankref05_pawn.mono_l k
    · intro y0 y1 y2 y3
      unfold riverbankref05_pawn.j0
      repeat' first
      | (with_reducible exact ih0 _ _ _ _)
      | (with_reducible exact LeO.refl _)
      | (with_reducible exact LeO.none _)
      | (with_reducible refine LeO.ite ?_ ?_)
      | (with_reducible refine LeO.bind ?_ (fun _ => ?_))
      | exact ih0 _ _ _ _
      | exact LeO.none _
      | refine LeO.ite ?_ ?_
      | refine LeO.bind ?_ (fun _ => ?_)
theorem riverbankref05_pawn.mono : ∀ a0 a1 a2 k, LeO (riverbankref05_pawn.f k a0 a1 a2) (riverbankref05_pawn.f (k + 1) a0 a1 a2) := by
  intro a0 a1 a2 k
  have ih0 := riverbankref05_pawn.mono_l k
  unfold riverbankref05_pawn.f
  repeat' first
      | (with_reducible exact ih0 _ _ _ _)
      | (with_reducible exact LeO.refl _)
      | (with_reducible exact LeO.none _)
      | (with_reducible refine LeO.ite ?_ ?_)
      | (with_reducible refine LeO.bind ?_ (fun _ => ?_))
      | exact ih0 _ _ _ _
      | exact LeO.none _
      | refine LeO.ite ?_ ?_
      | refine LeO.bind ?_ (fun _ => ?_)
set_option maxHeartbeats 8000000 in
set_option maxRecDepth 100000 in
theorem riverbankref05_pawn.calls (k : Nat) (a0 : Int) (a1 : Int) (a2 : Int) (r : Bool) (w : World) (h : riverbankref05_pawn.f k a0 a1 a2 = some r) :
    Calls Try.prog 100 #[.int .i64 a0, .int .i64 a1, .int .i64 a2] w fun e w' => e = .returned (.bool r) ∧ Below w.heap.size w w' := by
  have HB := Aside0.mk (Below.refl w.heap.size w)
  have H : (if a0 = 1 then (riverbankref05_pawn.j0 k a0 a1 a2 (-9)) else (riverbankref05_pawn.j0 k a0 a1 a2 9)) = some r := h
  clear h
  have HC4 := Aside0.mk H
  clear H
  go_enter Try.func100, Try.ntmps100
  go_upto_if 9 with (fail)
  go_cut [7] (fun v7 wc => ∃ (kq : Nat) (x7_3 : Int), v7 = .int .i64 x7_3 ∧ Aside0 (riverbankref05_pawn.j0 kq a0 a1 a2 x7_3 = some r) ∧ Aside0 (kq ≤ k) ∧ Aside0 (Below w.heap.size w wc))
  case first =>
    have H := HC4.out
    clear HC4
    by_cases c5 : a0 = 1
    · rw [if_pos c5] at H
      have c5b0 : (a0 == 1) = true := beq_iff_eq.mpr c5
      have c5b1 : (a0 != 1) = false := bne_eq_false_iff_eq.mpr c5
      clear c5
      (first | rw [c5b0] | (simp only [i64_w, i32_w]; rw [c5b0]) | skip)
      have H' := Aside0.mk H
      clear H
      go_wp2
      go_meet
      case rel => exact ⟨_, ((-9)), (by first | rfl | (simp; done) | (simp [*]; done)), H', ⟨by first | omega | exact Nat.le_refl _⟩, ⟨by repeat (first | (with_reducible first | exact HB.out | apply below_alloc | apply pw_below_drewN | apply below_drew1) | exact HB.out)⟩⟩
    · rw [if_neg c5] at H
      have c5b0 : (a0 == 1) = false := beq_eq_false_iff_ne.mpr c5
      have c5b1 : (a0 != 1) = true := bne_iff_ne.mpr c5
      (first | rw [c5b0] | (simp only [i64_w, i32_w]; rw [c5b0]) | skip)
      have H' := Aside0.mk H
      clear H
      go_wp2
      go_meet
      case rel => exact ⟨_, (9), (by first | rfl | (simp; done) | (simp [*]; done)), H', ⟨by first | omega | exact Nat.le_refl _⟩, ⟨by repeat (first | (with_reducible first | exact HB.out | apply below_alloc | apply pw_below_drewN | apply below_drew1) | exact HB.out)⟩⟩
  case rest =>
    clear HC4
    try clear c1
    try clear p2
    try clear c5
    try clear c5b0
    try clear c5b1
    obtain ⟨kq, x7_3, rfl, HA, HJ3, HB⟩ := hcut
    cases kq with
    | zero => exact absurd HA.out (by simp [riverbankref05_pawn.j0])
    | succ kj3 =>
      have H := HA.out
      clear HA
      simp only [riverbankref05_pawn.j0] at H
      by_cases c6 : a2 = (wrap64 (a1 + x7_3))
      · rw [if_pos c6] at H
        have c6b0 : (a2 == (wrap64 (a1 + x7_3))) = true := beq_iff_eq.mpr c6
        have c6b1 : (a2 != (wrap64 (a1 + x7_3))) = false := bne_eq_false_iff_eq.mpr c6
        clear c6
        obtain rfl := Option.some.inj H
        go_wp2
        go_ret
        exact ⟨by first | rfl | (simp [errW_none, errW_some] <;> rfl) | (simp [*, errW_none, errW_some] <;> rfl), by repeat (first | (with_reducible first | exact HB.out | apply below_alloc | apply pw_below_drewN | apply below_drew1) | exact HB.out)⟩
      · rw [if_neg c6] at H
        have c6b0 : (a2 == (wrap64 (a1 + x7_3))) = false := beq_eq_false_iff_ne.mpr c6
        have c6b1 : (a2 != (wrap64 (a1 + x7_3))) = true := bne_iff_ne.mpr c6
        replace H := Option.bind_eq_some_iff.mp H
        obtain ⟨t233, A70, H⟩ := H
        replace H : (if t233 = true then (if (wrap64 (Int.tdiv a1 9)) = (wrap64 (Int.tdiv a2 9)) then ((riverbankref05_away.f a1 a2).bind fun t234 => (some (t234 == 1))) else (some false)) else (some false)) = some r := H
        have A7 := Aside0.mk A70
        clear A70
        by_cases c8 : t233 = true
        · subst c8
          have H1 : (if (wrap64 (Int.tdiv a1 9)) = (wrap64 (Int.tdiv a2 9)) then ((riverbankref05_away.f a1 a2).bind fun t234 => (some (t234 == 1))) else (some false)) = some r := by rw [if_pos rfl] at H; exact H
          clear H
          have H := H1
          clear H1
          by_cases c9 : (wrap64 (Int.tdiv a1 9)) = (wrap64 (Int.tdiv a2 9))
          · rw [if_pos c9] at H
            have c9b0 : ((wrap64 (Int.tdiv a1 9)) == (wrap64 (Int.tdiv a2 9))) = true := beq_iff_eq.mpr c9
            have c9b1 : ((wrap64 (Int.tdiv a1 9)) != (wrap64 (Int.tdiv a2 9))) = false := bne_eq_false_iff_eq.mpr c9
            clear c9
            replace H := Option.bind_eq_some_iff.mp H
            obtain ⟨t234, A100, H⟩ := H
            replace H : (some (t234 == 1)) = some r := H
            have A10 := Aside0.mk A100
            clear A100
            obtain rfl := Option.some.inj H
            go_wp2_with (first | ((with_reducible refine gate_callee (f := 63) rfl ?_); refine goesL_ (some 17) rfl rfl Try.func63 (by kernel_rfl) rfl #[.int .i64 a1, .int .i64 a0] rfl (by (try simp only [List.map_toArray, List.map_cons, List.map_nil]); first | done | rfl | (simp only [List.length_drop, List.length_take]; rfl)) ?_; (with_reducible refine (riverbankref03_Over.calls a1 a0 true _ A7.out).mono ?_); rintro e w' ⟨rfl, ⟨nd, rfl⟩⟩; refine ⟨_, rfl, ?_⟩) | (go_at_call 98; (with_reducible refine (riverbankref05_away.calls a1 a2 t234 _ A10.out).mono ?_); rintro e w11 ⟨rfl, hb⟩; have n0_ := Aside0.mk (below_step (by repeat (first | (with_reducible first | exact HB.out | apply below_alloc | apply pw_below_drewN | apply below_drew1) | exact HB.out)) hb); clear HB; have HB := n0_; clear n0_; (try clear hb); (try clear hb2); (try clear hk); (try clear hi)))
            go_ret
            exact ⟨by first | rfl | (simp [errW_none, errW_some] <;> rfl) | (simp [*, errW_none, errW_some] <;> rfl), by repeat (first | (with_reducible first | exact HB.out | apply below_alloc | apply pw_below_drewN | apply below_drew1) | exact HB.out)⟩
          · rw [if_neg c9] at H
            have c9b0 : ((wrap64 (Int.tdiv a1 9)) == (wrap64 (Int.tdiv a2 9))) = false := beq_eq_false_iff_ne.mpr c9
            have c9b1 : ((wrap64 (Int.tdiv a1 9)) != (wrap64 (Int.tdiv a2 9))) = true := bne_iff_ne.mpr c9
            obtain rfl := Option.some.inj H
            go_wp2_with (first | ((with_reducible refine gate_callee (f := 63) rfl ?_); refine goesL_ (some 17) rfl rfl Try.func63 (by kernel_rfl) rfl #[.int .i64 a1, .int .i64 a0] rfl (by (try simp only [List.map_toArray, List.map_cons, List.map_nil]); first | done | rfl | (simp only [List.length_drop, List.length_take]; rfl)) ?_; (with_reducible refine (riverbankref03_Over.calls a1 a0 true _ A7.out).mono ?_); rintro e w' ⟨rfl, ⟨nd, rfl⟩⟩; refine ⟨_, rfl, ?_⟩))
            go_ret
            exact ⟨by first | rfl | (simp [errW_none, errW_some] <;> rfl) | (simp [*, errW_none, errW_some] <;> rfl), by repeat (first | (with_reducible first | exact HB.out | apply below_alloc | apply pw_below_drewN | apply below_drew1) | exact HB.out)⟩
        · replace c8 := Bool.eq_false_iff.mpr c8
          subst c8
          have H1 : (some false) = some r := by rw [if_neg (show ¬ (false = true) by decide)] at H; exact H
          clear H
          have H := H1
          clear H1
          obtain rfl := Option.some.inj H
          go_wp2_with (first | ((with_reducible refine gate_callee (f := 63) rfl ?_); refine goesL_ (some 17) rfl rfl Try.func63 (by kernel_rfl) rfl #[.int .i64 a1, .int .i64 a0] rfl (by (try simp only [List.map_toArray, List.map_cons, List.map_nil]); first | done | rfl | (simp only [List.length_drop, List.length_take]; rfl)) ?_; (with_reducible refine (riverbankref03_Over.calls a1 a0 false _ A7.out).mono ?_); rintro e w' ⟨rfl, ⟨nd, rfl⟩⟩; refine ⟨_, rfl, ?_⟩))
          go_ret
          exact ⟨by first | rfl | (simp [errW_none, errW_some] <;> rfl) | (simp [*, errW_none, errW_some] <;> rfl), by repeat (first | (with_reducible first | exact HB.out | apply below_alloc | apply pw_below_drewN | apply below_drew1) | exact HB.out)⟩

end Go.Proofs.Ytmfbgcimfmgobaa.Print

-- of YtmfbgcimfmgobaaPrint22
-- Written by a program of this session (wip/gprint/gprint.py) over the kit's print; the parts marked GIVEN by hand.
namespace Go.Proofs.Ytmfbgcimfmgobaa.Print
open Go.RowKit Go.Proofs.YtmfbgcimfmgobaaW.PrintWords Go.Proofs.YtmfbgcimfmgobaaW.PrintLast Go.Proofs.YtmfbgcimfmgobaaW.PrintMore
attribute [local go_sem] max2_int min2_int max_two min_two max_three min_three max_four min_four   -- for this text's walks alone
set_option linter.unusedVariables false
set_option linter.unusedSimpArgs false
/-! ### riverbankref05_can: function 90 -/
def riverbankref05_can.f (k : Nat) (a0 : ByteArray) (a1 : Int) (a2 : Int) : Option (Bool) := if 0 ≤ a1 then (if a1 < (a0.size : Int) then ((riverbankref05_away.f (Int.tmod a1 9) (Int.tmod a2 9)).bind fun t235 => ((riverbankref05_away.f (wrap64 (Int.tdiv a1 9)) (wrap64 (Int.tdiv a2 9))).bind fun t236 => ((riverbankref02_Kind.f k (bt a0 a1)).bind fun t237 => (if t237 = 75 then (if (wrap64 (t235 + t236)) = 1 then ((riverbankref03_May.f k (bt a0 a1) a2).bind fun t238 => (some t238)) else (some false)) else (if t237 = 65 then (if t235 = 1 then (if t236 = 1 then ((riverbankref03_May.f k (bt a0 a1) a2).bind fun t239 => (some t239)) else (some false)) else (some false)) else (if t237 = 66 then (if t235 = 2 then (if t236 = 2 then ((riverbankref03_May.f k (bt a0 a1) a2).bind fun t240 => (if t240 = true then (if 0 ≤ (wrap64 (Int.tdiv (wrap64 (a1 + a2)) 2)) then (if (wrap64 (Int.tdiv (wrap64 (a1 + a2)) 2)) < (a0.size : Int) then (some ((bt a0 (wrap64 (Int.tdiv (wrap64 (a1 + a2)) 2))) == 46)) else (none)) else (none)) else (some false))) else (some false)) else (some false)) else (if t237 = 78 then ((riverbankref05_horse.f k a0 a1 a2).bind fun t241 => (some t241)) else (if t237 = 82 then ((riverbankref05_between.f k a0 a1 a2).bind fun t242 => (some (t242 == 0))) else (if t237 = 67 then ((riverbankref05_between.f k a0 a1 a2).bind fun t243 => (if t243 = 0 then (if 0 ≤ a2 then (if a2 < (a0.size : Int) then (if (bt a0 a2) = 46 then (some true) else (if t243 = 1 then (some ((bt a0 a2) != 46)) else (some false))) else (none)) else (none)) else (if t243 = 1 then (if 0 ≤ a2 then (if a2 < (a0.size : Int) then (some ((bt a0 a2) != 46)) else (none)) else (none)) else (some false)))) else ((riverbankref02_Side.f k (bt a0 a1)).bind fun t244 => ((riverbankref05_pawn.f k t244 a1 a2).bind fun t245 => (some t245)))))))))))) else (none)) else (none)
theorem riverbankref05_can.mono : ∀ a0 a1 a2 k, LeO (riverbankref05_can.f k a0 a1 a2) (riverbankref05_can.f (k + 1) a0 a1 a2) := by
  intro a0 a1 a2 k
  unfold riverbankref05_can.f
  repeat' first
      | (with_reducible exact riverbankref02_Kind.mono _ _)
      | (with_reducible exact riverbankref02_Side.mono _ _)
      | (with_reducible exact riverbankref03_May.mono _ _ _)
      | (with_reducible exact riverbankref05_between.mono _ _ _ _)
      | (with_reducible exact riverbankref05_horse.mono _ _ _ _)
      | (with_reducible exact riverbankref05_pawn.mono _ _ _ _)
      | (with_reducible exact LeO.refl _)
      | (with_reducible exact LeO.none _)
      | (with_reducible refine LeO.ite ?_ ?_)
      | (with_reducible refine LeO.bind ?_ (fun _ => ?_))
      | exact riverbankref02_Kind.mono _ _
      | exact riverbankref02_Side.mono _ _
      | exact riverbankref03_May.mono _ _ _
      | exact riverbankref05_between.mono _ _ _ _
      | exact riverbankref05_horse.mono _ _ _ _
      | exact riverbankref05_pawn.mono _ _ _ _
      | exact LeO.none _
      | refine LeO.ite ?_ ?_
      | refine LeO.bind ?_ (fun _ => ?_)
set_option maxHeartbeats 8000000 in
set_option maxRecDepth 100000 in
theorem riverbankref05_can.calls (k : Nat) (a0 : ByteArray) (a1 : Int) (a2 : Int) (r : Bool) (w : World) (h : riverbankref05_can.f k a0 a1 a2 = some r) :
    Calls Try.prog 90 #[.string a0, .int .i64 a1, .int .i64 a2] w fun e w' => e = .returned (.bool r) ∧ Below w.heap.size w w' := by
  have HB := Aside0.mk (Below.refl w.heap.size w)
  have H : (if 0 ≤ a1 then (if a1 < (a0.size : Int) then ((riverbankref05_away.f (Int.tmod a1 9) (Int.tmod a2 9)).bind fun t235 => ((riverbankref05_away.f (wrap64 (Int.tdiv a1 9)) (wrap64 (Int.tdiv a2 9))).bind fun t236 => ((riverbankref02_Kind.f k (bt a0 a1)).bind fun t237 => (if t237 = 75 then (if (wrap64 (t235 + t236)) = 1 then ((riverbankref03_May.f k (bt a0 a1) a2).bind fun t238 => (some t238)) else (some false)) else (if t237 = 65 then (if t235 = 1 then (if t236 = 1 then ((riverbankref03_May.f k (bt a0 a1) a2).bind fun t239 => (some t239)) else (some false)) else (some false)) else (if t237 = 66 then (if t235 = 2 then (if t236 = 2 then ((riverbankref03_May.f k (bt a0 a1) a2).bind fun t240 => (if t240 = true then (if 0 ≤ (wrap64 (Int.tdiv (wrap64 (a1 + a2)) 2)) then (if (wrap64 (Int.tdiv (wrap64 (a1 + a2)) 2)) < (a0.size : Int) then (some ((bt a0 (wrap64 (Int.tdiv (wrap64 (a1 + a2)) 2))) == 46)) else (none)) else (none)) else (some false))) else (some false)) else (some false)) else (if t237 = 78 then ((riverbankref05_horse.f k a0 a1 a2).bind fun t241 => (some t241)) else (if t237 = 82 then ((riverbankref05_between.f k a0 a1 a2).bind fun t242 => (some (t242 == 0))) else (if t237 = 67 then ((riverbankref05_between.f k a0 a1 a2).bind fun t243 => (if t243 = 0 then (if 0 ≤ a2 then (if a2 < (a0.size : Int) then (if (bt a0 a2) = 46 then (some true) else (if t243 = 1 then (some ((bt a0 a2) != 46)) else (some false))) else (none)) else (none)) else (if t243 = 1 then (if 0 ≤ a2 then (if a2 < (a0.size : Int) then (some ((bt a0 a2) != 46)) else (none)) else (none)) else (some false)))) else ((riverbankref02_Side.f k (bt a0 a1)).bind fun t244 => ((riverbankref05_pawn.f k t244 a1 a2).bind fun t245 => (some t245)))))))))))) else (none)) else (none)) = some r := h
  clear h
  by_cases c4 : 0 ≤ a1
  · rw [if_pos c4] at H
    have c4b0 : decide (0 ≤ a1) = true := decide_eq_true c4
    clear c4
    by_cases c5 : a1 < (a0.size : Int)
    · rw [if_pos c5] at H
      have c5b0 : decide (a1 < (a0.size : Int)) = true := decide_eq_true c5
      clear c5
      replace H := Option.bind_eq_some_iff.mp H
      obtain ⟨t235, A70, H⟩ := H
      replace H : ((riverbankref05_away.f (wrap64 (Int.tdiv a1 9)) (wrap64 (Int.tdiv a2 9))).bind fun t236 => ((riverbankref02_Kind.f k (bt a0 a1)).bind fun t237 => (if t237 = 75 then (if (wrap64 (t235 + t236)) = 1 then ((riverbankref03_May.f k (bt a0 a1) a2).bind fun t238 => (some t238)) else (some false)) else (if t237 = 65 then (if t235 = 1 then (if t236 = 1 then ((riverbankref03_May.f k (bt a0 a1) a2).bind fun t239 => (some t239)) else (some false)) else (some false)) else (if t237 = 66 then (if t235 = 2 then (if t236 = 2 then ((riverbankref03_May.f k (bt a0 a1) a2).bind fun t240 => (if t240 = true then (if 0 ≤ (wrap64 (Int.tdiv (wrap64 (a1 + a2)) 2)) then (if (wrap64 (Int.tdiv (wrap64 (a1 + a2)) 2)) < (a0.size : Int) then (some ((bt a0 (wrap64 (Int.tdiv (wrap64 (a1 + a2)) 2))) == 46)) else (none)) else (none)) else (some false))) else (some false)) else (some false)) else (if t237 = 78 then ((riverbankref05_horse.f k a0 a1 a2).bind fun t241 => (some t241)) else (if t237 = 82 then ((riverbankref05_between.f k a0 a1 a2).bind fun t242 => (some (t242 == 0))) else (if t237 = 67 then ((riverbankref05_between.f k a0 a1 a2).bind fun t243 => (if t243 = 0 then (if 0 ≤ a2 then (if a2 < (a0.size : Int) then (if (bt a0 a2) = 46 then (some true) else (if t243 = 1 then (some ((bt a0 a2) != 46)) else (some false))) else (none)) else (none)) else (if t243 = 1 then (if 0 ≤ a2 then (if a2 < (a0.size : Int) then (some ((bt a0 a2) != 46)) else (none)) else (none)) else (some false)))) else ((riverbankref02_Side.f k (bt a0 a1)).bind fun t244 => ((riverbankref05_pawn.f k t244 a1 a2).bind fun t245 => (some t245))))))))))) = some r := H
      have A7 := Aside0.mk A70
      clear A70
      replace H := Option.bind_eq_some_iff.mp H
      obtain ⟨t236, A80, H⟩ := H
      replace H : ((riverbankref02_Kind.f k (bt a0 a1)).bind fun t237 => (if t237 = 75 then (if (wrap64 (t235 + t236)) = 1 then ((riverbankref03_May.f k (bt a0 a1) a2).bind fun t238 => (some t238)) else (some false)) else (if t237 = 65 then (if t235 = 1 then (if t236 = 1 then ((riverbankref03_May.f k (bt a0 a1) a2).bind fun t239 => (some t239)) else (some false)) else (some false)) else (if t237 = 66 then (if t235 = 2 then (if t236 = 2 then ((riverbankref03_May.f k (bt a0 a1) a2).bind fun t240 => (if t240 = true then (if 0 ≤ (wrap64 (Int.tdiv (wrap64 (a1 + a2)) 2)) then (if (wrap64 (Int.tdiv (wrap64 (a1 + a2)) 2)) < (a0.size : Int) then (some ((bt a0 (wrap64 (Int.tdiv (wrap64 (a1 + a2)) 2))) == 46)) else (none)) else (none)) else (some false))) else (some false)) else (some false)) else (if t237 = 78 then ((riverbankref05_horse.f k a0 a1 a2).bind fun t241 => (some t241)) else (if t237 = 82 then ((riverbankref05_between.f k a0 a1 a2).bind fun t242 => (some (t242 == 0))) else (if t237 = 67 then ((riverbankref05_between.f k a0 a1 a2).bind fun t243 => (if t243 = 0 then (if 0 ≤ a2 then (if a2 < (a0.size : Int) then (if (bt a0 a2) = 46 then (some true) else (if t243 = 1 then (some ((bt a0 a2) != 46)) else (some false))) else (none)) else (none)) else (if t243 = 1 then (if 0 ≤ a2 then (if a2 < (a0.size : Int) then (some ((bt a0 a2) != 46)) else (none)) else (none)) else (some false)))) else ((riverbankref02_Side.f k (bt a0 a1)).bind fun t244 => ((riverbankref05_pawn.f k t244 a1 a2).bind fun t245 => (some t245)))))))))) = some r := H
      have A8 := Aside0.mk A80
      clear A80
      replace H := Option.bind_eq_some_iff.mp H
      obtain ⟨t237, A90, H⟩ := H
      replace H : (if t237 = 75 then (if (wrap64 (t235 + t236)) = 1 then ((riverbankref03_May.f k (bt a0 a1) a2).bind fun t238 => (some t238)) else (some false)) else (if t237 = 65 then (if t235 = 1 then (if t236 = 1 then ((riverbankref03_May.f k (bt a0 a1) a2).bind fun t239 => (some t239)) else (some false)) else (some false)) else (if t237 = 66 then (if t235 = 2 then (if t236 = 2 then ((riverbankref03_May.f k (bt a0 a1) a2).bind fun t240 => (if t240 = true then (if 0 ≤ (wrap64 (Int.tdiv (wrap64 (a1 + a2)) 2)) then (if (wrap64 (Int.tdiv (wrap64 (a1 + a2)) 2)) < (a0.size : Int) then (some ((bt a0 (wrap64 (Int.tdiv (wrap64 (a1 + a2)) 2))) == 46)) else (none)) else (none)) else (some false))) else (some false)) else (some false)) else (if t237 = 78 then ((riverbankref05_horse.f k a0 a1 a2).bind fun t241 => (some t241)) else (if t237 = 82 then ((riverbankref05_between.f k a0 a1 a2).bind fun t242 => (some (t242 == 0))) else (if t237 = 67 then ((riverbankref05_between.f k a0 a1 a2).bind fun t243 => (if t243 = 0 then (if 0 ≤ a2 then (if a2 < (a0.size : Int) then (if (bt a0 a2) = 46 then (some true) else (if t243 = 1 then (some ((bt a0 a2) != 46)) else (some false))) else (none)) else (none)) else (if t243 = 1 then (if 0 ≤ a2 then (if a2 < (a0.size : Int) then (some ((bt a0 a2) != 46)) else (none)) else (none)) else (some false)))) else ((riverbankref02_Side.f k (bt a0 a1)).bind fun t244 => ((riverbankref05_pawn.f k t244 a1 a2).bind fun t245 => (some t245))))))))) = some r := H
      have A9 := Aside0.mk A90
      clear A90
      by_cases c10 : t237 = 75
      · rw [if_pos c10] at H
        have c10b0 : (t237 == 75) = true := beq_iff_eq.mpr c10
        have c10b1 : (t237 != 75) = false := bne_eq_false_iff_eq.mpr c10
        clear c10
        by_cases c11 : (wrap64 (t235 + t236)) = 1
        · rw [if_pos c11] at H
          have c11b0 : ((wrap64 (t235 + t236)) == 1) = true := beq_iff_eq.mpr c11
          have c11b1 : ((wrap64 (t235 + t236)) != 1) = false := bne_eq_false_iff_eq.mpr c11
          clear c11
          replace H := Option.bind_eq_some_iff.mp H
          obtain ⟨t238, A120, H⟩ := H
          replace H : (some t238) = some r := H
          have A12 := Aside0.mk A120
          clear A120
          obtain rfl := Option.some.inj H
          have p6 : 0 ≤ (a1 : Int) := of_decide_eq_true (by first | (with_reducible assumption) | assumption)
          have q6 : a1 < (a0.size : Int) := of_decide_eq_true (by first | (with_reducible assumption) | assumption)
          have hx6 := bt_at a0 a1
          replace p6 := eq_true p6
          replace q6 := eq_true q6
          go_enter Try.func90, Try.ntmps90
          go_wp2_with (first | ((with_reducible refine gate_callee (f := 98) rfl ?_); refine goesL_ (some 18) rfl rfl Try.func98 (by kernel_rfl) rfl #[.int .i64 (Int.tmod a1 9), .int .i64 (Int.tmod a2 9)] rfl (by (try simp only [List.map_toArray, List.map_cons, List.map_nil]); first | done | rfl | (simp only [List.length_drop, List.length_take]; rfl)) ?_; (with_reducible refine (riverbankref05_away.calls (Int.tmod a1 9) (Int.tmod a2 9) t235 _ A7.out).mono ?_); rintro e w13 ⟨rfl, hb⟩; refine ⟨_, rfl, ?_⟩; have n0_ := Aside0.mk (below_step (by repeat (first | (with_reducible first | exact HB.out | apply below_alloc | apply pw_below_drewN | apply below_drew1) | exact HB.out)) hb); clear HB; have HB := n0_; clear n0_; (try clear hb); (try clear hb2); (try clear hk); (try clear hi)) | ((with_reducible refine gate_callee (f := 98) rfl ?_); refine goesL_ (some 23) rfl rfl Try.func98 (by kernel_rfl) rfl #[.int .i64 (wrap64 (Int.tdiv a1 9)), .int .i64 (wrap64 (Int.tdiv a2 9))] rfl (by (try simp only [List.map_toArray, List.map_cons, List.map_nil]); first | done | rfl | (simp only [List.length_drop, List.length_take]; rfl)) ?_; (with_reducible refine (riverbankref05_away.calls (wrap64 (Int.tdiv a1 9)) (wrap64 (Int.tdiv a2 9)) t236 _ A8.out).mono ?_); rintro e w14 ⟨rfl, hb⟩; refine ⟨_, rfl, ?_⟩; have n0_ := Aside0.mk (below_step (by repeat (first | (with_reducible first | exact HB.out | apply below_alloc | apply pw_below_drewN | apply below_drew1) | exact HB.out)) hb); clear HB; have HB := n0_; clear n0_; (try clear hb); (try clear hb2); (try clear hk); (try clear hi)) | ((with_reducible refine gate_callee (f := 57) rfl ?_); refine goesL_ (some 25) rfl rfl Try.func57 (by kernel_rfl) rfl #[.int .u8 (bt a0 a1)] rfl (by (try simp only [List.map_toArray, List.map_cons, List.map_nil]); first | done | rfl | (simp only [List.length_drop, List.length_take]; rfl)) ?_; (with_reducible refine (riverbankref02_Kind.calls k (bt a0 a1) t237 _ A9.out).mono ?_); rintro e w' ⟨rfl, ⟨nd, rfl⟩⟩; refine ⟨_, rfl, ?_⟩) | (go_at_call 86; (with_reducible refine (riverbankref03_May.calls k (bt a0 a1) a2 t238 _ A12.out).mono ?_); rintro e w' ⟨rfl, ⟨nd, rfl⟩⟩))
          go_ret
          exact ⟨by first | rfl | (simp [errW_none, errW_some] <;> rfl) | (simp [*, errW_none, errW_some] <;> rfl), by repeat (first | (with_reducible first | exact HB.out | apply below_alloc | apply pw_below_drewN | apply below_drew1) | exact HB.out)⟩
        · rw [if_neg c11] at H
          have c11b0 : ((wrap64 (t235 + t236)) == 1) = false := beq_eq_false_iff_ne.mpr c11
          have c11b1 : ((wrap64 (t235 + t236)) != 1) = true := bne_iff_ne.mpr c11
          obtain rfl := Option.some.inj H
          have p6 : 0 ≤ (a1 : Int) := of_decide_eq_true (by first | (with_reducible assumption) | assumption)
          have q6 : a1 < (a0.size : Int) := of_decide_eq_true (by first | (with_reducible assumption) | assumption)
          have hx6 := bt_at a0 a1
          replace p6 := eq_true p6
          replace q6 := eq_true q6
          go_enter Try.func90, Try.ntmps90
          go_wp2_with (first | ((with_reducible refine gate_callee (f := 98) rfl ?_); refine goesL_ (some 18) rfl rfl Try.func98 (by kernel_rfl) rfl #[.int .i64 (Int.tmod a1 9), .int .i64 (Int.tmod a2 9)] rfl (by (try simp only [List.map_toArray, List.map_cons, List.map_nil]); first | done | rfl | (simp only [List.length_drop, List.length_take]; rfl)) ?_; (with_reducible refine (riverbankref05_away.calls (Int.tmod a1 9) (Int.tmod a2 9) t235 _ A7.out).mono ?_); rintro e w15 ⟨rfl, hb⟩; refine ⟨_, rfl, ?_⟩; have n0_ := Aside0.mk (below_step (by repeat (first | (with_reducible first | exact HB.out | apply below_alloc | apply pw_below_drewN | apply below_drew1) | exact HB.out)) hb); clear HB; have HB := n0_; clear n0_; (try clear hb); (try clear hb2); (try clear hk); (try clear hi)) | ((with_reducible refine gate_callee (f := 98) rfl ?_); refine goesL_ (some 23) rfl rfl Try.func98 (by kernel_rfl) rfl #[.int .i64 (wrap64 (Int.tdiv a1 9)), .int .i64 (wrap64 (Int.tdiv a2 9))] rfl (by (try simp only [List.map_toArray, List.map_cons, List.map_nil]); first | done | rfl | (simp only [List.length_drop, List.length_take]; rfl)) ?_; (with_reducible refine (riverbankref05_away.calls (wrap64 (Int.tdiv a1 9)) (wrap64 (Int.tdiv a2 9)) t236 _ A8.out).mono ?_); rintro e w16 ⟨rfl, hb⟩; refine ⟨_, rfl, ?_⟩; have n0_ := Aside0.mk (below_step (by repeat (first | (with_reducible first | exact HB.out | apply below_alloc | apply pw_below_drewN | apply below_drew1) | exact HB.out)) hb); clear HB; have HB := n0_; clear n0_; (try clear hb); (try clear hb2); (try clear hk); (try clear hi)) | ((with_reducible refine gate_callee (f := 57) rfl ?_); refine goesL_ (some 25) rfl rfl Try.func57 (by kernel_rfl) rfl #[.int .u8 (bt a0 a1)] rfl (by (try simp only [List.map_toArray, List.map_cons, List.map_nil]); first | done | rfl | (simp only [List.length_drop, List.length_take]; rfl)) ?_; (with_reducible refine (riverbankref02_Kind.calls k (bt a0 a1) t237 _ A9.out).mono ?_); rintro e w' ⟨rfl, ⟨nd, rfl⟩⟩; refine ⟨_, rfl, ?_⟩))
          go_ret
          exact ⟨by first | rfl | (simp [errW_none, errW_some] <;> rfl) | (simp [*, errW_none, errW_some] <;> rfl), by repeat (first | (with_reducible first | exact HB.out | apply below_alloc | apply pw_below_drewN | apply below_drew1) | exact HB.out)⟩
      · rw [if_neg c10] at H
        have c10b0 : (t237 == 75) = false := beq_eq_false_iff_ne.mpr c10
        have c10b1 : (t237 != 75) = true := bne_iff_ne.mpr c10
        by_cases c17 : t237 = 65
        · rw [if_pos c17] at H
          have c17b0 : (t237 == 65) = true := beq_iff_eq.mpr c17
          have c17b1 : (t237 != 65) = false := bne_eq_false_iff_eq.mpr c17
          clear c17
          by_cases c18 : t235 = 1
          · rw [if_pos c18] at H
            have c18b0 : (t235 == 1) = true := beq_iff_eq.mpr c18
            have c18b1 : (t235 != 1) = false := bne_eq_false_iff_eq.mpr c18
            clear c18
            by_cases c19 : t236 = 1
            · rw [if_pos c19] at H
              have c19b0 : (t236 == 1) = true := beq_iff_eq.mpr c19
              have c19b1 : (t236 != 1) = false := bne_eq_false_iff_eq.mpr c19
              clear c19
              replace H := Option.bind_eq_some_iff.mp H
              obtain ⟨t239, A200, H⟩ := H
              replace H : (some t239) = some r := H
              have A20 := Aside0.mk A200
              clear A200
              obtain rfl := Option.some.inj H
              have p6 : 0 ≤ (a1 : Int) := of_decide_eq_true (by first | (with_reducible assumption) | assumption)
              have q6 : a1 < (a0.size : Int) := of_decide_eq_true (by first | (with_reducible assumption) | assumption)
              have hx6 := bt_at a0 a1
              replace p6 := eq_true p6
              replace q6 := eq_true q6
              go_enter Try.func90, Try.ntmps90
              go_wp2_with (first | ((with_reducible refine gate_callee (f := 98) rfl ?_); refine goesL_ (some 18) rfl rfl Try.func98 (by kernel_rfl) rfl #[.int .i64 (Int.tmod a1 9), .int .i64 (Int.tmod a2 9)] rfl (by (try simp only [List.map_toArray, List.map_cons, List.map_nil]); first | done | rfl | (simp only [List.length_drop, List.length_take]; rfl)) ?_; (with_reducible refine (riverbankref05_away.calls (Int.tmod a1 9) (Int.tmod a2 9) t235 _ A7.out).mono ?_); rintro e w21 ⟨rfl, hb⟩; refine ⟨_, rfl, ?_⟩; have n0_ := Aside0.mk (below_step (by repeat (first | (with_reducible first | exact HB.out | apply below_alloc | apply pw_below_drewN | apply below_drew1) | exact HB.out)) hb); clear HB; have HB := n0_; clear n0_; (try clear hb); (try clear hb2); (try clear hk); (try clear hi)) | ((with_reducible refine gate_callee (f := 98) rfl ?_); refine goesL_ (some 23) rfl rfl Try.func98 (by kernel_rfl) rfl #[.int .i64 (wrap64 (Int.tdiv a1 9)), .int .i64 (wrap64 (Int.tdiv a2 9))] rfl (by (try simp only [List.map_toArray, List.map_cons, List.map_nil]); first | done | rfl | (simp only [List.length_drop, List.length_take]; rfl)) ?_; (with_reducible refine (riverbankref05_away.calls (wrap64 (Int.tdiv a1 9)) (wrap64 (Int.tdiv a2 9)) t236 _ A8.out).mono ?_); rintro e w22 ⟨rfl, hb⟩; refine ⟨_, rfl, ?_⟩; have n0_ := Aside0.mk (below_step (by repeat (first | (with_reducible first | exact HB.out | apply below_alloc | apply pw_below_drewN | apply below_drew1) | exact HB.out)) hb); clear HB; have HB := n0_; clear n0_; (try clear hb); (try clear hb2); (try clear hk); (try clear hi)) | ((with_reducible refine gate_callee (f := 57) rfl ?_); refine goesL_ (some 25) rfl rfl Try.func57 (by kernel_rfl) rfl #[.int .u8 (bt a0 a1)] rfl (by (try simp only [List.map_toArray, List.map_cons, List.map_nil]); first | done | rfl | (simp only [List.length_drop, List.length_take]; rfl)) ?_; (with_reducible refine (riverbankref02_Kind.calls k (bt a0 a1) t237 _ A9.out).mono ?_); rintro e w' ⟨rfl, ⟨nd, rfl⟩⟩; refine ⟨_, rfl, ?_⟩) | (go_at_call 86; (with_reducible refine (riverbankref03_May.calls k (bt a0 a1) a2 t239 _ A20.out).mono ?_); rintro e w' ⟨rfl, ⟨nd, rfl⟩⟩))
              go_ret
              exact ⟨by first | rfl | (simp [errW_none, errW_some] <;> rfl) | (simp [*, errW_none, errW_some] <;> rfl), by repeat (first | (with_reducible first | exact HB.out | apply below_alloc | apply pw_below_drewN | apply below_drew1) | exact HB.out)⟩
            · rw [if_neg c19] at H
              have c19b0 : (t236 == 1) = false := beq_eq_false_iff_ne.mpr c19
              have c19b1 : (t236 != 1) = true := bne_iff_ne.mpr c19
              obtain rfl := Option.some.inj H
              have p6 : 0 ≤ (a1 : Int) := of_decide_eq_true (by first | (with_reducible assumption) | assumption)
              have q6 : a1 < (a0.size : Int) := of_decide_eq_true (by first | (with_reducible assumption) | assumption)
              have hx6 := bt_at a0 a1
              replace p6 := eq_true p6
              replace q6 := eq_true q6
              go_enter Try.func90, Try.ntmps90
              go_wp2_with (first | ((with_reducible refine gate_callee (f := 98) rfl ?_); refine goesL_ (some 18) rfl rfl Try.func98 (by kernel_rfl) rfl #[.int .i64 (Int.tmod a1 9), .int .i64 (Int.tmod a2 9)] rfl (by (try simp only [List.map_toArray, List.map_cons, List.map_nil]); first | done | rfl | (simp only [List.length_drop, List.length_take]; rfl)) ?_; (with_reducible refine (riverbankref05_away.calls (Int.tmod a1 9) (Int.tmod a2 9) t235 _ A7.out).mono ?_); rintro e w23 ⟨rfl, hb⟩; refine ⟨_, rfl, ?_⟩; have n0_ := Aside0.mk (below_step (by repeat (first | (with_reducible first | exact HB.out | apply below_alloc | apply pw_below_drewN | apply below_drew1) | exact HB.out)) hb); clear HB; have HB := n0_; clear n0_; (try clear hb); (try clear hb2); (try clear hk); (try clear hi)) | ((with_reducible refine gate_callee (f := 98) rfl ?_); refine goesL_ (some 23) rfl rfl Try.func98 (by kernel_rfl) rfl #[.int .i64 (wrap64 (Int.tdiv a1 9)), .int .i64 (wrap64 (Int.tdiv a2 9))] rfl (by (try simp only [List.map_toArray, List.map_cons, List.map_nil]); first | done | rfl | (simp only [List.length_drop, List.length_take]; rfl)) ?_; (with_reducible refine (riverbankref05_away.calls (wrap64 (Int.tdiv a1 9)) (wrap64 (Int.tdiv a2 9)) t236 _ A8.out).mono ?_); rintro e w24 ⟨rfl, hb⟩; refine ⟨_, rfl, ?_⟩; have n0_ := Aside0.mk (below_step (by repeat (first | (with_reducible first | exact HB.out | apply below_alloc | apply pw_below_drewN | apply below_drew1) | exact HB.out)) hb); clear HB; have HB := n0_; clear n0_; (try clear hb); (try clear hb2); (try clear hk); (try clear hi)) | ((with_reducible refine gate_callee (f := 57) rfl ?_); refine goesL_ (some 25) rfl rfl Try.func57 (by kernel_rfl) rfl #[.int .u8 (bt a0 a1)] rfl (by (try simp only [List.map_toArray, List.map_cons, List.map_nil]); first | done | rfl | (simp only [List.length_drop, List.length_take]; rfl)) ?_; (with_reducible refine (riverbankref02_Kind.calls k (bt a0 a1) t237 _ A9.out).mono ?_); rintro e w' ⟨rfl, ⟨nd, rfl⟩⟩; refine ⟨_, rfl, ?_⟩))
              go_ret
              exact ⟨by first | rfl | (simp [errW_none, errW_some] <;> rfl) | (simp [*, errW_none, errW_some] <;> rfl), by repeat (first | (with_reducible first | exact HB.out | apply below_alloc | apply pw_below_drewN | apply below_drew1) | exact HB.out)⟩
          · rw [if_neg c18] at H
            have c18b0 : (t235 == 1) = false := beq_eq_false_iff_ne.mpr c18
            have c18b1 : (t235 != 1) = true := bne_iff_ne.mpr c18
            obtain rfl := Option.some.inj H
            have p6 : 0 ≤ (a1 : Int) := of_decide_eq_true (by first | (with_reducible assumption) | assumption)
            have q6 : a1 < (a0.size : Int) := of_decide_eq_true (by first | (with_reducible assumption) | assumption)
            have hx6 := bt_at a0 a1
            replace p6 := eq_true p6
            replace q6 := eq_true q6
            go_enter Try.func90, Try.ntmps90
            go_wp2_with (first | ((with_reducible refine gate_callee (f := 98) rfl ?_); refine goesL_ (some 18) rfl rfl Try.func98 (by kernel_rfl) rfl #[.int .i64 (Int.tmod a1 9), .int .i64 (Int.tmod a2 9)] rfl (by (try simp only [List.map_toArray, List.map_cons, List.map_nil]); first | done | rfl | (simp only [List.length_drop, List.length_take]; rfl)) ?_; (with_reducible refine (riverbankref05_away.calls (Int.tmod a1 9) (Int.tmod a2 9) t235 _ A7.out).mono ?_); rintro e w25 ⟨rfl, hb⟩; refine ⟨_, rfl, ?_⟩; have n0_ := Aside0.mk (below_step (by repeat (first | (with_reducible first | exact HB.out | apply below_alloc | apply pw_below_drewN | apply below_drew1) | exact HB.out)) hb); clear HB; have HB := n0_; clear n0_; (try clear hb); (try clear hb2); (try clear hk); (try clear hi)) | ((with_reducible refine gate_callee (f := 98) rfl ?_); refine goesL_ (some 23) rfl rfl Try.func98 (by kernel_rfl) rfl #[.int .i64 (wrap64 (Int.tdiv a1 9)), .int .i64 (wrap64 (Int.tdiv a2 9))] rfl (by (try simp only [List.map_toArray, List.map_cons, List.map_nil]); first | done | rfl | (simp only [List.length_drop, List.length_take]; rfl)) ?_; (with_reducible refine (riverbankref05_away.calls (wrap64 (Int.tdiv a1 9)) (wrap64 (Int.tdiv a2 9)) t236 _ A8.out).mono ?_); rintro e w26 ⟨rfl, hb⟩; refine ⟨_, rfl, ?_⟩; have n0_ := Aside0.mk (below_step (by repeat (first | (with_reducible first | exact HB.out | apply below_alloc | apply pw_below_drewN | apply below_drew1) | exact HB.out)) hb); clear HB; have HB := n0_; clear n0_; (try clear hb); (try clear hb2); (try clear hk); (try clear hi)) | ((with_reducible refine gate_callee (f := 57) rfl ?_); refine goesL_ (some 25) rfl rfl Try.func57 (by kernel_rfl) rfl #[.int .u8 (bt a0 a1)] rfl (by (try simp only [List.map_toArray, List.map_cons, List.map_nil]); first | done | rfl | (simp only [List.length_drop, List.length_take]; rfl)) ?_; (with_reducible refine (riverbankref02_Kind.calls k (bt a0 a1) t237 _ A9.out).mono ?_); rintro e w' ⟨rfl, ⟨nd, rfl⟩⟩; refine ⟨_, rfl, ?_⟩))
            go_ret
            exact ⟨by first | rfl | (simp [errW_none, errW_some] <;> rfl) | (simp [*, errW_none, errW_some] <;> rfl), by repeat (first | (with_reducible first | exact HB.out | apply below_alloc | apply pw_below_drewN | apply below_drew1) | exact HB.out)⟩
        · rw [if_neg c17] at H
          have c17b0 : (t237 == 65) = false := beq_eq_false_iff_ne.mpr c17
          have c17b1 : (t237 != 65) = true := bne_iff_ne.mpr c17
          by_cases c27 : t237 = 66
          · rw [if_pos c27] at H
            have c27b0 : (t237 == 66) = true := beq_iff_eq.mpr c27
            have c27b1 : (t237 != 66) = false := bne_eq_false_iff_eq.mpr c27
            clear c27
            by_cases c28 : t235 = 2
            · rw [if_pos c28] at H
              have c28b0 : (t235 == 2) = true := beq_iff_eq.mpr c28
              have c28b1 : (t235 != 2) = false := bne_eq_false_iff_eq.mpr c28
              clear c28
              by_cases c29 : t236 = 2
              · rw [if_pos c29] at H
                have c29b0 : (t236 == 2) = true := beq_iff_eq.mpr c29
                have c29b1 : (t236 != 2) = false := bne_eq_false_iff_eq.mpr c29
                clear c29
                replace H := Option.bind_eq_some_iff.mp H
                obtain ⟨t240, A300, H⟩ := H
                replace H : (if t240 = true then (if 0 ≤ (wrap64 (Int.tdiv (wrap64 (a1 + a2)) 2)) then (if (wrap64 (Int.tdiv (wrap64 (a1 + a2)) 2)) < (a0.size : Int) then (some ((bt a0 (wrap64 (Int.tdiv (wrap64 (a1 + a2)) 2))) == 46)) else (none)) else (none)) else (some false)) = some r := H
                have A30 := Aside0.mk A300
                clear A300
                by_cases c31 : t240 = true
                · subst c31
                  have H1 : (if 0 ≤ (wrap64 (Int.tdiv (wrap64 (a1 + a2)) 2)) then (if (wrap64 (Int.tdiv (wrap64 (a1 + a2)) 2)) < (a0.size : Int) then (some ((bt a0 (wrap64 (Int.tdiv (wrap64 (a1 + a2)) 2))) == 46)) else (none)) else (none)) = some r := by rw [if_pos rfl] at H; exact H
                  clear H
                  have H := H1
                  clear H1
                  obtain ⟨ji32, hji32⟩ : ∃ j_ : Int, (wrap64 (Int.tdiv (wrap64 (a1 + a2)) 2)) = j_ := ⟨_, rfl⟩
                  replace H : (if 0 ≤ (ji32) then (if (ji32) < (a0.size : Int) then (some ((bt a0 (ji32)) == 46)) else (none)) else (none)) = some r := by first | (rw [hji32] at H; exact H) | (simp only [hji32] at H ⊢; exact H)
                  (try rw [hji32] at A7)
                  (try rw [hji32] at A8)
                  (try rw [hji32] at A9)
                  (try rw [hji32] at A30)
                  have hji32w : (IntKind.i64.wrap (Int.tdiv (wrap64 (a1 + a2)) 2)) = ji32 := (i64_w _).trans hji32
                  by_cases c33 : 0 ≤ (ji32)
                  · rw [if_pos c33] at H
                    have c33b0 : decide (0 ≤ (ji32)) = true := decide_eq_true c33
                    clear c33
                    by_cases c34 : (ji32) < (a0.size : Int)
                    · rw [if_pos c34] at H
                      have c34b0 : decide ((ji32) < (a0.size : Int)) = true := decide_eq_true c34
                      clear c34
                      obtain rfl := Option.some.inj H
                      have p6 : 0 ≤ (a1 : Int) := of_decide_eq_true (by first | (with_reducible assumption) | assumption)
                      have q6 : a1 < (a0.size : Int) := of_decide_eq_true (by first | (with_reducible assumption) | assumption)
                      have hx6 := bt_at a0 a1
                      replace p6 := eq_true p6
                      replace q6 := eq_true q6
                      go_enter Try.func90, Try.ntmps90
                      go_wp2_with (first | ((with_reducible refine gate_callee (f := 98) rfl ?_); refine goesL_ (some 18) rfl rfl Try.func98 (by kernel_rfl) rfl #[.int .i64 (Int.tmod a1 9), .int .i64 (Int.tmod a2 9)] rfl (by (try simp only [List.map_toArray, List.map_cons, List.map_nil]); first | done | rfl | (simp only [List.length_drop, List.length_take]; rfl)) ?_; (with_reducible refine (riverbankref05_away.calls (Int.tmod a1 9) (Int.tmod a2 9) t235 _ A7.out).mono ?_); rintro e w36 ⟨rfl, hb⟩; refine ⟨_, rfl, ?_⟩; have n0_ := Aside0.mk (below_step (by repeat (first | (with_reducible first | exact HB.out | apply below_alloc | apply pw_below_drewN | apply below_drew1) | exact HB.out)) hb); clear HB; have HB := n0_; clear n0_; (try clear hb); (try clear hb2); (try clear hk); (try clear hi)) | ((with_reducible refine gate_callee (f := 98) rfl ?_); refine goesL_ (some 23) rfl rfl Try.func98 (by kernel_rfl) rfl #[.int .i64 (wrap64 (Int.tdiv a1 9)), .int .i64 (wrap64 (Int.tdiv a2 9))] rfl (by (try simp only [List.map_toArray, List.map_cons, List.map_nil]); first | done | rfl | (simp only [List.length_drop, List.length_take]; rfl)) ?_; (with_reducible refine (riverbankref05_away.calls (wrap64 (Int.tdiv a1 9)) (wrap64 (Int.tdiv a2 9)) t236 _ A8.out).mono ?_); rintro e w37 ⟨rfl, hb⟩; refine ⟨_, rfl, ?_⟩; have n0_ := Aside0.mk (below_step (by repeat (first | (with_reducible first | exact HB.out | apply below_alloc | apply pw_below_drewN | apply below_drew1) | exact HB.out)) hb); clear HB; have HB := n0_; clear n0_; (try clear hb); (try clear hb2); (try clear hk); (try clear hi)) | ((with_reducible refine gate_callee (f := 57) rfl ?_); refine goesL_ (some 25) rfl rfl Try.func57 (by kernel_rfl) rfl #[.int .u8 (bt a0 a1)] rfl (by (try simp only [List.map_toArray, List.map_cons, List.map_nil]); first | done | rfl | (simp only [List.length_drop, List.length_take]; rfl)) ?_; (with_reducible refine (riverbankref02_Kind.calls k (bt a0 a1) t237 _ A9.out).mono ?_); rintro e w' ⟨rfl, ⟨nd, rfl⟩⟩; refine ⟨_, rfl, ?_⟩) | (go_at_call 86; (with_reducible refine (riverbankref03_May.calls k (bt a0 a1) a2 true _ A30.out).mono ?_); rintro e w' ⟨rfl, ⟨nd, rfl⟩⟩; have p35 : 0 ≤ ((ji32) : Int) := of_decide_eq_true (by first | (with_reducible assumption) | assumption); have q35 : (ji32) < (a0.size : Int) := of_decide_eq_true (by first | (with_reducible assumption) | assumption); have hx35 := bt_at a0 (ji32); replace p35 := eq_true p35; replace q35 := eq_true q35))
                      go_ret
                      exact ⟨by first | rfl | (simp [errW_none, errW_some] <;> rfl) | (simp only [← hji32]; first | rfl | (simp [errW_none, errW_some] <;> rfl)) | (simp [*, errW_none, errW_some] <;> rfl), by repeat (first | (with_reducible first | exact HB.out | apply below_alloc | apply pw_below_drewN | apply below_drew1) | exact HB.out)⟩
                    · rw [if_neg c34] at H
                      exact absurd H (by simp)
                  · rw [if_neg c33] at H
                    exact absurd H (by simp)
                · replace c31 := Bool.eq_false_iff.mpr c31
                  subst c31
                  have H1 : (some false) = some r := by rw [if_neg (show ¬ (false = true) by decide)] at H; exact H
                  clear H
                  have H := H1
                  clear H1
                  obtain rfl := Option.some.inj H
                  have p6 : 0 ≤ (a1 : Int) := of_decide_eq_true (by first | (with_reducible assumption) | assumption)
                  have q6 : a1 < (a0.size : Int) := of_decide_eq_true (by first | (with_reducible assumption) | assumption)
                  have hx6 := bt_at a0 a1
                  replace p6 := eq_true p6
                  replace q6 := eq_true q6
                  go_enter Try.func90, Try.ntmps90
                  go_wp2_with (first | ((with_reducible refine gate_callee (f := 98) rfl ?_); refine goesL_ (some 18) rfl rfl Try.func98 (by kernel_rfl) rfl #[.int .i64 (Int.tmod a1 9), .int .i64 (Int.tmod a2 9)] rfl (by (try simp only [List.map_toArray, List.map_cons, List.map_nil]); first | done | rfl | (simp only [List.length_drop, List.length_take]; rfl)) ?_; (with_reducible refine (riverbankref05_away.calls (Int.tmod a1 9) (Int.tmod a2 9) t235 _ A7.out).mono ?_); rintro e w38 ⟨rfl, hb⟩; refine ⟨_, rfl, ?_⟩; have n0_ := Aside0.mk (below_step (by repeat (first | (with_reducible first | exact HB.out | apply below_alloc | apply pw_below_drewN | apply below_drew1) | exact HB.out)) hb); clear HB; have HB := n0_; clear n0_; (try clear hb); (try clear hb2); (try clear hk); (try clear hi)) | ((with_reducible refine gate_callee (f := 98) rfl ?_); refine goesL_ (some 23) rfl rfl Try.func98 (by kernel_rfl) rfl #[.int .i64 (wrap64 (Int.tdiv a1 9)), .int .i64 (wrap64 (Int.tdiv a2 9))] rfl (by (try simp only [List.map_toArray, List.map_cons, List.map_nil]); first | done | rfl | (simp only [List.length_drop, List.length_take]; rfl)) ?_; (with_reducible refine (riverbankref05_away.calls (wrap64 (Int.tdiv a1 9)) (wrap64 (Int.tdiv a2 9)) t236 _ A8.out).mono ?_); rintro e w39 ⟨rfl, hb⟩; refine ⟨_, rfl, ?_⟩; have n0_ := Aside0.mk (below_step (by repeat (first | (with_reducible first | exact HB.out | apply below_alloc | apply pw_below_drewN | apply below_drew1) | exact HB.out)) hb); clear HB; have HB := n0_; clear n0_; (try clear hb); (try clear hb2); (try clear hk); (try clear hi)) | ((with_reducible refine gate_callee (f := 57) rfl ?_); refine goesL_ (some 25) rfl rfl Try.func57 (by kernel_rfl) rfl #[.int .u8 (bt a0 a1)] rfl (by (try simp only [List.map_toArray, List.map_cons, List.map_nil]); first | done | rfl | (simp only [List.length_drop, List.length_take]; rfl)) ?_; (with_reducible refine (riverbankref02_Kind.calls k (bt a0 a1) t237 _ A9.out).mono ?_); rintro e w' ⟨rfl, ⟨nd, rfl⟩⟩; refine ⟨_, rfl, ?_⟩) | (go_at_call 86; (with_reducible refine (riverbankref03_May.calls k (bt a0 a1) a2 false _ A30.out).mono ?_); rintro e w' ⟨rfl, ⟨nd, rfl⟩⟩))
                  go_ret
                  exact ⟨by first | rfl | (simp [errW_none, errW_some] <;> rfl) | (simp [*, errW_none, errW_some] <;> rfl), by repeat (first | (with_reducible first | exact HB.out | apply below_alloc | apply pw_below_drewN | apply below_drew1) | exact HB.out)⟩
              · rw [if_neg c29] at H
                have c29b0 : (t236 == 2) = false := beq_eq_false_iff_ne.mpr c29
                have c29b1 : (t236 != 2) = true := bne_iff_ne.mpr c29
                obtain rfl := Option.some.inj H
                have p6 : 0 ≤ (a1 : Int) := of_decide_eq_true (by first | (with_reducible assumption) | assumption)
                have q6 : a1 < (a0.size : Int) := of_decide_eq_true (by first | (with_reducible assumption) | assumption)
                have hx6 := bt_at a0 a1
                replace p6 := eq_true p6
                replace q6 := eq_true q6
                go_enter Try.func90, Try.ntmps90
                go_wp2_with (first | ((with_reducible refine gate_callee (f := 98) rfl ?_); refine goesL_ (some 18) rfl rfl Try.func98 (by kernel_rfl) rfl #[.int .i64 (Int.tmod a1 9), .int .i64 (Int.tmod a2 9)] rfl (by (try simp only [List.map_toArray, List.map_cons, List.map_nil]); first | done | rfl | (simp only [List.length_drop, List.length_take]; rfl)) ?_; (with_reducible refine (riverbankref05_away.calls (Int.tmod a1 9) (Int.tmod a2 9) t235 _ A7.out).mono ?_); rintro e w40 ⟨rfl, hb⟩; refine ⟨_, rfl, ?_⟩; have n0_ := Aside0.mk (below_step (by repeat (first | (with_reducible first | exact HB.out | apply below_alloc | apply pw_below_drewN | apply below_drew1) | exact HB.out)) hb); clear HB; have HB := n0_; clear n0_; (try clear hb); (try clear hb2); (try clear hk); (try clear hi)) | ((with_reducible refine gate_callee (f := 98) rfl ?_); refine goesL_ (some 23) rfl rfl Try.func98 (by kernel_rfl) rfl #[.int .i64 (wrap64 (Int.tdiv a1 9)), .int .i64 (wrap64 (Int.tdiv a2 9))] rfl (by (try simp only [List.map_toArray, List.map_cons, List.map_nil]); first | done | rfl | (simp only [List.length_drop, List.length_take]; rfl)) ?_; (with_reducible refine (riverbankref05_away.calls (wrap64 (Int.tdiv a1 9)) (wrap64 (Int.tdiv a2 9)) t236 _ A8.out).mono ?_); rintro e w41 ⟨rfl, hb⟩; refine ⟨_, rfl, ?_⟩; have n0_ := Aside0.mk (below_step (by repeat (first | (with_reducible first | exact HB.out | apply below_alloc | apply pw_below_drewN | apply below_drew1) | exact HB.out)) hb); clear HB; have HB := n0_; clear n0_; (try clear hb); (try clear hb2); (try clear hk); (try clear hi)) | ((with_reducible refine gate_callee (f := 57) rfl ?_); refine goesL_ (some 25) rfl rfl Try.func57 (by kernel_rfl) rfl #[.int .u8 (bt a0 a1)] rfl (by (try simp only [List.map_toArray, List.map_cons, List.map_nil]); first | done | rfl | (simp only [List.length_drop, List.length_take]; rfl)) ?_; (with_reducible refine (riverbankref02_Kind.calls k (bt a0 a1) t237 _ A9.out).mono ?_); rintro e w' ⟨rfl, ⟨nd, rfl⟩⟩; refine ⟨_, rfl, ?_⟩))
                go_ret
                exact ⟨by first | rfl | (simp [errW_none, errW_some] <;> rfl) | (simp [*, errW_none, errW_some] <;> rfl), by repeat (first | (with_reducible first | exact HB.out | apply below_alloc | apply pw_below_drewN | apply below_drew1) | exact HB.out)⟩
            · rw [if_neg c28] at H
              have c28b0 : (t235 == 2) = false := beq_eq_false_iff_ne.mpr c28
              have c28b1 : (t235 != 2) = true := bne_iff_ne.mpr c28
              obtain rfl := Option.some.inj H
              have p6 : 0 ≤ (a1 : Int) := of_decide_eq_true (by first | (with_reducible assumption) | assumption)
              have q6 : a1 < (a0.size : Int) := of_decide_eq_true (by first | (with_reducible assumption) | assumption)
              have hx6 := bt_at a0 a1
              replace p6 := eq_true p6
              replace q6 := eq_true q6
              go_enter Try.func90, Try.ntmps90
              go_wp2_with (first | ((with_reducible refine gate_callee (f := 98) rfl ?_); refine goesL_ (some 18) rfl rfl Try.func98 (by kernel_rfl) rfl #[.int .i64 (Int.tmod a1 9), .int .i64 (Int.tmod a2 9)] rfl (by (try simp only [List.map_toArray, List.map_cons, List.map_nil]); first | done | rfl | (simp only [List.length_drop, List.length_take]; rfl)) ?_; (with_reducible refine (riverbankref05_away.calls (Int.tmod a1 9) (Int.tmod a2 9) t235 _ A7.out).mono ?_); rintro e w42 ⟨rfl, hb⟩; refine ⟨_, rfl, ?_⟩; have n0_ := Aside0.mk (below_step (by repeat (first | (with_reducible first | exact HB.out | apply below_alloc | apply pw_below_drewN | apply below_drew1) | exact HB.out)) hb); clear HB; have HB := n0_; clear n0_; (try clear hb); (try clear hb2); (try clear hk); (try clear hi)) | ((with_reducible refine gate_callee (f := 98) rfl ?_); refine goesL_ (some 23) rfl rfl Try.func98 (by kernel_rfl) rfl #[.int .i64 (wrap64 (Int.tdiv a1 9)), .int .i64 (wrap64 (Int.tdiv a2 9))] rfl (by (try simp only [List.map_toArray, List.map_cons, List.map_nil]); first | done | rfl | (simp only [List.length_drop, List.length_take]; rfl)) ?_; (with_reducible refine (riverbankref05_away.calls (wrap64 (Int.tdiv a1 9)) (wrap64 (Int.tdiv a2 9)) t236 _ A8.out).mono ?_); rintro e w43 ⟨rfl, hb⟩; refine ⟨_, rfl, ?_⟩; have n0_ := Aside0.mk (below_step (by repeat (first | (with_reducible first | exact HB.out | apply below_alloc | apply pw_below_drewN | apply below_drew1) | exact HB.out)) hb); clear HB; have HB := n0_; clear n0_; (try clear hb); (try clear hb2); (try clear hk); (try clear hi)) | ((with_reducible refine gate_callee (f := 57) rfl ?_); refine goesL_ (some 25) rfl rfl Try.func57 (by kernel_rfl) rfl #[.int .u8 (bt a0 a1)] rfl (by (try simp only [List.map_toArray, List.map_cons, List.map_nil]); first | done | rfl | (simp only [List.length_drop, List.length_take]; rfl)) ?_; (with_reducible refine (riverbankref02_Kind.calls k (bt a0 a1) t237 _ A9.out).mono ?_); rintro e w' ⟨rfl, ⟨nd, rfl⟩⟩; refine ⟨_, rfl, ?_⟩))
              go_ret
              exact ⟨by first | rfl | (simp [errW_none, errW_some] <;> rfl) | (simp [*, errW_none, errW_some] <;> rfl), by repeat (first | (with_reducible first | exact HB.out | apply below_alloc | apply pw_below_drewN | apply below_drew1) | exact HB.out)⟩
          · rw [if_neg c27] at H
            have c27b0 : (t237 == 66) = false := beq_eq_false_iff_ne.mpr c27
            have c27b1 : (t237 != 66) = true := bne_iff_ne.mpr c27
            by_cases c44 : t237 = 78
            · rw [if_pos c44] at H
              have c44b0 : (t237 == 78) = true := beq_iff_eq.mpr c44
              have c44b1 : (t237 != 78) = false := bne_eq_false_iff_eq.mpr c44
              clear c44
              replace H := Option.bind_eq_some_iff.mp H
              obtain ⟨t241, A450, H⟩ := H
              replace H : (some t241) = some r := H
              have A45 := Aside0.mk A450
              clear A450
              obtain rfl := Option.some.inj H
              have p6 : 0 ≤ (a1 : Int) := of_decide_eq_true (by first | (with_reducible assumption) | assumption)
              have q6 : a1 < (a0.size : Int) := of_decide_eq_true (by first | (with_reducible assumption) | assumption)
              have hx6 := bt_at a0 a1
              replace p6 := eq_true p6
              replace q6 := eq_true q6
              go_enter Try.func90, Try.ntmps90
              go_wp2_with (first | ((with_reducible refine gate_callee (f := 98) rfl ?_); refine goesL_ (some 18) rfl rfl Try.func98 (by kernel_rfl) rfl #[.int .i64 (Int.tmod a1 9), .int .i64 (Int.tmod a2 9)] rfl (by (try simp only [List.map_toArray, List.map_cons, List.map_nil]); first | done | rfl | (simp only [List.length_drop, List.length_take]; rfl)) ?_; (with_reducible refine (riverbankref05_away.calls (Int.tmod a1 9) (Int.tmod a2 9) t235 _ A7.out).mono ?_); rintro e w46 ⟨rfl, hb⟩; refine ⟨_, rfl, ?_⟩; have n0_ := Aside0.mk (below_step (by repeat (first | (with_reducible first | exact HB.out | apply below_alloc | apply pw_below_drewN | apply below_drew1) | exact HB.out)) hb); clear HB; have HB := n0_; clear n0_; (try clear hb); (try clear hb2); (try clear hk); (try clear hi)) | ((with_reducible refine gate_callee (f := 98) rfl ?_); refine goesL_ (some 23) rfl rfl Try.func98 (by kernel_rfl) rfl #[.int .i64 (wrap64 (Int.tdiv a1 9)), .int .i64 (wrap64 (Int.tdiv a2 9))] rfl (by (try simp only [List.map_toArray, List.map_cons, List.map_nil]); first | done | rfl | (simp only [List.length_drop, List.length_take]; rfl)) ?_; (with_reducible refine (riverbankref05_away.calls (wrap64 (Int.tdiv a1 9)) (wrap64 (Int.tdiv a2 9)) t236 _ A8.out).mono ?_); rintro e w47 ⟨rfl, hb⟩; refine ⟨_, rfl, ?_⟩; have n0_ := Aside0.mk (below_step (by repeat (first | (with_reducible first | exact HB.out | apply below_alloc | apply pw_below_drewN | apply below_drew1) | exact HB.out)) hb); clear HB; have HB := n0_; clear n0_; (try clear hb); (try clear hb2); (try clear hk); (try clear hi)) | ((with_reducible refine gate_callee (f := 57) rfl ?_); refine goesL_ (some 25) rfl rfl Try.func57 (by kernel_rfl) rfl #[.int .u8 (bt a0 a1)] rfl (by (try simp only [List.map_toArray, List.map_cons, List.map_nil]); first | done | rfl | (simp only [List.length_drop, List.length_take]; rfl)) ?_; (with_reducible refine (riverbankref02_Kind.calls k (bt a0 a1) t237 _ A9.out).mono ?_); rintro e w' ⟨rfl, ⟨nd, rfl⟩⟩; refine ⟨_, rfl, ?_⟩) | ((with_reducible refine gate_callee (f := 99) rfl ?_); refine goesL_ (some 77) rfl rfl Try.func99 (by kernel_rfl) rfl #[.string a0, .int .i64 a1, .int .i64 a2] rfl (by (try simp only [List.map_toArray, List.map_cons, List.map_nil]); first | done | rfl | (simp only [List.length_drop, List.length_take]; rfl)) ?_; (with_reducible refine (riverbankref05_horse.calls k a0 a1 a2 t241 _ A45.out).mono ?_); rintro e w48 ⟨rfl, hb⟩; refine ⟨_, rfl, ?_⟩; have n0_ := Aside0.mk (below_step (by repeat (first | (with_reducible first | exact HB.out | apply below_alloc | apply pw_below_drewN | apply below_drew1) | exact HB.out)) hb); clear HB; have HB := n0_; clear n0_; (try clear hb); (try clear hb2); (try clear hk); (try clear hi)))
              go_ret
              exact ⟨by first | rfl | (simp [errW_none, errW_some] <;> rfl) | (simp [*, errW_none, errW_some] <;> rfl), by repeat (first | (with_reducible first | exact HB.out | apply below_alloc | apply pw_below_drewN | apply below_drew1) | exact HB.out)⟩
            · rw [if_neg c44] at H
              have c44b0 : (t237 == 78) = false := beq_eq_false_iff_ne.mpr c44
              have c44b1 : (t237 != 78) = true := bne_iff_ne.mpr c44
              by_cases c49 : t237 = 82
              · rw [if_pos c49] at H
                have c49b0 : (t237 == 82) = true := beq_iff_eq.mpr c49
                have c49b1 : (t237 != 82) = false := bne_eq_false_iff_eq.mpr c49
                clear c49
                replace H := Option.bind_eq_some_iff.mp H
                obtain ⟨t242, A500, H⟩ := H
                replace H : (some (t242 == 0)) = some r := H
                have A50 := Aside0.mk A500
                clear A500
                obtain rfl := Option.some.inj H
                have p6 : 0 ≤ (a1 : Int) := of_decide_eq_true (by first | (with_reducible assumption) | assumption)
                have q6 : a1 < (a0.size : Int) := of_decide_eq_true (by first | (with_reducible assumption) | assumption)
                have hx6 := bt_at a0 a1
                replace p6 := eq_true p6
                replace q6 := eq_true q6
                go_enter Try.func90, Try.ntmps90
                go_wp2_with (first | ((with_reducible refine gate_callee (f := 98) rfl ?_); refine goesL_ (some 18) rfl rfl Try.func98 (by kernel_rfl) rfl #[.int .i64 (Int.tmod a1 9), .int .i64 (Int.tmod a2 9)] rfl (by (try simp only [List.map_toArray, List.map_cons, List.map_nil]); first | done | rfl | (simp only [List.length_drop, List.length_take]; rfl)) ?_; (with_reducible refine (riverbankref05_away.calls (Int.tmod a1 9) (Int.tmod a2 9) t235 _ A7.out).mono ?_); rintro e w51 ⟨rfl, hb⟩; refine ⟨_, rfl, ?_⟩; have n0_ := Aside0.mk (below_step (by repeat (first | (with_reducible first | exact HB.out | apply below_alloc | apply pw_below_drewN | apply below_drew1) | exact HB.out)) hb); clear HB; have HB := n0_; clear n0_; (try clear hb); (try clear hb2); (try clear hk); (try clear hi)) | ((with_reducible refine gate_callee (f := 98) rfl ?_); refine goesL_ (some 23) rfl rfl Try.func98 (by kernel_rfl) rfl #[.int .i64 (wrap64 (Int.tdiv a1 9)), .int .i64 (wrap64 (Int.tdiv a2 9))] rfl (by (try simp only [List.map_toArray, List.map_cons, List.map_nil]); first | done | rfl | (simp only [List.length_drop, List.length_take]; rfl)) ?_; (with_reducible refine (riverbankref05_away.calls (wrap64 (Int.tdiv a1 9)) (wrap64 (Int.tdiv a2 9)) t236 _ A8.out).mono ?_); rintro e w52 ⟨rfl, hb⟩; refine ⟨_, rfl, ?_⟩; have n0_ := Aside0.mk (below_step (by repeat (first | (with_reducible first | exact HB.out | apply below_alloc | apply pw_below_drewN | apply below_drew1) | exact HB.out)) hb); clear HB; have HB := n0_; clear n0_; (try clear hb); (try clear hb2); (try clear hk); (try clear hi)) | ((with_reducible refine gate_callee (f := 57) rfl ?_); refine goesL_ (some 25) rfl rfl Try.func57 (by kernel_rfl) rfl #[.int .u8 (bt a0 a1)] rfl (by (try simp only [List.map_toArray, List.map_cons, List.map_nil]); first | done | rfl | (simp only [List.length_drop, List.length_take]; rfl)) ?_; (with_reducible refine (riverbankref02_Kind.calls k (bt a0 a1) t237 _ A9.out).mono ?_); rintro e w' ⟨rfl, ⟨nd, rfl⟩⟩; refine ⟨_, rfl, ?_⟩) | ((with_reducible refine gate_callee (f := 96) rfl ?_); refine goesL_ (some 83) rfl rfl Try.func96 (by kernel_rfl) rfl #[.string a0, .int .i64 a1, .int .i64 a2] rfl (by (try simp only [List.map_toArray, List.map_cons, List.map_nil]); first | done | rfl | (simp only [List.length_drop, List.length_take]; rfl)) ?_; (with_reducible refine (riverbankref05_between.calls k a0 a1 a2 t242 _ A50.out).mono ?_); rintro e w53 ⟨rfl, hb⟩; refine ⟨_, rfl, ?_⟩; have n0_ := Aside0.mk (below_step (by repeat (first | (with_reducible first | exact HB.out | apply below_alloc | apply pw_below_drewN | apply below_drew1) | exact HB.out)) hb); clear HB; have HB := n0_; clear n0_; (try clear hb); (try clear hb2); (try clear hk); (try clear hi)))
                go_ret
                exact ⟨by first | rfl | (simp [errW_none, errW_some] <;> rfl) | (simp [*, errW_none, errW_some] <;> rfl), by repeat (first | (with_reducible first | exact HB.out | apply below_alloc | apply pw_below_drewN | apply below_drew1) | exact HB.out)⟩
              · rw [if_neg c49] at H
                have c49b0 : (t237 == 82) = false := beq_eq_false_iff_ne.mpr c49
                have c49b1 : (t237 != 82) = true := bne_iff_ne.mpr c49
                by_cases c54 : t237 = 67
                · rw [if_pos c54] at H
                  have c54b0 : (t237 == 67) = true := beq_iff_eq.mpr c54
                  have c54b1 : (t237 != 67) = false := bne_eq_false_iff_eq.mpr c54
                  clear c54
                  replace H := Option.bind_eq_some_iff.mp H
                  obtain ⟨t243, A550, H⟩ := H
                  replace H : (if t243 = 0 then (if 0 ≤ a2 then (if a2 < (a0.size : Int) then (if (bt a0 a2) = 46 then (some true) else (if t243 = 1 then (some ((bt a0 a2) != 46)) else (some false))) else (none)) else (none)) else (if t243 = 1 then (if 0 ≤ a2 then (if a2 < (a0.size : Int) then (some ((bt a0 a2) != 46)) else (none)) else (none)) else (some false))) = some r := H
                  have A55 := Aside0.mk A550
                  clear A550
                  by_cases c56 : t243 = 0
                  · rw [if_pos c56] at H
                    have c56b0 : (t243 == 0) = true := beq_iff_eq.mpr c56
                    have c56b1 : (t243 != 0) = false := bne_eq_false_iff_eq.mpr c56
                    clear c56
                    by_cases c57 : 0 ≤ a2
                    · rw [if_pos c57] at H
                      have c57b0 : decide (0 ≤ a2) = true := decide_eq_true c57
                      clear c57
                      by_cases c58 : a2 < (a0.size : Int)
                      · rw [if_pos c58] at H
                        have c58b0 : decide (a2 < (a0.size : Int)) = true := decide_eq_true c58
                        clear c58
                        by_cases c60 : (bt a0 a2) = 46
                        · rw [if_pos c60] at H
                          have c60b0 : ((bt a0 a2) == 46) = true := beq_iff_eq.mpr c60
                          have c60b1 : ((bt a0 a2) != 46) = false := bne_eq_false_iff_eq.mpr c60
                          clear c60
                          obtain rfl := Option.some.inj H
                          have p6 : 0 ≤ (a1 : Int) := of_decide_eq_true (by first | (with_reducible assumption) | assumption)
                          have q6 : a1 < (a0.size : Int) := of_decide_eq_true (by first | (with_reducible assumption) | assumption)
                          have hx6 := bt_at a0 a1
                          replace p6 := eq_true p6
                          replace q6 := eq_true q6
                          go_enter Try.func90, Try.ntmps90
                          go_wp2_with (first | ((with_reducible refine gate_callee (f := 98) rfl ?_); refine goesL_ (some 18) rfl rfl Try.func98 (by kernel_rfl) rfl #[.int .i64 (Int.tmod a1 9), .int .i64 (Int.tmod a2 9)] rfl (by (try simp only [List.map_toArray, List.map_cons, List.map_nil]); first | done | rfl | (simp only [List.length_drop, List.length_take]; rfl)) ?_; (with_reducible refine (riverbankref05_away.calls (Int.tmod a1 9) (Int.tmod a2 9) t235 _ A7.out).mono ?_); rintro e w61 ⟨rfl, hb⟩; refine ⟨_, rfl, ?_⟩; have n0_ := Aside0.mk (below_step (by repeat (first | (with_reducible first | exact HB.out | apply below_alloc | apply pw_below_drewN | apply below_drew1) | exact HB.out)) hb); clear HB; have HB := n0_; clear n0_; (try clear hb); (try clear hb2); (try clear hk); (try clear hi)) | ((with_reducible refine gate_callee (f := 98) rfl ?_); refine goesL_ (some 23) rfl rfl Try.func98 (by kernel_rfl) rfl #[.int .i64 (wrap64 (Int.tdiv a1 9)), .int .i64 (wrap64 (Int.tdiv a2 9))] rfl (by (try simp only [List.map_toArray, List.map_cons, List.map_nil]); first | done | rfl | (simp only [List.length_drop, List.length_take]; rfl)) ?_; (with_reducible refine (riverbankref05_away.calls (wrap64 (Int.tdiv a1 9)) (wrap64 (Int.tdiv a2 9)) t236 _ A8.out).mono ?_); rintro e w62 ⟨rfl, hb⟩; refine ⟨_, rfl, ?_⟩; have n0_ := Aside0.mk (below_step (by repeat (first | (with_reducible first | exact HB.out | apply below_alloc | apply pw_below_drewN | apply below_drew1) | exact HB.out)) hb); clear HB; have HB := n0_; clear n0_; (try clear hb); (try clear hb2); (try clear hk); (try clear hi)) | ((with_reducible refine gate_callee (f := 57) rfl ?_); refine goesL_ (some 25) rfl rfl Try.func57 (by kernel_rfl) rfl #[.int .u8 (bt a0 a1)] rfl (by (try simp only [List.map_toArray, List.map_cons, List.map_nil]); first | done | rfl | (simp only [List.length_drop, List.length_take]; rfl)) ?_; (with_reducible refine (riverbankref02_Kind.calls k (bt a0 a1) t237 _ A9.out).mono ?_); rintro e w' ⟨rfl, ⟨nd, rfl⟩⟩; refine ⟨_, rfl, ?_⟩) | ((with_reducible refine gate_callee (f := 96) rfl ?_); refine goesL_ (some 90) rfl rfl Try.func96 (by kernel_rfl) rfl #[.string a0, .int .i64 a1, .int .i64 a2] rfl (by (try simp only [List.map_toArray, List.map_cons, List.map_nil]); first | done | rfl | (simp only [List.length_drop, List.length_take]; rfl)) ?_; (with_reducible refine (riverbankref05_between.calls k a0 a1 a2 t243 _ A55.out).mono ?_); rintro e w63 ⟨rfl, hb⟩; refine ⟨_, rfl, ?_⟩; have n0_ := Aside0.mk (below_step (by repeat (first | (with_reducible first | exact HB.out | apply below_alloc | apply pw_below_drewN | apply below_drew1) | exact HB.out)) hb); clear HB; have HB := n0_; clear n0_; (try clear hb); (try clear hb2); (try clear hk); (try clear hi); have p59 : 0 ≤ (a2 : Int) := of_decide_eq_true (by first | (with_reducible assumption) | assumption); have q59 : a2 < (a0.size : Int) := of_decide_eq_true (by first | (with_reducible assumption) | assumption); have hx59 := bt_at a0 a2; replace p59 := eq_true p59; replace q59 := eq_true q59))
                          go_ret
                          exact ⟨by first | rfl | (simp [errW_none, errW_some] <;> rfl) | (simp [*, errW_none, errW_some] <;> rfl), by repeat (first | (with_reducible first | exact HB.out | apply below_alloc | apply pw_below_drewN | apply below_drew1) | exact HB.out)⟩
                        · rw [if_neg c60] at H
                          have c60b0 : ((bt a0 a2) == 46) = false := beq_eq_false_iff_ne.mpr c60
                          have c60b1 : ((bt a0 a2) != 46) = true := bne_iff_ne.mpr c60
                          by_cases c64 : t243 = 1
                          · rw [if_pos c64] at H
                            have c64b0 : (t243 == 1) = true := beq_iff_eq.mpr c64
                            have c64b1 : (t243 != 1) = false := bne_eq_false_iff_eq.mpr c64
                            clear c64
                            obtain rfl := Option.some.inj H
                            have p6 : 0 ≤ (a1 : Int) := of_decide_eq_true (by first | (with_reducible assumption) | assumption)
                            have q6 : a1 < (a0.size : Int) := of_decide_eq_true (by first | (with_reducible assumption) | assumption)
                            have hx6 := bt_at a0 a1
                            replace p6 := eq_true p6
                            replace q6 := eq_true q6
                            go_enter Try.func90, Try.ntmps90
                            go_wp2_with (first | ((with_reducible refine gate_callee (f := 98) rfl ?_); refine goesL_ (some 18) rfl rfl Try.func98 (by kernel_rfl) rfl #[.int .i64 (Int.tmod a1 9), .int .i64 (Int.tmod a2 9)] rfl (by (try simp only [List.map_toArray, List.map_cons, List.map_nil]); first | done | rfl | (simp only [List.length_drop, List.length_take]; rfl)) ?_; (with_reducible refine (riverbankref05_away.calls (Int.tmod a1 9) (Int.tmod a2 9) t235 _ A7.out).mono ?_); rintro e w66 ⟨rfl, hb⟩; refine ⟨_, rfl, ?_⟩; have n0_ := Aside0.mk (below_step (by repeat (first | (with_reducible first | exact HB.out | apply below_alloc | apply pw_below_drewN | apply below_drew1) | exact HB.out)) hb); clear HB; have HB := n0_; clear n0_; (try clear hb); (try clear hb2); (try clear hk); (try clear hi)) | ((with_reducible refine gate_callee (f := 98) rfl ?_); refine goesL_ (some 23) rfl rfl Try.func98 (by kernel_rfl) rfl #[.int .i64 (wrap64 (Int.tdiv a1 9)), .int .i64 (wrap64 (Int.tdiv a2 9))] rfl (by (try simp only [List.map_toArray, List.map_cons, List.map_nil]); first | done | rfl | (simp only [List.length_drop, List.length_take]; rfl)) ?_; (with_reducible refine (riverbankref05_away.calls (wrap64 (Int.tdiv a1 9)) (wrap64 (Int.tdiv a2 9)) t236 _ A8.out).mono ?_); rintro e w67 ⟨rfl, hb⟩; refine ⟨_, rfl, ?_⟩; have n0_ := Aside0.mk (below_step (by repeat (first | (with_reducible first | exact HB.out | apply below_alloc | apply pw_below_drewN | apply below_drew1) | exact HB.out)) hb); clear HB; have HB := n0_; clear n0_; (try clear hb); (try clear hb2); (try clear hk); (try clear hi)) | ((with_reducible refine gate_callee (f := 57) rfl ?_); refine goesL_ (some 25) rfl rfl Try.func57 (by kernel_rfl) rfl #[.int .u8 (bt a0 a1)] rfl (by (try simp only [List.map_toArray, List.map_cons, List.map_nil]); first | done | rfl | (simp only [List.length_drop, List.length_take]; rfl)) ?_; (with_reducible refine (riverbankref02_Kind.calls k (bt a0 a1) t237 _ A9.out).mono ?_); rintro e w' ⟨rfl, ⟨nd, rfl⟩⟩; refine ⟨_, rfl, ?_⟩) | ((with_reducible refine gate_callee (f := 96) rfl ?_); refine goesL_ (some 90) rfl rfl Try.func96 (by kernel_rfl) rfl #[.string a0, .int .i64 a1, .int .i64 a2] rfl (by (try simp only [List.map_toArray, List.map_cons, List.map_nil]); first | done | rfl | (simp only [List.length_drop, List.length_take]; rfl)) ?_; (with_reducible refine (riverbankref05_between.calls k a0 a1 a2 t243 _ A55.out).mono ?_); rintro e w68 ⟨rfl, hb⟩; refine ⟨_, rfl, ?_⟩; have n0_ := Aside0.mk (below_step (by repeat (first | (with_reducible first | exact HB.out | apply below_alloc | apply pw_below_drewN | apply below_drew1) | exact HB.out)) hb); clear HB; have HB := n0_; clear n0_; (try clear hb); (try clear hb2); (try clear hk); (try clear hi); have p59 : 0 ≤ (a2 : Int) := of_decide_eq_true (by first | (with_reducible assumption) | assumption); have q59 : a2 < (a0.size : Int) := of_decide_eq_true (by first | (with_reducible assumption) | assumption); have hx59 := bt_at a0 a2; replace p59 := eq_true p59; replace q59 := eq_true q59; have p65 : 0 ≤ (a2 : Int) := of_decide_eq_true (by first | (with_reducible assumption) | assumption); have q65 : a2 < (a0.size : Int) := of_decide_eq_true (by first | (with_reducible assumption) | assumption); have hx65 := bt_at a0 a2; replace p65 := eq_true p65; replace q65 := eq_true q65))
                            go_ret
                            exact ⟨by first | rfl | (simp [errW_none, errW_some] <;> rfl) | (simp [*, errW_none, errW_some] <;> rfl), by repeat (first | (with_reducible first | exact HB.out | apply below_alloc | apply pw_below_drewN | apply below_drew1) | exact HB.out)⟩
                          · rw [if_neg c64] at H
                            have c64b0 : (t243 == 1) = false := beq_eq_false_iff_ne.mpr c64
                            have c64b1 : (t243 != 1) = true := bne_iff_ne.mpr c64
                            obtain rfl := Option.some.inj H
                            have p6 : 0 ≤ (a1 : Int) := of_decide_eq_true (by first | (with_reducible assumption) | assumption)
                            have q6 : a1 < (a0.size : Int) := of_decide_eq_true (by first | (with_reducible assumption) | assumption)
                            have hx6 := bt_at a0 a1
                            replace p6 := eq_true p6
                            replace q6 := eq_true q6
                            go_enter Try.func90, Try.ntmps90
                            go_wp2_with (first | ((with_reducible refine gate_callee (f := 98) rfl ?_); refine goesL_ (some 18) rfl rfl Try.func98 (by kernel_rfl) rfl #[.int .i64 (Int.tmod a1 9), .int .i64 (Int.tmod a2 9)] rfl (by (try simp only [List.map_toArray, List.map_cons, List.map_nil]); first | done | rfl | (simp only [List.length_drop, List.length_take]; rfl)) ?_; (with_reducible refine (riverbankref05_away.calls (Int.tmod a1 9) (Int.tmod a2 9) t235 _ A7.out).mono ?_); rintro e w69 ⟨rfl, hb⟩; refine ⟨_, rfl, ?_⟩; have n0_ := Aside0.mk (below_step (by repeat (first | (with_reducible first | exact HB.out | apply below_alloc | apply pw_below_drewN | apply below_drew1) | exact HB.out)) hb); clear HB; have HB := n0_; clear n0_; (try clear hb); (try clear hb2); (try clear hk); (try clear hi)) | ((with_reducible refine gate_callee (f := 98) rfl ?_); refine goesL_ (some 23) rfl rfl Try.func98 (by kernel_rfl) rfl #[.int .i64 (wrap64 (Int.tdiv a1 9)), .int .i64 (wrap64 (Int.tdiv a2 9))] rfl (by (try simp only [List.map_toArray, List.map_cons, List.map_nil]); first | done | rfl | (simp only [List.length_drop, List.length_take]; rfl)) ?_; (with_reducible refine (riverbankref05_away.calls (wrap64 (Int.tdiv a1 9)) (wrap64 (Int.tdiv a2 9)) t236 _ A8.out).mono ?_); rintro e w70 ⟨rfl, hb⟩; refine ⟨_, rfl, ?_⟩; have n0_ := Aside0.mk (below_step (by repeat (first | (with_reducible first | exact HB.out | apply below_alloc | apply pw_below_drewN | apply below_drew1) | exact HB.out)) hb); clear HB; have HB := n0_; clear n0_; (try clear hb); (try clear hb2); (try clear hk); (try clear hi)) | ((with_reducible refine gate_callee (f := 57) rfl ?_); refine goesL_ (some 25) rfl rfl Try.func57 (by kernel_rfl) rfl #[.int .u8 (bt a0 a1)] rfl (by (try simp only [List.map_toArray, List.map_cons, List.map_nil]); first | done | rfl | (simp only [List.length_drop, List.length_take]; rfl)) ?_; (with_reducible refine (riverbankref02_Kind.calls k (bt a0 a1) t237 _ A9.out).mono ?_); rintro e w' ⟨rfl, ⟨nd, rfl⟩⟩; refine ⟨_, rfl, ?_⟩) | ((with_reducible refine gate_callee (f := 96) rfl ?_); refine goesL_ (some 90) rfl rfl Try.func96 (by kernel_rfl) rfl #[.string a0, .int .i64 a1, .int .i64 a2] rfl (by (try simp only [List.map_toArray, List.map_cons, List.map_nil]); first | done | rfl | (simp only [List.length_drop, List.length_take]; rfl)) ?_; (with_reducible refine (riverbankref05_between.calls k a0 a1 a2 t243 _ A55.out).mono ?_); rintro e w71 ⟨rfl, hb⟩; refine ⟨_, rfl, ?_⟩; have n0_ := Aside0.mk (below_step (by repeat (first | (with_reducible first | exact HB.out | apply below_alloc | apply pw_below_drewN | apply below_drew1) | exact HB.out)) hb); clear HB; have HB := n0_; clear n0_; (try clear hb); (try clear hb2); (try clear hk); (try clear hi); have p59 : 0 ≤ (a2 : Int) := of_decide_eq_true (by first | (with_reducible assumption) | assumption); have q59 : a2 < (a0.size : Int) := of_decide_eq_true (by first | (with_reducible assumption) | assumption); have hx59 := bt_at a0 a2; replace p59 := eq_true p59; replace q59 := eq_true q59))
                            go_ret
                            exact ⟨by first | rfl | (simp [errW_none, errW_some] <;> rfl) | (simp [*, errW_none, errW_some] <;> rfl), by repeat (first | (with_reducible first | exact HB.out | apply below_alloc | apply pw_below_drewN | apply below_drew1) | exact HB.out)⟩
                      · rw [if_neg c58] at H
                        exact absurd H (by simp)
                    · rw [if_neg c57] at H
                      exact absurd H (by simp)
                  · rw [if_neg c56] at H
                    have c56b0 : (t243 == 0) = false := beq_eq_false_iff_ne.mpr c56
                    have c56b1 : (t243 != 0) = true := bne_iff_ne.mpr c56
                    by_cases c72 : t243 = 1
                    · rw [if_pos c72] at H
                      have c72b0 : (t243 == 1) = true := beq_iff_eq.mpr c72
                      have c72b1 : (t243 != 1) = false := bne_eq_false_iff_eq.mpr c72
                      clear c72
                      by_cases c73 : 0 ≤ a2
                      · rw [if_pos c73] at H
                        have c73b0 : decide (0 ≤ a2) = true := decide_eq_true c73
                        clear c73
                        by_cases c74 : a2 < (a0.size : Int)
                        · rw [if_pos c74] at H
                          have c74b0 : decide (a2 < (a0.size : Int)) = true := decide_eq_true c74
                          clear c74
                          obtain rfl := Option.some.inj H
                          have p6 : 0 ≤ (a1 : Int) := of_decide_eq_true (by first | (with_reducible assumption) | assumption)
                          have q6 : a1 < (a0.size : Int) := of_decide_eq_true (by first | (with_reducible assumption) | assumption)
                          have hx6 := bt_at a0 a1
                          replace p6 := eq_true p6
                          replace q6 := eq_true q6
                          go_enter Try.func90, Try.ntmps90
                          go_wp2_with (first | ((with_reducible refine gate_callee (f := 98) rfl ?_); refine goesL_ (some 18) rfl rfl Try.func98 (by kernel_rfl) rfl #[.int .i64 (Int.tmod a1 9), .int .i64 (Int.tmod a2 9)] rfl (by (try simp only [List.map_toArray, List.map_cons, List.map_nil]); first | done | rfl | (simp only [List.length_drop, List.length_take]; rfl)) ?_; (with_reducible refine (riverbankref05_away.calls (Int.tmod a1 9) (Int.tmod a2 9) t235 _ A7.out).mono ?_); rintro e w76 ⟨rfl, hb⟩; refine ⟨_, rfl, ?_⟩; have n0_ := Aside0.mk (below_step (by repeat (first | (with_reducible first | exact HB.out | apply below_alloc | apply pw_below_drewN | apply below_drew1) | exact HB.out)) hb); clear HB; have HB := n0_; clear n0_; (try clear hb); (try clear hb2); (try clear hk); (try clear hi)) | ((with_reducible refine gate_callee (f := 98) rfl ?_); refine goesL_ (some 23) rfl rfl Try.func98 (by kernel_rfl) rfl #[.int .i64 (wrap64 (Int.tdiv a1 9)), .int .i64 (wrap64 (Int.tdiv a2 9))] rfl (by (try simp only [List.map_toArray, List.map_cons, List.map_nil]); first | done | rfl | (simp only [List.length_drop, List.length_take]; rfl)) ?_; (with_reducible refine (riverbankref05_away.calls (wrap64 (Int.tdiv a1 9)) (wrap64 (Int.tdiv a2 9)) t236 _ A8.out).mono ?_); rintro e w77 ⟨rfl, hb⟩; refine ⟨_, rfl, ?_⟩; have n0_ := Aside0.mk (below_step (by repeat (first | (with_reducible first | exact HB.out | apply below_alloc | apply pw_below_drewN | apply below_drew1) | exact HB.out)) hb); clear HB; have HB := n0_; clear n0_; (try clear hb); (try clear hb2); (try clear hk); (try clear hi)) | ((with_reducible refine gate_callee (f := 57) rfl ?_); refine goesL_ (some 25) rfl rfl Try.func57 (by kernel_rfl) rfl #[.int .u8 (bt a0 a1)] rfl (by (try simp only [List.map_toArray, List.map_cons, List.map_nil]); first | done | rfl | (simp only [List.length_drop, List.length_take]; rfl)) ?_; (with_reducible refine (riverbankref02_Kind.calls k (bt a0 a1) t237 _ A9.out).mono ?_); rintro e w' ⟨rfl, ⟨nd, rfl⟩⟩; refine ⟨_, rfl, ?_⟩) | ((with_reducible refine gate_callee (f := 96) rfl ?_); refine goesL_ (some 90) rfl rfl Try.func96 (by kernel_rfl) rfl #[.string a0, .int .i64 a1, .int .i64 a2] rfl (by (try simp only [List.map_toArray, List.map_cons, List.map_nil]); first | done | rfl | (simp only [List.length_drop, List.length_take]; rfl)) ?_; (with_reducible refine (riverbankref05_between.calls k a0 a1 a2 t243 _ A55.out).mono ?_); rintro e w78 ⟨rfl, hb⟩; refine ⟨_, rfl, ?_⟩; have n0_ := Aside0.mk (below_step (by repeat (first | (with_reducible first | exact HB.out | apply below_alloc | apply pw_below_drewN | apply below_drew1) | exact HB.out)) hb); clear HB; have HB := n0_; clear n0_; (try clear hb); (try clear hb2); (try clear hk); (try clear hi); have p75 : 0 ≤ (a2 : Int) := of_decide_eq_true (by first | (with_reducible assumption) | assumption); have q75 : a2 < (a0.size : Int) := of_decide_eq_true (by first | (with_reducible assumption) | assumption); have hx75 := bt_at a0 a2; replace p75 := eq_true p75; replace q75 := eq_true q75))
                          go_ret
                          exact ⟨by first | rfl | (simp [errW_none, errW_some] <;> rfl) | (simp [*, errW_none, errW_some] <;> rfl), by repeat (first | (with_reducible first | exact HB.out | apply below_alloc | apply pw_below_drewN | apply below_drew1) | exact HB.out)⟩
                        · rw [if_neg c74] at H
                          exact absurd H (by simp)
                      · rw [if_neg c73] at H
                        exact absurd H (by simp)
                    · rw [if_neg c72] at H
                      have c72b0 : (t243 == 1) = false := beq_eq_false_iff_ne.mpr c72
                      have c72b1 : (t243 != 1) = true := bne_iff_ne.mpr c72
                      obtain rfl := Option.some.inj H
                      have p6 : 0 ≤ (a1 : Int) := of_decide_eq_true (by first | (with_reducible assumption) | assumption)
                      have q6 : a1 < (a0.size : Int) := of_decide_eq_true (by first | (with_reducible assumption) | assumption)
                      have hx6 := bt_at a0 a1
                      replace p6 := eq_true p6
                      replace q6 := eq_true q6
                      go_enter Try.func90, Try.ntmps90
                      go_wp2_with (first | ((with_reducible refine gate_callee (f := 98) rfl ?_); refine goesL_ (some 18) rfl rfl Try.func98 (by kernel_rfl) rfl #[.int .i64 (Int.tmod a1 9), .int .i64 (Int.tmod a2 9)] rfl (by (try simp only [List.map_toArray, List.map_cons, List.map_nil]); first | done | rfl | (simp only [List.length_drop, List.length_take]; rfl)) ?_; (with_reducible refine (riverbankref05_away.calls (Int.tmod a1 9) (Int.tmod a2 9) t235 _ A7.out).mono ?_); rintro e w79 ⟨rfl, hb⟩; refine ⟨_, rfl, ?_⟩; have n0_ := Aside0.mk (below_step (by repeat (first | (with_reducible first | exact HB.out | apply below_alloc | apply pw_below_drewN | apply below_drew1) | exact HB.out)) hb); clear HB; have HB := n0_; clear n0_; (try clear hb); (try clear hb2); (try clear hk); (try clear hi)) | ((with_reducible refine gate_callee (f := 98) rfl ?_); refine goesL_ (some 23) rfl rfl Try.func98 (by kernel_rfl) rfl #[.int .i64 (wrap64 (Int.tdiv a1 9)), .int .i64 (wrap64 (Int.tdiv a2 9))] rfl (by (try simp only [List.map_toArray, List.map_cons, List.map_nil]); first | done | rfl | (simp only [List.length_drop, List.length_take]; rfl)) ?_; (with_reducible refine (riverbankref05_away.calls (wrap64 (Int.tdiv a1 9)) (wrap64 (Int.tdiv a2 9)) t236 _ A8.out).mono ?_); rintro e w80 ⟨rfl, hb⟩; refine ⟨_, rfl, ?_⟩; have n0_ := Aside0.mk (below_step (by repeat (first | (with_reducible first | exact HB.out | apply below_alloc | apply pw_below_drewN | apply below_drew1) | exact HB.out)) hb); clear HB; have HB := n0_; clear n0_; (try clear hb); (try clear hb2); (try clear hk); (try clear hi)) | ((with_reducible refine gate_callee (f := 57) rfl ?_); refine goesL_ (some 25) rfl rfl Try.func57 (by kernel_rfl) rfl #[.int .u8 (bt a0 a1)] rfl (by (try simp only [List.map_toArray, List.map_cons, List.map_nil]); first | done | rfl | (simp only [List.length_drop, List.length_take]; rfl)) ?_; (with_reducible refine (riverbankref02_Kind.calls k (bt a0 a1) t237 _ A9.out).mono ?_); rintro e w' ⟨rfl, ⟨nd, rfl⟩⟩; refine ⟨_, rfl, ?_⟩) | ((with_reducible refine gate_callee (f := 96) rfl ?_); refine goesL_ (some 90) rfl rfl Try.func96 (by kernel_rfl) rfl #[.string a0, .int .i64 a1, .int .i64 a2] rfl (by (try simp only [List.map_toArray, List.map_cons, List.map_nil]); first | done | rfl | (simp only [List.length_drop, List.length_take]; rfl)) ?_; (with_reducible refine (riverbankref05_between.calls k a0 a1 a2 t243 _ A55.out).mono ?_); rintro e w81 ⟨rfl, hb⟩; refine ⟨_, rfl, ?_⟩; have n0_ := Aside0.mk (below_step (by repeat (first | (with_reducible first | exact HB.out | apply below_alloc | apply pw_below_drewN | apply below_drew1) | exact HB.out)) hb); clear HB; have HB := n0_; clear n0_; (try clear hb); (try clear hb2); (try clear hk); (try clear hi)))
                      go_ret
                      exact ⟨by first | rfl | (simp [errW_none, errW_some] <;> rfl) | (simp [*, errW_none, errW_some] <;> rfl), by repeat (first | (with_reducible first | exact HB.out | apply below_alloc | apply pw_below_drewN | apply below_drew1) | exact HB.out)⟩
                · rw [if_neg c54] at H
                  have c54b0 : (t237 == 67) = false := beq_eq_false_iff_ne.mpr c54
                  have c54b1 : (t237 != 67) = true := bne_iff_ne.mpr c54
                  replace H := Option.bind_eq_some_iff.mp H
                  obtain ⟨t244, A820, H⟩ := H
                  replace H : ((riverbankref05_pawn.f k t244 a1 a2).bind fun t245 => (some t245)) = some r := H
                  have A82 := Aside0.mk A820
                  clear A820
                  replace H := Option.bind_eq_some_iff.mp H
                  obtain ⟨t245, A830, H⟩ := H
                  replace H : (some t245) = some r := H
                  have A83 := Aside0.mk A830
                  clear A830
                  obtain rfl := Option.some.inj H
                  have p6 : 0 ≤ (a1 : Int) := of_decide_eq_true (by first | (with_reducible assumption) | assumption)
                  have q6 : a1 < (a0.size : Int) := of_decide_eq_true (by first | (with_reducible assumption) | assumption)
                  have hx6 := bt_at a0 a1
                  replace p6 := eq_true p6
                  replace q6 := eq_true q6
                  go_enter Try.func90, Try.ntmps90
                  go_wp2_with (first | ((with_reducible refine gate_callee (f := 98) rfl ?_); refine goesL_ (some 18) rfl rfl Try.func98 (by kernel_rfl) rfl #[.int .i64 (Int.tmod a1 9), .int .i64 (Int.tmod a2 9)] rfl (by (try simp only [List.map_toArray, List.map_cons, List.map_nil]); first | done | rfl | (simp only [List.length_drop, List.length_take]; rfl)) ?_; (with_reducible refine (riverbankref05_away.calls (Int.tmod a1 9) (Int.tmod a2 9) t235 _ A7.out).mono ?_); rintro e w84 ⟨rfl, hb⟩; refine ⟨_, rfl, ?_⟩; have n0_ := Aside0.mk (below_step (by repeat (first | (with_reducible first | exact HB.out | apply below_alloc | apply pw_below_drewN | apply below_drew1) | exact HB.out)) hb); clear HB; have HB := n0_; clear n0_; (try clear hb); (try clear hb2); (try clear hk); (try clear hi)) | ((with_reducible refine gate_callee (f := 98) rfl ?_); refine goesL_ (some 23) rfl rfl Try.func98 (by kernel_rfl) rfl #[.int .i64 (wrap64 (Int.tdiv a1 9)), .int .i64 (wrap64 (Int.tdiv a2 9))] rfl (by (try simp only [List.map_toArray, List.map_cons, List.map_nil]); first | done | rfl | (simp only [List.length_drop, List.length_take]; rfl)) ?_; (with_reducible refine (riverbankref05_away.calls (wrap64 (Int.tdiv a1 9)) (wrap64 (Int.tdiv a2 9)) t236 _ A8.out).mono ?_); rintro e w85 ⟨rfl, hb⟩; refine ⟨_, rfl, ?_⟩; have n0_ := Aside0.mk (below_step (by repeat (first | (with_reducible first | exact HB.out | apply below_alloc | apply pw_below_drewN | apply below_drew1) | exact HB.out)) hb); clear HB; have HB := n0_; clear n0_; (try clear hb); (try clear hb2); (try clear hk); (try clear hi)) | ((with_reducible refine gate_callee (f := 57) rfl ?_); refine goesL_ (some 25) rfl rfl Try.func57 (by kernel_rfl) rfl #[.int .u8 (bt a0 a1)] rfl (by (try simp only [List.map_toArray, List.map_cons, List.map_nil]); first | done | rfl | (simp only [List.length_drop, List.length_take]; rfl)) ?_; (with_reducible refine (riverbankref02_Kind.calls k (bt a0 a1) t237 _ A9.out).mono ?_); rintro e w' ⟨rfl, ⟨nd, rfl⟩⟩; refine ⟨_, rfl, ?_⟩) | ((with_reducible refine gate_callee (f := 26) rfl ?_); refine goesL_ (some 110) rfl rfl Try.func26 (by kernel_rfl) rfl #[.int .u8 (bt a0 a1)] rfl (by (try simp only [List.map_toArray, List.map_cons, List.map_nil]); first | done | rfl | (simp only [List.length_drop, List.length_take]; rfl)) ?_; (with_reducible refine (riverbankref02_Side.calls k (bt a0 a1) t244 _ A82.out).mono ?_); rintro e w' ⟨rfl, ⟨nd, rfl⟩⟩; refine ⟨_, rfl, ?_⟩) | ((with_reducible refine gate_callee (f := 100) rfl ?_); refine goesL_ (some 113) rfl rfl Try.func100 (by kernel_rfl) rfl #[.int .i64 t244, .int .i64 a1, .int .i64 a2] rfl (by (try simp only [List.map_toArray, List.map_cons, List.map_nil]); first | done | rfl | (simp only [List.length_drop, List.length_take]; rfl)) ?_; (with_reducible refine (riverbankref05_pawn.calls k t244 a1 a2 t245 _ A83.out).mono ?_); rintro e w86 ⟨rfl, hb⟩; refine ⟨_, rfl, ?_⟩; have n0_ := Aside0.mk (below_step (by repeat (first | (with_reducible first | exact HB.out | apply below_alloc | apply pw_below_drewN | apply below_drew1) | exact HB.out)) hb); clear HB; have HB := n0_; clear n0_; (try clear hb); (try clear hb2); (try clear hk); (try clear hi)))
                  go_ret
                  exact ⟨by first | rfl | (simp [errW_none, errW_some] <;> rfl) | (simp [*, errW_none, errW_some] <;> rfl), by repeat (first | (with_reducible first | exact HB.out | apply below_alloc | apply pw_below_drewN | apply below_drew1) | exact HB.out)⟩
    · rw [if_neg c5] at H
      exact absurd H (by simp)
  · rw [if_neg c4] at H
    exact absurd H (by simp)

/-! ### riverbankref05_Fast: function 76 -/
def riverbankref05_Fast.f (k : Nat) (a0 : ByteArray) (a1 : Int) (a2 : Int) : Option (Bool) := if 0 ≤ a1 then (if a1 < (a0.size : Int) then ((riverbankref02_Side.f k (bt a0 a1)).bind fun t246 => (if t246 < 0 then (some false) else (if 0 ≤ a2 then (if a2 < (a0.size : Int) then ((riverbankref02_Side.f k (bt a0 a2)).bind fun t247 => (if t247 = t246 then (some false) else ((riverbankref05_can.f k a0 a1 a2).bind fun t248 => (some t248)))) else (none)) else (none)))) else (none)) else (none)
theorem riverbankref05_Fast.mono : ∀ a0 a1 a2 k, LeO (riverbankref05_Fast.f k a0 a1 a2) (riverbankref05_Fast.f (k + 1) a0 a1 a2) := by
  intro a0 a1 a2 k
  unfold riverbankref05_Fast.f
  repeat' first
      | (with_reducible exact riverbankref02_Side.mono _ _)
      | (with_reducible exact riverbankref05_can.mono _ _ _ _)
      | (with_reducible exact LeO.refl _)
      | (with_reducible exact LeO.none _)
      | (with_reducible refine LeO.ite ?_ ?_)
      | (with_reducible refine LeO.bind ?_ (fun _ => ?_))
      | exact riverbankref02_Side.mono _ _
      | exact riverbankref05_can.mono _ _ _ _
      | exact LeO.none _
      | refine LeO.ite ?_ ?_
      | refine LeO.bind ?_ (fun _ => ?_)
set_option maxHeartbeats 8000000 in
set_option maxRecDepth 100000 in
theorem riverbankref05_Fast.calls (k : Nat) (a0 : ByteArray) (a1 : Int) (a2 : Int) (r : Bool) (w : World) (h : riverbankref05_Fast.f k a0 a1 a2 = some r) :
    Calls Try.prog 76 #[.string a0, .int .i64 a1, .int .i64 a2] w fun e w' => e = .returned (.bool r) ∧ Below w.heap.size w w' := by
  have HB := Aside0.mk (Below.refl w.heap.size w)
  have H : (if 0 ≤ a1 then (if a1 < (a0.size : Int) then ((riverbankref02_Side.f k (bt a0 a1)).bind fun t246 => (if t246 < 0 then (some false) else (if 0 ≤ a2 then (if a2 < (a0.size : Int) then ((riverbankref02_Side.f k (bt a0 a2)).bind fun t247 => (if t247 = t246 then (some false) else ((riverbankref05_can.f k a0 a1 a2).bind fun t248 => (some t248)))) else (none)) else (none)))) else (none)) else (none)) = some r := h
  clear h
  by_cases c4 : 0 ≤ a1
  · rw [if_pos c4] at H
    have c4b0 : decide (0 ≤ a1) = true := decide_eq_true c4
    clear c4
    by_cases c5 : a1 < (a0.size : Int)
    · rw [if_pos c5] at H
      have c5b0 : decide (a1 < (a0.size : Int)) = true := decide_eq_true c5
      clear c5
      replace H := Option.bind_eq_some_iff.mp H
      obtain ⟨t246, A70, H⟩ := H
      replace H : (if t246 < 0 then (some false) else (if 0 ≤ a2 then (if a2 < (a0.size : Int) then ((riverbankref02_Side.f k (bt a0 a2)).bind fun t247 => (if t247 = t246 then (some false) else ((riverbankref05_can.f k a0 a1 a2).bind fun t248 => (some t248)))) else (none)) else (none))) = some r := H
      have A7 := Aside0.mk A70
      clear A70
      by_cases c8 : t246 < 0
      · rw [if_pos c8] at H
        have c8b0 : decide (t246 < 0) = true := decide_eq_true c8
        clear c8
        obtain rfl := Option.some.inj H
        have p6 : 0 ≤ (a1 : Int) := of_decide_eq_true (by first | (with_reducible assumption) | assumption)
        have q6 : a1 < (a0.size : Int) := of_decide_eq_true (by first | (with_reducible assumption) | assumption)
        have hx6 := bt_at a0 a1
        replace p6 := eq_true p6
        replace q6 := eq_true q6
        go_enter Try.func76, Try.ntmps76
        go_wp2_with (first | ((with_reducible refine gate_callee (f := 26) rfl ?_); refine goesL_ (some 11) rfl rfl Try.func26 (by kernel_rfl) rfl #[.int .u8 (bt a0 a1)] rfl (by (try simp only [List.map_toArray, List.map_cons, List.map_nil]); first | done | rfl | (simp only [List.length_drop, List.length_take]; rfl)) ?_; (with_reducible refine (riverbankref02_Side.calls k (bt a0 a1) t246 _ A7.out).mono ?_); rintro e w' ⟨rfl, ⟨nd, rfl⟩⟩; refine ⟨_, rfl, ?_⟩))
        go_ret
        exact ⟨by first | rfl | (simp [errW_none, errW_some] <;> rfl) | (simp [*, errW_none, errW_some] <;> rfl), by repeat (first | (with_reducible first | exact HB.out | apply below_alloc | apply pw_below_drewN | apply below_drew1) | exact HB.out)⟩
      · rw [if_neg c8] at H
        have c8b0 : decide (t246 < 0) = false := decide_eq_false c8
        clear c8
        by_cases c9 : 0 ≤ a2
        · rw [if_pos c9] at H
          have c9b0 : decide (0 ≤ a2) = true := decide_eq_true c9
          clear c9
          by_cases c10 : a2 < (a0.size : Int)
          · rw [if_pos c10] at H
            have c10b0 : decide (a2 < (a0.size : Int)) = true := decide_eq_true c10
            clear c10
            replace H := Option.bind_eq_some_iff.mp H
            obtain ⟨t247, A120, H⟩ := H
            replace H : (if t247 = t246 then (some false) else ((riverbankref05_can.f k a0 a1 a2).bind fun t248 => (some t248))) = some r := H
            have A12 := Aside0.mk A120
            clear A120
            by_cases c13 : t247 = t246
            · rw [if_pos c13] at H
              have c13b0 : (t247 == t246) = true := beq_iff_eq.mpr c13
              have c13b1 : (t247 != t246) = false := bne_eq_false_iff_eq.mpr c13
              clear c13
              obtain rfl := Option.some.inj H
              have p6 : 0 ≤ (a1 : Int) := of_decide_eq_true (by first | (with_reducible assumption) | assumption)
              have q6 : a1 < (a0.size : Int) := of_decide_eq_true (by first | (with_reducible assumption) | assumption)
              have hx6 := bt_at a0 a1
              replace p6 := eq_true p6
              replace q6 := eq_true q6
              go_enter Try.func76, Try.ntmps76
              go_wp2_with (first | ((with_reducible refine gate_callee (f := 26) rfl ?_); refine goesL_ (some 11) rfl rfl Try.func26 (by kernel_rfl) rfl #[.int .u8 (bt a0 a1)] rfl (by (try simp only [List.map_toArray, List.map_cons, List.map_nil]); first | done | rfl | (simp only [List.length_drop, List.length_take]; rfl)) ?_; (with_reducible refine (riverbankref02_Side.calls k (bt a0 a1) t246 _ A7.out).mono ?_); rintro e w' ⟨rfl, ⟨nd, rfl⟩⟩; refine ⟨_, rfl, ?_⟩; have p11 : 0 ≤ (a2 : Int) := of_decide_eq_true (by first | (with_reducible assumption) | assumption); have q11 : a2 < (a0.size : Int) := of_decide_eq_true (by first | (with_reducible assumption) | assumption); have hx11 := bt_at a0 a2; replace p11 := eq_true p11; replace q11 := eq_true q11) | (go_at_call 26; (with_reducible refine (riverbankref02_Side.calls k (bt a0 a2) t247 _ A12.out).mono ?_); rintro e w' ⟨rfl, ⟨nd, rfl⟩⟩))
              go_ret
              exact ⟨by first | rfl | (simp [errW_none, errW_some] <;> rfl) | (simp [*, errW_none, errW_some] <;> rfl), by repeat (first | (with_reducible first | exact HB.out | apply below_alloc | apply pw_below_drewN | apply below_drew1) | exact HB.out)⟩
            · rw [if_neg c13] at H
              have c13b0 : (t247 == t246) = false := beq_eq_false_iff_ne.mpr c13
              have c13b1 : (t247 != t246) = true := bne_iff_ne.mpr c13
              replace H := Option.bind_eq_some_iff.mp H
              obtain ⟨t248, A140, H⟩ := H
              replace H : (some t248) = some r := H
              have A14 := Aside0.mk A140
              clear A140
              obtain rfl := Option.some.inj H
              have p6 : 0 ≤ (a1 : Int) := of_decide_eq_true (by first | (with_reducible assumption) | assumption)
              have q6 : a1 < (a0.size : Int) := of_decide_eq_true (by first | (with_reducible assumption) | assumption)
              have hx6 := bt_at a0 a1
              replace p6 := eq_true p6
              replace q6 := eq_true q6
              go_enter Try.func76, Try.ntmps76
              go_wp2_with (first | ((with_reducible refine gate_callee (f := 26) rfl ?_); refine goesL_ (some 11) rfl rfl Try.func26 (by kernel_rfl) rfl #[.int .u8 (bt a0 a1)] rfl (by (try simp only [List.map_toArray, List.map_cons, List.map_nil]); first | done | rfl | (simp only [List.length_drop, List.length_take]; rfl)) ?_; (with_reducible refine (riverbankref02_Side.calls k (bt a0 a1) t246 _ A7.out).mono ?_); rintro e w' ⟨rfl, ⟨nd, rfl⟩⟩; refine ⟨_, rfl, ?_⟩; have p11 : 0 ≤ (a2 : Int) := of_decide_eq_true (by first | (with_reducible assumption) | assumption); have q11 : a2 < (a0.size : Int) := of_decide_eq_true (by first | (with_reducible assumption) | assumption); have hx11 := bt_at a0 a2; replace p11 := eq_true p11; replace q11 := eq_true q11) | (go_at_call 26; (with_reducible refine (riverbankref02_Side.calls k (bt a0 a2) t247 _ A12.out).mono ?_); rintro e w' ⟨rfl, ⟨nd, rfl⟩⟩) | ((with_reducible refine gate_callee (f := 90) rfl ?_); refine goesL_ (some 25) rfl rfl Try.func90 (by kernel_rfl) rfl #[.string a0, .int .i64 a1, .int .i64 a2] rfl (by (try simp only [List.map_toArray, List.map_cons, List.map_nil]); first | done | rfl | (simp only [List.length_drop, List.length_take]; rfl)) ?_; (with_reducible refine (riverbankref05_can.calls k a0 a1 a2 t248 _ A14.out).mono ?_); rintro e w15 ⟨rfl, hb⟩; refine ⟨_, rfl, ?_⟩; have n0_ := Aside0.mk (below_step (by repeat (first | (with_reducible first | exact HB.out | apply below_alloc | apply pw_below_drewN | apply below_drew1) | exact HB.out)) hb); clear HB; have HB := n0_; clear n0_; (try clear hb); (try clear hb2); (try clear hk); (try clear hi)))
              go_ret
              exact ⟨by first | rfl | (simp [errW_none, errW_some] <;> rfl) | (simp [*, errW_none, errW_some] <;> rfl), by repeat (first | (with_reducible first | exact HB.out | apply below_alloc | apply pw_below_drewN | apply below_drew1) | exact HB.out)⟩
          · rw [if_neg c10] at H
            exact absurd H (by simp)
        · rw [if_neg c9] at H
          exact absurd H (by simp)
    · rw [if_neg c5] at H
      exact absurd H (by simp)
  · rw [if_neg c4] at H
    exact absurd H (by simp)

end Go.Proofs.Ytmfbgcimfmgobaa.Print

-- of YtmfbgcimfmgobaaPrint13
-- Written by a program of this session (wip/gprint/gprint.py) over the kit's print; the parts marked GIVEN by hand.
namespace Go.Proofs.Ytmfbgcimfmgobaa.Print
open Go.RowKit Go.Proofs.YtmfbgcimfmgobaaW.PrintWords Go.Proofs.YtmfbgcimfmgobaaW.PrintLast Go.Proofs.YtmfbgcimfmgobaaW.PrintMore
attribute [local go_sem] max2_int min2_int max_two min_two max_three min_three max_four min_four   -- for this text's walks alone
set_option linter.unusedVariables false
set_option linter.unusedSimpArgs false
/-! GIVEN riverbankref02_Put -/
-- GIVEN riverbank/riverbankref02.Put
-- MAKES yes
-- ROUNDS yes
-- NEEDS riverbank/riverbankref02.Is
-- NEEDS riverbank/riverbankref02.Side
-- IMPORT Derived.Test.YtmfbgcimfmgobaaBytes
-- IMPORT Derived.RegionTactic
-- IMPORT Derived.BigRegion
-- IMPORT Derived.WalkSpells
/-- A text with one byte in the place of another. -/
def setB (s : ByteArray) (n : Nat) (c : UInt8) : ByteArray := s.extract 0 n ++ ⟨#[c]⟩ ++ s.extract (n + 1) s.size
def riverbankref02_Put.f (k : Nat) (a0 : ByteArray) (a1 : Int) (a2 : Int) : Option (ByteArray) :=
  if 0 ≤ a2 ∧ a2 ≤ 255 then (riverbankref02_Is.f k a0).bind fun t => if t = true then (if a1 < 0 then some a0 else if a1 > 89 then some a0 else if a2 = 46 then some (setB a0 a1.toNat a2.toNat.toUInt8) else (riverbankref02_Side.f k a2).bind fun u => if u < 0 then some a0 else some (setB a0 a1.toNat a2.toNat.toUInt8)) else some a0 else none

theorem riverbankref02_Put.mono : ∀ a0 a1 a2 k, LeO (riverbankref02_Put.f k a0 a1 a2) (riverbankref02_Put.f (k + 1) a0 a1 a2) := by
  intro a0 a1 a2 k
  unfold riverbankref02_Put.f
  repeat' first
      | (with_reducible exact riverbankref02_Is.mono _ _)
      | (with_reducible exact riverbankref02_Side.mono _ _)
      | (with_reducible exact LeO.refl _)
      | (with_reducible exact LeO.none _)
      | (with_reducible refine LeO.ite ?_ ?_)
      | (with_reducible refine LeO.bind ?_ (fun _ => ?_))
theorem new_cell0 (W : World) (v : Value) (t : TypeId) : (W.alloc (.cells #[v] t)).cell? ⟨W.heap.size, 0, none⟩ = some v := by
  have h := World.alloc_heap_new W (.cells #[v] t)
  obtain ⟨g, hg⟩ : ∃ g, g = W.heap.size := ⟨_, rfl⟩
  rw [← hg] at h ⊢
  simp only [World.cell?, h]
  rfl
set_option maxRecDepth 100000 in
set_option maxHeartbeats 1000000 in
theorem ref02_Put.dot (k : Nat) (a0 : ByteArray) (i : Nat) (w : World) (hi : i < 90) (hs : a0.size = 90) (hI : riverbankref02_Is.f k a0 = some true) :
    Calls Try.prog 27 #[.string a0, .int .i64 i, .int .u8 46] w fun e w' => e = .returned (.string (setB a0 i 46)) ∧ Below w.heap.size w w' := by
  have HI := Aside0.mk hI
  clear hI
  have i0 : (0 : Int) ≤ (i : Int) := Int.natCast_nonneg _
  have i1 : (i : Int) ≤ 89 := by omega
  have i2 : (i : Int) ≤ (a0.size : Int) := by omega
  have i3 : (i : Int) + 1 ≤ (a0.size : Int) := by omega
  have z1 : (a0.extract 0 i).size ≤ 90 := by simp; omega
  have z2 : (a0.extract (i + 1) a0.size).size ≤ 90 := by simp; omega
  have z3 : a0.size ≤ 90 := by omega
  obtain ⟨res, hres⟩ : ∃ res, res = setB a0 i 46 := ⟨_, rfl⟩
  rw [← hres]
  have HR := Aside0.mk hres
  clear hs hi hres
  go_enter Try.func27, Try.ntmps27
  go_wp2_with (go_at_call 25; (with_reducible refine (riverbankref02_Is.calls _ _ true _ HI.out).mono ?_); rintro e w' ⟨rfl, ⟨q, rfl⟩⟩)
  have hbk := one_back (P := Try.prog) ((w.drewN (q + 1)).alloc (.cells #[.int .u8 46] 5)) 70 9 5 w.heap.size 46 Try.underlying70 Try.underlying5 Try.underlying9 (new_cell0 (w.drewN (q + 1)) _ 5)
  go_region
  go_wp2
  go_ret
  exact ⟨by rw [HR.out]; rfl, below_past (Below.refl _ w) rfl (((Below.refl _ (w.drewN (q + 1))).alloc (Nat.le_refl _) _))⟩

set_option maxRecDepth 100000 in
set_option maxHeartbeats 1000000 in
theorem ref02_Put.piece (k : Nat) (a0 : ByteArray) (i : Nat) (c : UInt8) (u : Int) (w : World) (hi : i < 90) (hs : a0.size = 90) (hI : riverbankref02_Is.f k a0 = some true) (hc : (c.toNat : Int) ≠ 46) (hu : riverbankref02_Side.f k (c.toNat : Int) = some u) (hu0 : 0 ≤ u) :
    Calls Try.prog 27 #[.string a0, .int .i64 i, .int .u8 c.toNat] w fun e w' => e = .returned (.string (setB a0 i c)) ∧ Below w.heap.size w w' := by
  have HI := Aside0.mk hI
  have HU := Aside0.mk hu
  clear hI hu
  have c0 : (((c.toNat : Int)) == 46) = false := by simpa using hc
  have c1 : (((c.toNat : Int)) != 46) = true := by simpa using hc
  have i0 : (0 : Int) ≤ (i : Int) := Int.natCast_nonneg _
  have i1 : (i : Int) ≤ 89 := by omega
  have i2 : (i : Int) ≤ (a0.size : Int) := by omega
  have i3 : (i : Int) + 1 ≤ (a0.size : Int) := by omega
  have z1 : (a0.extract 0 i).size ≤ 90 := by simp; omega
  have z2 : (a0.extract (i + 1) a0.size).size ≤ 90 := by simp; omega
  have z3 : a0.size ≤ 90 := by omega
  obtain ⟨res, hres⟩ : ∃ res, res = setB a0 i c := ⟨_, rfl⟩
  rw [← hres]
  have HR := Aside0.mk hres
  clear hs hi hres hc
  go_enter Try.func27, Try.ntmps27
  go_wp2_with (first
    | (go_at_call 25; (with_reducible refine (riverbankref02_Is.calls _ _ true _ HI.out).mono ?_); rintro e w' ⟨rfl, ⟨q, rfl⟩⟩)
    | (go_at_call 26; (with_reducible refine (riverbankref02_Side.calls _ _ u _ HU.out).mono ?_); rintro e w' ⟨rfl, ⟨q2, rfl⟩⟩))
  have hbk := one_back (P := Try.prog) ((w.drewN (q + q2 + 1)).alloc (.cells #[.int .u8 c.toNat] 5)) 70 9 5 w.heap.size c Try.underlying70 Try.underlying5 Try.underlying9 (new_cell0 (w.drewN (q + q2 + 1)) _ 5)
  go_region
  go_wp2
  go_ret
  exact ⟨by rw [HR.out]; rfl, below_past (Below.refl _ w) rfl (((Below.refl _ (w.drewN (q + q2 + 1))).alloc (Nat.le_refl _) _))⟩

theorem ref02_is_size (k : Nat) (a0 : ByteArray) (h : riverbankref02_Is.f k a0 = some true) : a0.size = 90 := by
  unfold riverbankref02_Is.f at h
  split at h
  · omega
  · cases h

set_option maxRecDepth 100000 in
set_option maxHeartbeats 1000000 in
theorem riverbankref02_Put.calls (k : Nat) (a0 : ByteArray) (a1 : Int) (a2 : Int) (r : ByteArray) (w : World) (h : riverbankref02_Put.f k a0 a1 a2 = some r) :
    Calls Try.prog 27 #[.string a0, .int .i64 a1, .int .u8 a2] w fun e w' => e = .returned (.string r) ∧ Below w.heap.size w w' := by
  unfold riverbankref02_Put.f at h
  split at h
  case isFalse => cases h
  rename_i hr
  obtain ⟨c, rfl⟩ : ∃ c : UInt8, a2 = c.toNat := ⟨a2.toNat.toUInt8, by simp; omega⟩
  clear hr
  obtain ⟨t1, h1, h⟩ := Option.bind_eq_some_iff.mp h
  cases t1 with
  | false =>
    obtain rfl := Option.some.inj h
    have HI := Aside0.mk h1
    clear h1 h
    go_enter Try.func27, Try.ntmps27
    go_wp2_with (go_at_call 25; (with_reducible refine (riverbankref02_Is.calls _ _ false _ HI.out).mono ?_); rintro e w' ⟨rfl, ⟨q, rfl⟩⟩)
    go_ret
    exact ⟨rfl, below_past (Below.refl _ w) rfl (Below.refl _ _)⟩
  | true =>
    rw [if_pos rfl] at h
    by_cases n0 : a1 < 0
    · rw [if_pos n0] at h
      obtain rfl := Option.some.inj h
      have HI := Aside0.mk h1
      clear h1 h
      go_enter Try.func27, Try.ntmps27
      go_wp2_with (go_at_call 25; (with_reducible refine (riverbankref02_Is.calls _ _ true _ HI.out).mono ?_); rintro e w' ⟨rfl, ⟨q, rfl⟩⟩)
      go_ret
      exact ⟨rfl, below_past (Below.refl _ w) rfl (Below.refl _ _)⟩
    · rw [if_neg n0] at h
      replace n0 : 0 ≤ a1 := by omega
      by_cases n1 : a1 > 89
      · rw [if_pos n1] at h
        obtain rfl := Option.some.inj h
        have HI := Aside0.mk h1
        clear h1 h
        go_enter Try.func27, Try.ntmps27
        go_wp2_with (go_at_call 25; (with_reducible refine (riverbankref02_Is.calls _ _ true _ HI.out).mono ?_); rintro e w' ⟨rfl, ⟨q, rfl⟩⟩)
        go_ret
        exact ⟨rfl, below_past (Below.refl _ w) rfl (Below.refl _ _)⟩
      · rw [if_neg n1] at h
        obtain ⟨i, rfl⟩ : ∃ i : Nat, a1 = i := ⟨a1.toNat, by omega⟩
        by_cases hc : (c.toNat : Int) = 46
        · rw [if_pos hc] at h
          obtain rfl : c = 46 := by
            have : c.toNat = 46 := by omega
            exact UInt8.toNat_inj.mp (by simpa using this)
          have e := Option.some.inj h
          rw [← e]
          exact ref02_Put.dot k a0 i w (by omega) (ref02_is_size k a0 h1) h1
        · rw [if_neg hc] at h
          obtain ⟨u, hu, h⟩ := Option.bind_eq_some_iff.mp h
          by_cases hu0 : u < 0
          · rw [if_pos hu0] at h
            obtain rfl := Option.some.inj h
            have HI := Aside0.mk h1
            have HU := Aside0.mk hu
            have c0 : (((c.toNat : Int)) == 46) = false := by simpa using hc
            have c1 : (((c.toNat : Int)) != 46) = true := by simpa using hc
            have i0 : (0 : Int) ≤ (i : Int) := Int.natCast_nonneg _
            have i1 : (i : Int) ≤ 89 := by omega
            clear h1 h hu hc n1 n0
            go_enter Try.func27, Try.ntmps27
            go_wp2_with (first
              | (go_at_call 25; (with_reducible refine (riverbankref02_Is.calls _ _ true _ HI.out).mono ?_); rintro e w' ⟨rfl, ⟨q, rfl⟩⟩)
              | (go_at_call 26; (with_reducible refine (riverbankref02_Side.calls _ _ u _ HU.out).mono ?_); rintro e w' ⟨rfl, ⟨q2, rfl⟩⟩))
            go_ret
            exact ⟨rfl, below_past (Below.refl _ w) rfl (Below.refl _ _)⟩
          · rw [if_neg hu0] at h
            have e := Option.some.inj h
            have e2 : (c.toNat : Int).toNat.toUInt8 = c := by simp
            have e3 : ((i : Nat) : Int).toNat = i := by simp
            rw [← e, e2, e3]
            exact ref02_Put.piece k a0 i c u w (by omega) (ref02_is_size k a0 h1) h1 hc hu (by omega)

end Go.Proofs.Ytmfbgcimfmgobaa.Print

-- of YtmfbgcimfmgobaaPrint23
-- Written by a program of this session (wip/gprint/gprint.py) over the kit's print; the parts marked GIVEN by hand.
namespace Go.Proofs.Ytmfbgcimfmgobaa.Print
open Go.RowKit Go.Proofs.YtmfbgcimfmgobaaW.PrintWords Go.Proofs.YtmfbgcimfmgobaaW.PrintLast Go.Proofs.YtmfbgcimfmgobaaW.PrintMore
attribute [local go_sem] max2_int min2_int max_two min_two max_three min_three max_four min_four   -- for this text's walks alone
set_option linter.unusedVariables false
set_option linter.unusedSimpArgs false
/-! GIVEN riverbankref07_put -/
-- GIVEN riverbank/riverbankref07.put
-- MAKES yes
-- NEEDS riverbank/riverbankref02.Put
-- IMPORT Derived.Test.YtmfbgcimfmgobaaBytes
-- IMPORT Derived.RegionTactic
-- IMPORT Derived.BigRegion
-- IMPORT Derived.WalkSpells
-- IMPORT Derived.Deep.RegionWith
def riverbankref07_put.f (a0 : ByteArray) (a1 : Int) (a2 : Int) : Option (ByteArray) :=
  if 0 ≤ a1 ∧ a1 < a0.size ∧ a0.size ≤ 200 then (riverbankref02_Of.f 80 (wrap64 (1 - a2))).bind fun c => if 0 ≤ c ∧ c ≤ 255 then some (setB a0 a1.toNat c.toNat.toUInt8) else none else none
set_option maxRecDepth 100000 in
set_option maxHeartbeats 1000000 in
theorem riverbankref07_put.calls (a0 : ByteArray) (a1 : Int) (a2 : Int) (r : ByteArray) (w : World) (h : riverbankref07_put.f a0 a1 a2 = some r) :
    Calls Try.prog 97 #[.string a0, .int .i64 a1, .int .i64 a2] w fun e w' => e = .returned (.string r) ∧ Below w.heap.size w w' := by
  unfold riverbankref07_put.f at h
  split at h
  case isFalse => cases h
  rename_i hb
  obtain ⟨x, hx, h⟩ := Option.bind_eq_some_iff.mp h
  split at h
  case isFalse => cases h
  rename_i hr
  obtain ⟨c, rfl⟩ : ∃ c : UInt8, x = c.toNat := ⟨x.toNat.toUInt8, by simp; omega⟩
  obtain ⟨i, rfl⟩ : ∃ i : Nat, a1 = i := ⟨a1.toNat, by omega⟩
  have e := Option.some.inj h
  have e2 : (c.toNat : Int).toNat.toUInt8 = c := by simp
  have e3 : ((i : Nat) : Int).toNat = i := by simp
  rw [e2, e3] at e
  clear e2 e3 h hr
  have HX := Aside0.mk hx
  have HR := Aside0.mk e
  have i0 : (0 : Int) ≤ (i : Int) := Int.natCast_nonneg _
  have i2 : (i : Int) ≤ (a0.size : Int) := by omega
  have i3 : (i : Int) + 1 ≤ (a0.size : Int) := by omega
  have z1 : (a0.extract 0 i).size ≤ 200 := by simp; omega
  have z2 : (a0.extract (i + 1) a0.size).size ≤ 200 := by simp; omega
  have z3 : a0.size ≤ 200 := by omega
  have hwr : IntKind.i64.wrap ((i : Int) + 1) = (i : Int) + 1 := (i64_w _).trans (w64 _ (by omega) (by omega))
  have hw0 : (0 : Int) ≤ (i : Int) + 1 := by omega
  have hw1 : ((i : Int) + 1).toNat = i + 1 := by omega
  clear hx e hb
  obtain ⟨y, hy⟩ : ∃ y, y = wrap64 (1 - a2) := ⟨_, rfl⟩
  have hyw : IntKind.i64.wrap (1 - a2) = y := (i64_w _).trans hy.symm
  have hyw2 : wrap64 (1 - a2) = y := by rw [hy]
  rw [← hy] at HX
  clear hy
  go_enter Try.func97, Try.ntmps97
  go_wp2
  go_region_with (first
    | (go_at_call 83; (with_reducible refine (riverbankref02_Of.calls _ _ _ _ HX.out).mono ?_); rintro e w' ⟨rfl, ⟨q, rfl⟩⟩; have hbk := one_back (P := Try.prog) ((w.drewN (1 + q)).alloc (.cells #[.int .u8 c.toNat] 5)) 70 9 5 w.heap.size c Try.underlying70 Try.underlying5 Try.underlying9 (new_cell0 (w.drewN (1 + q)) _ 5)))
  go_wp2
  go_ret
  exact ⟨by rw [← HR.out]; rfl, below_past (Below.refl _ w) rfl (((Below.refl _ (w.drewN (1 + q))).alloc (Nat.le_refl _) _))⟩

end Go.Proofs.Ytmfbgcimfmgobaa.Print

-- of YtmfbgcimfmgobaaPrint24
-- Written by a program of this session (wip/gprint/gprint.py) over the kit's print; the parts marked GIVEN by hand.
namespace Go.Proofs.Ytmfbgcimfmgobaa.Print
open Go.RowKit Go.Proofs.YtmfbgcimfmgobaaW.PrintWords Go.Proofs.YtmfbgcimfmgobaaW.PrintLast Go.Proofs.YtmfbgcimfmgobaaW.PrintMore
attribute [local go_sem] max2_int min2_int max_two min_two max_three min_three max_four min_four   -- for this text's walks alone
set_option linter.unusedVariables false
set_option linter.unusedSimpArgs false
/-! ### riverbankref07_Attackers: function 89 -/
mutual
def riverbankref07_Attackers.j0 : Nat → ByteArray → Int → Int → Bool → Option (List Int)
  | 0, _, _, _, _ => none
  | k + 1, x0, x1, x2, x28 => if x28 = true then (some ([] : List Int)) else ((riverbankref07_put.f x0 x1 x2).bind fun t250 => (riverbankref07_Attackers.l0 k x1 x2 t250 ([] : List Int) 0))
def riverbankref07_Attackers.l0 : Nat → Int → Int → ByteArray → List Int → Int → Option (List Int)
  | 0, _, _, _, _, _ => none
  | k + 1, x1, x2, x7, x8, x9 => if x9 < 90 then (if 0 ≤ x9 then (if x9 < (x7.size : Int) then ((riverbankref02_Side.f k (bt x7 x9)).bind fun t251 => (if t251 = x2 then ((riverbankref05_Fast.f k x7 x9 x1).bind fun t252 => (if t252 = true then (if x8.length < 17592186044416 then (riverbankref07_Attackers.l0 k x1 x2 x7 (x8 ++ [x9]) (wrap64 (x9 + 1))) else (none)) else (riverbankref07_Attackers.l0 k x1 x2 x7 x8 (wrap64 (x9 + 1))))) else (riverbankref07_Attackers.l0 k x1 x2 x7 x8 (wrap64 (x9 + 1))))) else (none)) else (none)) else (some x8)
end
def riverbankref07_Attackers.f (k : Nat) (a0 : ByteArray) (a1 : Int) (a2 : Int) : Option (List Int) := (riverbankref02_Is.f k a0).bind fun t249 => (if t249 = true then (if a1 < 0 then (riverbankref07_Attackers.j0 k a0 a1 a2 true) else (if a1 > 89 then (riverbankref07_Attackers.j0 k a0 a1 a2 true) else (if a2 < 0 then (riverbankref07_Attackers.j0 k a0 a1 a2 true) else (riverbankref07_Attackers.j0 k a0 a1 a2 (decide (a2 > 1)))))) else (riverbankref07_Attackers.j0 k a0 a1 a2 true))
theorem riverbankref07_Attackers.mono_l : ∀ k, (∀ y0 y1 y2 y3, LeO (riverbankref07_Attackers.j0 k y0 y1 y2 y3) (riverbankref07_Attackers.j0 (k + 1) y0 y1 y2 y3)) ∧ (∀ y0 y1 y2 y3 y4, LeO (riverbankref07_Attackers.l0 k y0 y1 y2 y3 y4) (riverbankref07_Attackers.l0 (k + 1) y0 y1 y2 y3 y4))
  | 0 => ⟨fun _ _ _ _ r h => by simp [riverbankref07_Attackers.j0] at h, fun _ _ _ _ _ r h => by simp [riverbankref07_Attackers.l0] at h⟩
  | k + 1 => by
    obtain ⟨ih0, ih1⟩ := riverbankref07_Attackers.mono_l k
    refine ⟨?_, ?_⟩
    · intro y0 y1 y2 y3
      unfold riverbankref07_Attackers.j0
      repeat' first
      | (with_reducible exact ih0 _ _ _ _)
      | (with_reducible exact ih1 _ _ _ _ _)
      | (with_reducible exact riverbankref02_Is.mono _ _)
      | (with_reducible exact riverbankref02_Side.mono _ _)
      | (with_reducible exact riverbankref05_Fast.mono _ _ _ _)
      | (with_reducible exact LeO.refl _)
      | (with_reducible exact LeO.none _)
      | (with_reducible refine LeO.ite ?_ ?_)
      | (with_reducible refine LeO.bind ?_ (fun _ => ?_))
      | exact ih0 _ _ _ _
      | exact ih1 _ _ _ _ _
      | exact riverbankref02_Is.mono _ _
      | exact riverbankref02_Side.mono _ _
      | exact riverbankref05_Fast.mono _ _ _ _
      | exact LeO.none _
      | refine LeO.ite ?_ ?_
      | refine LeO.bind ?_ (fun _ => ?_)
    · intro y0 y1 y2 y3 y4
      unfold riverbankref07_Attackers.l0
      repeat' first
      | (with_reducible exact ih0 _ _ _ _)
      | (with_reducible exact ih1 _ _ _ _ _)
      | (with_reducible exact riverbankref02_Is.mono _ _)
      | (with_reducible exact riverbankref02_Side.mono _ _)
      | (with_reducible exact riverbankref05_Fast.mono _ _ _ _)
      | (with_reducible exact LeO.refl _)
      | (with_reducible exact LeO.none _)
      | (with_reducible refine LeO.ite ?_ ?_)
      | (with_reducible refine LeO.bind ?_ (fun _ => ?_))
      | exact ih0 _ _ _ _
      | exact ih1 _ _ _ _ _
      | exact riverbankref02_Is.mono _ _
      | exact riverbankref02_Side.mono _ _
      | exact riverbankref05_Fast.mono _ _ _ _
      | exact LeO.none _
      | refine LeO.ite ?_ ?_
      | refine LeO.bind ?_ (fun _ => ?_)
theorem riverbankref07_Attackers.mono : ∀ a0 a1 a2 k, LeO (riverbankref07_Attackers.f k a0 a1 a2) (riverbankref07_Attackers.f (k + 1) a0 a1 a2) := by
  intro a0 a1 a2 k
  obtain ⟨ih0, ih1⟩ := riverbankref07_Attackers.mono_l k
  unfold riverbankref07_Attackers.f
  repeat' first
      | (with_reducible exact ih0 _ _ _ _)
      | (with_reducible exact ih1 _ _ _ _ _)
      | (with_reducible exact riverbankref02_Is.mono _ _)
      | (with_reducible exact riverbankref02_Side.mono _ _)
      | (with_reducible exact riverbankref05_Fast.mono _ _ _ _)
      | (with_reducible exact LeO.refl _)
      | (with_reducible exact LeO.none _)
      | (with_reducible refine LeO.ite ?_ ?_)
      | (with_reducible refine LeO.bind ?_ (fun _ => ?_))
      | exact ih0 _ _ _ _
      | exact ih1 _ _ _ _ _
      | exact riverbankref02_Is.mono _ _
      | exact riverbankref02_Side.mono _ _
      | exact riverbankref05_Fast.mono _ _ _ _
      | exact LeO.none _
      | refine LeO.ite ?_ ?_
      | refine LeO.bind ?_ (fun _ => ?_)
set_option maxHeartbeats 8000000 in
set_option maxRecDepth 100000 in
theorem riverbankref07_Attackers.calls (k : Nat) (a0 : ByteArray) (a1 : Int) (a2 : Int) (r : List Int) (w : World) (h : riverbankref07_Attackers.f k a0 a1 a2 = some r) :
    Calls Try.prog 89 #[.string a0, .int .i64 a1, .int .i64 a2] w fun e w' => ∃ v0_ : Value, e = .returned (v0_) ∧ Kd.R (Kd.int .i64) 3 w' w.heap.size (fun _ => True) v0_ r ∧ Below w.heap.size w w' := by
  have HB := Aside0.mk (Below.refl w.heap.size w)
  have H : ((riverbankref02_Is.f k a0).bind fun t249 => (if t249 = true then (if a1 < 0 then (riverbankref07_Attackers.j0 k a0 a1 a2 true) else (if a1 > 89 then (riverbankref07_Attackers.j0 k a0 a1 a2 true) else (if a2 < 0 then (riverbankref07_Attackers.j0 k a0 a1 a2 true) else (riverbankref07_Attackers.j0 k a0 a1 a2 (decide (a2 > 1)))))) else (riverbankref07_Attackers.j0 k a0 a1 a2 true))) = some r := h
  clear h
  have HC4 := Aside0.mk H
  clear H
  go_enter Try.func89, Try.ntmps89
  go_upto_region 1 with (fail)
  go_cut [28] (fun v28 wc => ∃ (kq : Nat) (x28_3 : Bool), v28 = .bool x28_3 ∧ Aside0 (riverbankref07_Attackers.j0 kq a0 a1 a2 x28_3 = some r) ∧ Aside0 (kq ≤ k) ∧ Aside0 (Below w.heap.size w wc))
  case first =>
    have H := HC4.out
    clear HC4
    replace H := Option.bind_eq_some_iff.mp H
    obtain ⟨t249, A50, H⟩ := H
    replace H : (if t249 = true then (if a1 < 0 then (riverbankref07_Attackers.j0 k a0 a1 a2 true) else (if a1 > 89 then (riverbankref07_Attackers.j0 k a0 a1 a2 true) else (if a2 < 0 then (riverbankref07_Attackers.j0 k a0 a1 a2 true) else (riverbankref07_Attackers.j0 k a0 a1 a2 (decide (a2 > 1)))))) else (riverbankref07_Attackers.j0 k a0 a1 a2 true)) = some r := H
    have A5 := Aside0.mk A50
    clear A50
    by_cases c6 : t249 = true
    · subst c6
      have H1 : (if a1 < 0 then (riverbankref07_Attackers.j0 k a0 a1 a2 true) else (if a1 > 89 then (riverbankref07_Attackers.j0 k a0 a1 a2 true) else (if a2 < 0 then (riverbankref07_Attackers.j0 k a0 a1 a2 true) else (riverbankref07_Attackers.j0 k a0 a1 a2 (decide (a2 > 1)))))) = some r := by rw [if_pos rfl] at H; exact H
      clear H
      have H := H1
      clear H1
      by_cases c7 : a1 < 0
      · rw [if_pos c7] at H
        have c7b0 : decide (a1 < 0) = true := decide_eq_true c7
        clear c7
        (first | rw [c7b0] | (simp only [i64_w, i32_w]; rw [c7b0]) | skip)
        have H' := Aside0.mk H
        clear H
        go_wp2_with (first | ((with_reducible refine gate_callee (f := 25) rfl ?_); refine goesL_ (some 11) rfl rfl Try.func25 (by kernel_rfl) rfl #[.string a0] rfl (by (try simp only [List.map_toArray, List.map_cons, List.map_nil]); first | done | rfl | (simp only [List.length_drop, List.length_take]; rfl)) ?_; (with_reducible refine (riverbankref02_Is.calls k a0 true _ A5.out).mono ?_); rintro e w' ⟨rfl, ⟨nd, rfl⟩⟩; refine ⟨_, rfl, ?_⟩))
        go_meet
        case rel => exact ⟨_, (true), (by first | rfl | (simp; done) | (simp [*]; done)), H', ⟨by first | omega | exact Nat.le_refl _⟩, ⟨by repeat (first | (with_reducible first | exact HB.out | apply below_alloc | apply pw_below_drewN | apply below_drew1) | exact HB.out)⟩⟩
      · rw [if_neg c7] at H
        have c7b0 : decide (a1 < 0) = false := decide_eq_false c7
        clear c7
        (first | rw [c7b0] | (simp only [i64_w, i32_w]; rw [c7b0]) | skip)
        by_cases c8 : a1 > 89
        · rw [if_pos c8] at H
          have c8b0 : decide (89 < a1) = true := decide_eq_true c8
          clear c8
          have H' := Aside0.mk H
          clear H
          go_wp2_with (first | ((with_reducible refine gate_callee (f := 25) rfl ?_); refine goesL_ (some 11) rfl rfl Try.func25 (by kernel_rfl) rfl #[.string a0] rfl (by (try simp only [List.map_toArray, List.map_cons, List.map_nil]); first | done | rfl | (simp only [List.length_drop, List.length_take]; rfl)) ?_; (with_reducible refine (riverbankref02_Is.calls k a0 true _ A5.out).mono ?_); rintro e w' ⟨rfl, ⟨nd, rfl⟩⟩; refine ⟨_, rfl, ?_⟩))
          go_meet
          case rel => exact ⟨_, (true), (by first | rfl | (simp; done) | (simp [*]; done)), H', ⟨by first | omega | exact Nat.le_refl _⟩, ⟨by repeat (first | (with_reducible first | exact HB.out | apply below_alloc | apply pw_below_drewN | apply below_drew1) | exact HB.out)⟩⟩
        · rw [if_neg c8] at H
          have c8b0 : decide (89 < a1) = false := decide_eq_false c8
          clear c8
          by_cases c9 : a2 < 0
          · rw [if_pos c9] at H
            have c9b0 : decide (a2 < 0) = true := decide_eq_true c9
            clear c9
            have H' := Aside0.mk H
            clear H
            go_wp2_with (first | ((with_reducible refine gate_callee (f := 25) rfl ?_); refine goesL_ (some 11) rfl rfl Try.func25 (by kernel_rfl) rfl #[.string a0] rfl (by (try simp only [List.map_toArray, List.map_cons, List.map_nil]); first | done | rfl | (simp only [List.length_drop, List.length_take]; rfl)) ?_; (with_reducible refine (riverbankref02_Is.calls k a0 true _ A5.out).mono ?_); rintro e w' ⟨rfl, ⟨nd, rfl⟩⟩; refine ⟨_, rfl, ?_⟩))
            go_meet
            case rel => exact ⟨_, (true), (by first | rfl | (simp; done) | (simp [*]; done)), H', ⟨by first | omega | exact Nat.le_refl _⟩, ⟨by repeat (first | (with_reducible first | exact HB.out | apply below_alloc | apply pw_below_drewN | apply below_drew1) | exact HB.out)⟩⟩
          · rw [if_neg c9] at H
            have c9b0 : decide (a2 < 0) = false := decide_eq_false c9
            clear c9
            have H' := Aside0.mk H
            clear H
            go_wp2_with (first | ((with_reducible refine gate_callee (f := 25) rfl ?_); refine goesL_ (some 11) rfl rfl Try.func25 (by kernel_rfl) rfl #[.string a0] rfl (by (try simp only [List.map_toArray, List.map_cons, List.map_nil]); first | done | rfl | (simp only [List.length_drop, List.length_take]; rfl)) ?_; (with_reducible refine (riverbankref02_Is.calls k a0 true _ A5.out).mono ?_); rintro e w' ⟨rfl, ⟨nd, rfl⟩⟩; refine ⟨_, rfl, ?_⟩))
            go_meet
            case rel => exact ⟨_, (decide (a2 > 1)), (by first | rfl | (simp; done) | (simp [*]; done)), H', ⟨by first | omega | exact Nat.le_refl _⟩, ⟨by repeat (first | (with_reducible first | exact HB.out | apply below_alloc | apply pw_below_drewN | apply below_drew1) | exact HB.out)⟩⟩
    · replace c6 := Bool.eq_false_iff.mpr c6
      subst c6
      have H1 : (riverbankref07_Attackers.j0 k a0 a1 a2 true) = some r := by rw [if_neg (show ¬ (false = true) by decide)] at H; exact H
      clear H
      have H := H1
      clear H1
      have H' := Aside0.mk H
      clear H
      go_wp2_with (first | ((with_reducible refine gate_callee (f := 25) rfl ?_); refine goesL_ (some 11) rfl rfl Try.func25 (by kernel_rfl) rfl #[.string a0] rfl (by (try simp only [List.map_toArray, List.map_cons, List.map_nil]); first | done | rfl | (simp only [List.length_drop, List.length_take]; rfl)) ?_; (with_reducible refine (riverbankref02_Is.calls k a0 false _ A5.out).mono ?_); rintro e w' ⟨rfl, ⟨nd, rfl⟩⟩; refine ⟨_, rfl, ?_⟩))
      go_meet
      case rel => exact ⟨_, (true), (by first | rfl | (simp; done) | (simp [*]; done)), H', ⟨by first | omega | exact Nat.le_refl _⟩, ⟨by repeat (first | (with_reducible first | exact HB.out | apply below_alloc | apply pw_below_drewN | apply below_drew1) | exact HB.out)⟩⟩
  case rest =>
    clear HC4
    try clear c2
    try clear p2
    try clear c6
    try clear c7
    try clear c7b0
    try clear c8
    try clear c8b0
    try clear c9
    try clear c9b0
    obtain ⟨kq, x28_3, rfl, HA, HJ3, HB⟩ := hcut
    cases kq with
    | zero => exact absurd HA.out (by simp [riverbankref07_Attackers.j0])
    | succ kj3 =>
      have H := HA.out
      clear HA
      simp only [riverbankref07_Attackers.j0] at H
      by_cases c10 : x28_3 = true
      · subst c10
        have H1 : (some ([] : List Int)) = some r := by rw [if_pos rfl] at H; exact H
        clear H
        have H := H1
        clear H1
        obtain rfl := Option.some.inj H
        go_wp2
        go_ret
        exact ⟨_, by first | rfl | (simp [errW_none, errW_some] <;> rfl) | (simp [*, errW_none, errW_some] <;> rfl), by first | exact Kd.R_nil _ _ _ _ _ | exact Kd.N_nil _ _ _ _ _ | exact Kd.V_nil _ _ _ _ _ | exact Kd.Q_nil _ _ _ _ _ | exact Kd.S_nil _ _ _ _ _, by repeat (first | (with_reducible first | exact HB.out | apply below_alloc | apply pw_below_drewN | apply below_drew1) | exact HB.out)⟩
      · replace c10 := Bool.eq_false_iff.mpr c10
        subst c10
        have H1 : ((riverbankref07_put.f a0 a1 a2).bind fun t250 => (riverbankref07_Attackers.l0 kj3 a1 a2 t250 ([] : List Int) 0)) = some r := by rw [if_neg (show ¬ (false = true) by decide)] at H; exact H
        clear H
        have H := H1
        clear H1
        replace H := Option.bind_eq_some_iff.mp H
        obtain ⟨t250, A110, H⟩ := H
        replace H : (riverbankref07_Attackers.l0 kj3 a1 a2 t250 ([] : List Int) 0) = some r := H
        have A11 := Aside0.mk A110
        clear A110
        have H' := Aside0.mk H
        clear H
        go_wp2_with (first | ((with_reducible refine gate_callee (f := 97) rfl ?_); refine goesL_ (some 32) rfl rfl Try.func97 (by kernel_rfl) rfl #[.string a0, .int .i64 a1, .int .i64 a2] rfl (by (try simp only [List.map_toArray, List.map_cons, List.map_nil]); first | done | rfl | (simp only [List.length_drop, List.length_take]; rfl)) ?_; (with_reducible refine (riverbankref07_put.calls a0 a1 a2 t250 _ A11.out).mono ?_); rintro e w12 ⟨rfl, hb⟩; refine ⟨_, rfl, ?_⟩; have n0_ := Aside0.mk (below_step (by repeat (first | (with_reducible first | exact HB.out | apply below_alloc | apply pw_below_drewN | apply below_drew1) | exact HB.out)) hb); clear HB; have HB := n0_; clear n0_; (try clear hb); (try clear hb2); (try clear hk); (try clear hi)))
        go_loopg [8, 9] kj3 (fun kq v8 v9 w' => ∃ (x8_2 : List Int) (x9_2 : Int), v9 = .int .i64 x9_2 ∧ Aside0 (riverbankref07_Attackers.l0 kq a1 a2 t250 x8_2 x9_2 = some r) ∧ Aside0 (kq ≤ kj3) ∧ Aside0 (Kd.R (Kd.int .i64) 3 w' w.heap.size (fun _ => True) v8 x8_2) ∧ Aside0 (Below w.heap.size w w'))
        case atStart => exact ⟨(([] : List Int)), (0), (by first | rfl | (simp; done) | (simp [*]; done)), H', ⟨Nat.le_refl _⟩, ⟨by first | exact Kd.R_nil _ _ _ _ _ | exact Kd.N_nil _ _ _ _ _ | exact Kd.V_nil _ _ _ _ _ | exact Kd.Q_nil _ _ _ _ _ | exact Kd.S_nil _ _ _ _ _⟩, ⟨by repeat (first | (with_reducible first | exact HB.out | apply below_alloc | apply pw_below_drewN | apply below_drew1) | exact HB.out)⟩⟩
        case round =>
          clear H'
          try clear c1
          try clear c2
          try clear p2
          try clear c6
          try clear c7
          try clear c7b0
          try clear c8
          try clear c8b0
          try clear c9
          try clear c9b0
          try clear c10
          try clear p2
          obtain ⟨x8_2, x9_2, rfl, HA, HK2, HO_8, HB⟩ := hrel
          cases gk with
          | zero => exact absurd HA.out (by simp [riverbankref07_Attackers.l0])
          | succ k2 =>
            have H := HA.out
            clear HA
            simp only [riverbankref07_Attackers.l0] at H
            by_cases c13 : x9_2 < 90
            · rw [if_pos c13] at H
              have c13b0 : decide (x9_2 < 90) = true := decide_eq_true c13
              clear c13
              by_cases c14 : 0 ≤ x9_2
              · rw [if_pos c14] at H
                have c14b0 : decide (0 ≤ x9_2) = true := decide_eq_true c14
                clear c14
                by_cases c15 : x9_2 < (t250.size : Int)
                · rw [if_pos c15] at H
                  have c15b0 : decide (x9_2 < (t250.size : Int)) = true := decide_eq_true c15
                  clear c15
                  replace H := Option.bind_eq_some_iff.mp H
                  obtain ⟨t251, A170, H⟩ := H
                  replace H : (if t251 = a2 then ((riverbankref05_Fast.f k2 t250 x9_2 a1).bind fun t252 => (if t252 = true then (if x8_2.length < 17592186044416 then (riverbankref07_Attackers.l0 k2 a1 a2 t250 (x8_2 ++ [x9_2]) (wrap64 (x9_2 + 1))) else (none)) else (riverbankref07_Attackers.l0 k2 a1 a2 t250 x8_2 (wrap64 (x9_2 + 1))))) else (riverbankref07_Attackers.l0 k2 a1 a2 t250 x8_2 (wrap64 (x9_2 + 1)))) = some r := H
                  have A17 := Aside0.mk A170
                  clear A170
                  by_cases c18 : t251 = a2
                  · rw [if_pos c18] at H
                    have c18b0 : (t251 == a2) = true := beq_iff_eq.mpr c18
                    have c18b1 : (t251 != a2) = false := bne_eq_false_iff_eq.mpr c18
                    clear c18
                    replace H := Option.bind_eq_some_iff.mp H
                    obtain ⟨t252, A190, H⟩ := H
                    replace H : (if t252 = true then (if x8_2.length < 17592186044416 then (riverbankref07_Attackers.l0 k2 a1 a2 t250 (x8_2 ++ [x9_2]) (wrap64 (x9_2 + 1))) else (none)) else (riverbankref07_Attackers.l0 k2 a1 a2 t250 x8_2 (wrap64 (x9_2 + 1)))) = some r := H
                    have A19 := Aside0.mk A190
                    clear A190
                    by_cases c20 : t252 = true
                    · subst c20
                      have H1 : (if x8_2.length < 17592186044416 then (riverbankref07_Attackers.l0 k2 a1 a2 t250 (x8_2 ++ [x9_2]) (wrap64 (x9_2 + 1))) else (none)) = some r := by rw [if_pos rfl] at H; exact H
                      clear H
                      have H := H1
                      clear H1
                      by_cases c21 : x8_2.length < 17592186044416
                      · rw [if_pos c21] at H
                        have LMc21 := Aside0.mk c21
                        clear c21
                        obtain ⟨y253, hy253⟩ : ∃ y_ : List Int, y_ = (x8_2 ++ [x9_2]) := ⟨_, rfl⟩
                        replace H : (riverbankref07_Attackers.l0 k2 a1 a2 t250 y253 (wrap64 (x9_2 + 1))) = some r := by first | (rw [hy253]; with_reducible exact H) | (have H2_ := (Option.bind_some _ _).symm.trans H; rw [hy253]; with_reducible exact H2_) | (have H2_ := (Option.bind_some _ _).symm.trans H; with_reducible exact H2_) | with_reducible exact H | (rw [hy253]; exact H) | exact H
                        have Ny253 := Aside0.mk hy253
                        clear hy253
                        have H' := Aside0.mk H
                        clear H
                        have p16 : 0 ≤ (x9_2 : Int) := of_decide_eq_true (by first | (with_reducible assumption) | assumption)
                        have q16 : x9_2 < (t250.size : Int) := of_decide_eq_true (by first | (with_reducible assumption) | assumption)
                        have hx16 := bt_at t250 x9_2
                        replace p16 := eq_true p16
                        replace q16 := eq_true q16
                        go_wp2_with (first | ((with_reducible refine gate_callee (f := 26) rfl ?_); refine goesL_ (some 40) rfl rfl Try.func26 (by kernel_rfl) rfl #[.int .u8 (bt t250 x9_2)] rfl (by (try simp only [List.map_toArray, List.map_cons, List.map_nil]); first | done | rfl | (simp only [List.length_drop, List.length_take]; rfl)) ?_; (with_reducible refine (riverbankref02_Side.calls k2 (bt t250 x9_2) t251 _ A17.out).mono ?_); rintro e w' ⟨rfl, ⟨nd, rfl⟩⟩; refine ⟨_, rfl, ?_⟩) | (go_at_call 76; (with_reducible refine (riverbankref05_Fast.calls k2 t250 x9_2 a1 true _ A19.out).mono ?_); rintro e w22 ⟨rfl, hb⟩; have n0_ := Aside0.mk (Kd.R_below (by (with_reducible repeat (first | apply Kd.R_alloc | apply Kd.R_drewN | apply Kd.R_drew)); exact HO_8.out) hb); have n1_ := Aside0.mk (below_step (by repeat (first | (with_reducible first | exact HB.out | apply below_alloc | apply pw_below_drewN | apply below_drew1) | exact HB.out)) hb); clear HO_8; clear HB; have HO_8 := n0_; have HB := n1_; clear n0_ n1_; (try clear hb); (try clear hb2); (try clear hk); (try clear hi)) | ((with_reducible refine gate_builtin (b := .append) (xs := #[.tmp 49, .tmp 51]) rfl ?_); at_builtin; refine Kd.R_append (Kd.int .i64) (w0 := w) w.heap.size rfl (.tmp 49) (.tmp 51) 94 3 (.int .i64 0) 8 rfl Try.underlying94 info3 rfl (by decide) (by omega) u8 x8_2 x9_2 [.int .i64 x9_2] (fun _ => True) (fun _ => False) rfl rfl ?aP (fun _ hk => hk.elim) ?aF ?aO ?aB ?aS ?aL ?_; (case aP => exact rfl); (case aB => exact (by repeat (first | (with_reducible first | exact HB.out | apply below_alloc | apply pw_below_drewN | apply below_drew1) | exact HB.out))); (case aF => exact (fun _ _ => trivial)); (case aO => exact (by (with_reducible repeat (first | apply Kd.R_alloc | apply Kd.R_drewN | apply Kd.R_drew)); exact HO_8.out)); (case aS => exact (below_size (by repeat (first | (with_reducible first | exact HB.out | apply below_alloc | apply pw_below_drewN | apply below_drew1) | exact HB.out)))); (case aL => have := LMc21.out; omega); intro v254 w23 ho hb hg hat; rw [← Ny253.out] at ho; have n0_ := Aside0.mk (hb); have n1_ := Aside0.mk (ho); clear HB; clear HO_8; have HB := n0_; have HO255 := n1_; clear n0_ n1_; clear ho hb hg hat))
                        go_roundg k2
                        case measure => have := HJ3.out; have := HK2.out; omega
                        case rel => exact ⟨(y253), (wrap64 (x9_2 + 1)), (by first | rfl | (simp; done) | (simp [*]; done)), H', ⟨by have := HJ3.out; have := HK2.out; omega⟩, ⟨by (with_reducible repeat (first | apply Kd.R_alloc | apply Kd.R_drewN | apply Kd.R_drew)); exact HO255.out⟩, ⟨by repeat (first | (with_reducible first | exact HB.out | apply below_alloc | apply pw_below_drewN | apply below_drew1) | exact HB.out)⟩⟩
                      · rw [if_neg c21] at H
                        exact absurd H (by simp)
                    · replace c20 := Bool.eq_false_iff.mpr c20
                      subst c20
                      have H1 : (riverbankref07_Attackers.l0 k2 a1 a2 t250 x8_2 (wrap64 (x9_2 + 1))) = some r := by rw [if_neg (show ¬ (false = true) by decide)] at H; exact H
                      clear H
                      have H := H1
                      clear H1
                      have H' := Aside0.mk H
                      clear H
                      have p16 : 0 ≤ (x9_2 : Int) := of_decide_eq_true (by first | (with_reducible assumption) | assumption)
                      have q16 : x9_2 < (t250.size : Int) := of_decide_eq_true (by first | (with_reducible assumption) | assumption)
                      have hx16 := bt_at t250 x9_2
                      replace p16 := eq_true p16
                      replace q16 := eq_true q16
                      go_wp2_with (first | ((with_reducible refine gate_callee (f := 26) rfl ?_); refine goesL_ (some 40) rfl rfl Try.func26 (by kernel_rfl) rfl #[.int .u8 (bt t250 x9_2)] rfl (by (try simp only [List.map_toArray, List.map_cons, List.map_nil]); first | done | rfl | (simp only [List.length_drop, List.length_take]; rfl)) ?_; (with_reducible refine (riverbankref02_Side.calls k2 (bt t250 x9_2) t251 _ A17.out).mono ?_); rintro e w' ⟨rfl, ⟨nd, rfl⟩⟩; refine ⟨_, rfl, ?_⟩) | (go_at_call 76; (with_reducible refine (riverbankref05_Fast.calls k2 t250 x9_2 a1 false _ A19.out).mono ?_); rintro e w24 ⟨rfl, hb⟩; have n0_ := Aside0.mk (Kd.R_below (by (with_reducible repeat (first | apply Kd.R_alloc | apply Kd.R_drewN | apply Kd.R_drew)); exact HO_8.out) hb); have n1_ := Aside0.mk (below_step (by repeat (first | (with_reducible first | exact HB.out | apply below_alloc | apply pw_below_drewN | apply below_drew1) | exact HB.out)) hb); clear HO_8; clear HB; have HO_8 := n0_; have HB := n1_; clear n0_ n1_; (try clear hb); (try clear hb2); (try clear hk); (try clear hi)))
                      go_roundg k2
                      case measure => have := HJ3.out; have := HK2.out; omega
                      case rel => exact ⟨(x8_2), (wrap64 (x9_2 + 1)), (by first | rfl | (simp; done) | (simp [*]; done)), H', ⟨by have := HJ3.out; have := HK2.out; omega⟩, ⟨by (with_reducible repeat (first | apply Kd.R_alloc | apply Kd.R_drewN | apply Kd.R_drew)); exact HO_8.out⟩, ⟨by repeat (first | (with_reducible first | exact HB.out | apply below_alloc | apply pw_below_drewN | apply below_drew1) | exact HB.out)⟩⟩
                  · rw [if_neg c18] at H
                    have c18b0 : (t251 == a2) = false := beq_eq_false_iff_ne.mpr c18
                    have c18b1 : (t251 != a2) = true := bne_iff_ne.mpr c18
                    have H' := Aside0.mk H
                    clear H
                    have p16 : 0 ≤ (x9_2 : Int) := of_decide_eq_true (by first | (with_reducible assumption) | assumption)
                    have q16 : x9_2 < (t250.size : Int) := of_decide_eq_true (by first | (with_reducible assumption) | assumption)
                    have hx16 := bt_at t250 x9_2
                    replace p16 := eq_true p16
                    replace q16 := eq_true q16
                    go_wp2_with (first | ((with_reducible refine gate_callee (f := 26) rfl ?_); refine goesL_ (some 40) rfl rfl Try.func26 (by kernel_rfl) rfl #[.int .u8 (bt t250 x9_2)] rfl (by (try simp only [List.map_toArray, List.map_cons, List.map_nil]); first | done | rfl | (simp only [List.length_drop, List.length_take]; rfl)) ?_; (with_reducible refine (riverbankref02_Side.calls k2 (bt t250 x9_2) t251 _ A17.out).mono ?_); rintro e w' ⟨rfl, ⟨nd, rfl⟩⟩; refine ⟨_, rfl, ?_⟩))
                    go_roundg k2
                    case measure => have := HJ3.out; have := HK2.out; omega
                    case rel => exact ⟨(x8_2), (wrap64 (x9_2 + 1)), (by first | rfl | (simp; done) | (simp [*]; done)), H', ⟨by have := HJ3.out; have := HK2.out; omega⟩, ⟨by (with_reducible repeat (first | apply Kd.R_alloc | apply Kd.R_drewN | apply Kd.R_drew)); exact HO_8.out⟩, ⟨by repeat (first | (with_reducible first | exact HB.out | apply below_alloc | apply pw_below_drewN | apply below_drew1) | exact HB.out)⟩⟩
                · rw [if_neg c15] at H
                  exact absurd H (by simp)
              · rw [if_neg c14] at H
                exact absurd H (by simp)
            · rw [if_neg c13] at H
              have c13b0 : decide (x9_2 < 90) = false := decide_eq_false c13
              clear c13
              obtain rfl := Option.some.inj H
              go_wp2
              go_ret
              exact ⟨_, by first | rfl | (simp [errW_none, errW_some] <;> rfl) | (simp [*, errW_none, errW_some] <;> rfl), by (with_reducible repeat (first | apply Kd.R_alloc | apply Kd.R_drewN | apply Kd.R_drew)); exact HO_8.out, by repeat (first | (with_reducible first | exact HB.out | apply below_alloc | apply pw_below_drewN | apply below_drew1) | exact HB.out)⟩

/-! ### riverbankref07_In: function 73 -/
def riverbankref07_In.f (k : Nat) (a0 : ByteArray) (a1 : Int) : Option (Bool) := (riverbankref07_General.f k a0 a1).bind fun t256 => (if t256 ≥ 0 then ((riverbankref07_Attackers.f k a0 t256 (wrap64 (1 - a1))).bind fun t257 => (some (decide ((t257.length : Int) > 0)))) else (some false))
theorem riverbankref07_In.mono : ∀ a0 a1 k, LeO (riverbankref07_In.f k a0 a1) (riverbankref07_In.f (k + 1) a0 a1) := by
  intro a0 a1 k
  unfold riverbankref07_In.f
  repeat' first
      | (with_reducible exact riverbankref07_Attackers.mono _ _ _ _)
      | (with_reducible exact riverbankref07_General.mono _ _ _)
      | (with_reducible exact LeO.refl _)
      | (with_reducible exact LeO.none _)
      | (with_reducible refine LeO.ite ?_ ?_)
      | (with_reducible refine LeO.bind ?_ (fun _ => ?_))
      | exact riverbankref07_Attackers.mono _ _ _ _
      | exact riverbankref07_General.mono _ _ _
      | exact LeO.none _
      | refine LeO.ite ?_ ?_
      | refine LeO.bind ?_ (fun _ => ?_)
set_option maxHeartbeats 8000000 in
set_option maxRecDepth 100000 in
theorem riverbankref07_In.calls (k : Nat) (a0 : ByteArray) (a1 : Int) (r : Bool) (w : World) (h : riverbankref07_In.f k a0 a1 = some r) :
    Calls Try.prog 73 #[.string a0, .int .i64 a1] w fun e w' => e = .returned (.bool r) ∧ Below w.heap.size w w' := by
  have HB := Aside0.mk (Below.refl w.heap.size w)
  have H : ((riverbankref07_General.f k a0 a1).bind fun t256 => (if t256 ≥ 0 then ((riverbankref07_Attackers.f k a0 t256 (wrap64 (1 - a1))).bind fun t257 => (some (decide ((t257.length : Int) > 0)))) else (some false))) = some r := h
  clear h
  replace H := Option.bind_eq_some_iff.mp H
  obtain ⟨t256, A30, H⟩ := H
  replace H : (if t256 ≥ 0 then ((riverbankref07_Attackers.f k a0 t256 (wrap64 (1 - a1))).bind fun t257 => (some (decide ((t257.length : Int) > 0)))) else (some false)) = some r := H
  have A3 := Aside0.mk A30
  clear A30
  by_cases c4 : t256 ≥ 0
  · rw [if_pos c4] at H
    have c4b0 : decide (0 ≤ t256) = true := decide_eq_true c4
    clear c4
    replace H := Option.bind_eq_some_iff.mp H
    obtain ⟨t257, A50, H⟩ := H
    replace H : (some (decide ((t257.length : Int) > 0))) = some r := H
    have A5 := Aside0.mk A50
    clear A50
    obtain rfl := Option.some.inj H
    go_enter Try.func73, Try.ntmps73
    go_wp2_with (first | ((with_reducible refine gate_callee (f := 87) rfl ?_); refine goesL_ (some 8) rfl rfl Try.func87 (by kernel_rfl) rfl #[.string a0, .int .i64 a1] rfl (by (try simp only [List.map_toArray, List.map_cons, List.map_nil]); first | done | rfl | (simp only [List.length_drop, List.length_take]; rfl)) ?_; (with_reducible refine (riverbankref07_General.calls k a0 a1 t256 _ A3.out).mono ?_); rintro e w' ⟨rfl, ⟨nd, rfl⟩⟩; refine ⟨_, rfl, ?_⟩) | (go_at_call 89; (with_reducible refine (riverbankref07_Attackers.calls k a0 t256 (wrap64 (1 - a1)) t257 _ A5.out).mono ?_); rintro e w6 ⟨v258, rfl, ho0, hb⟩; have n0_ := Aside0.mk (Kd.R_lower ho0 (below_size (by repeat (first | (with_reducible first | exact HB.out | apply below_alloc | apply pw_below_drewN | apply below_drew1) | exact HB.out)))); have n1_ := Aside0.mk (below_step (by repeat (first | (with_reducible first | exact HB.out | apply below_alloc | apply pw_below_drewN | apply below_drew1) | exact HB.out)) hb); clear HB; have HO259 := n0_; have HB := n1_; clear n0_ n1_; (try clear hb); (try clear hb2); (try clear hk); (try clear hi); (try clear ho0); obtain ⟨Ao7, co7, eo7⟩ := Kd.R_slice HO259.out; subst eo7))
    go_ret
    exact ⟨by first | rfl | (simp [errW_none, errW_some] <;> rfl) | (simp [*, errW_none, errW_some] <;> rfl), by repeat (first | (with_reducible first | exact HB.out | apply below_alloc | apply pw_below_drewN | apply below_drew1) | exact HB.out)⟩
  · rw [if_neg c4] at H
    have c4b0 : decide (0 ≤ t256) = false := decide_eq_false c4
    clear c4
    obtain rfl := Option.some.inj H
    go_enter Try.func73, Try.ntmps73
    go_wp2_with (first | ((with_reducible refine gate_callee (f := 87) rfl ?_); refine goesL_ (some 8) rfl rfl Try.func87 (by kernel_rfl) rfl #[.string a0, .int .i64 a1] rfl (by (try simp only [List.map_toArray, List.map_cons, List.map_nil]); first | done | rfl | (simp only [List.length_drop, List.length_take]; rfl)) ?_; (with_reducible refine (riverbankref07_General.calls k a0 a1 t256 _ A3.out).mono ?_); rintro e w' ⟨rfl, ⟨nd, rfl⟩⟩; refine ⟨_, rfl, ?_⟩))
    go_ret
    exact ⟨by first | rfl | (simp [errW_none, errW_some] <;> rfl) | (simp [*, errW_none, errW_some] <;> rfl), by repeat (first | (with_reducible first | exact HB.out | apply below_alloc | apply pw_below_drewN | apply below_drew1) | exact HB.out)⟩

/-! ### riverbankref07_Well: function 52 -/
def riverbankref07_Well.f (k : Nat) (a0_0 : ByteArray) (a0_1 : Int) (a0_2 : Int) (a0_3 : Int) : Option (Int) := (riverbankref03_Check.f k a0_0 a0_1 a0_2 a0_3).bind fun t261 => (if t261 = 0 then ((riverbankref07_Facing.f k a0_0).bind fun t262 => (if t262 = true then (some 4) else ((riverbankref07_In.f k a0_0 (wrap64 (1 - a0_1))).bind fun t263 => (if t263 = true then (some 5) else (some 0))))) else (some t261))
theorem riverbankref07_Well.mono : ∀ a0 a1 a2 a3 k, LeO (riverbankref07_Well.f k a0 a1 a2 a3) (riverbankref07_Well.f (k + 1) a0 a1 a2 a3) := by
  intro a0 a1 a2 a3 k
  unfold riverbankref07_Well.f
  repeat' first
      | (with_reducible exact riverbankref03_Check.mono _ _ _ _ _)
      | (with_reducible exact riverbankref07_Facing.mono _ _)
      | (with_reducible exact riverbankref07_In.mono _ _ _)
      | (with_reducible exact LeO.refl _)
      | (with_reducible exact LeO.none _)
      | (with_reducible refine LeO.ite ?_ ?_)
      | (with_reducible refine LeO.bind ?_ (fun _ => ?_))
      | exact riverbankref03_Check.mono _ _ _ _ _
      | exact riverbankref07_Facing.mono _ _
      | exact riverbankref07_In.mono _ _ _
      | exact LeO.none _
      | refine LeO.ite ?_ ?_
      | refine LeO.bind ?_ (fun _ => ?_)
set_option maxHeartbeats 8000000 in
set_option maxRecDepth 100000 in
theorem riverbankref07_Well.calls (k : Nat) (a0_0 : ByteArray) (a0_1 : Int) (a0_2 : Int) (a0_3 : Int) (r : Int) (w : World) (h : riverbankref07_Well.f k a0_0 a0_1 a0_2 a0_3 = some r) :
    Calls Try.prog 52 #[.agg #[.string a0_0, .int .i64 a0_1, .int .i64 a0_2, .int .i64 a0_3]] w fun e w' => e = .returned (.int .i64 r) ∧ Below w.heap.size w w' := by
  have hu29 := Try.underlying29
  have HB := Aside0.mk (Below.refl w.heap.size w)
  have H : ((riverbankref03_Check.f k a0_0 a0_1 a0_2 a0_3).bind fun t261 => (if t261 = 0 then ((riverbankref07_Facing.f k a0_0).bind fun t262 => (if t262 = true then (some 4) else ((riverbankref07_In.f k a0_0 (wrap64 (1 - a0_1))).bind fun t263 => (if t263 = true then (some 5) else (some 0))))) else (some t261))) = some r := h
  clear h
  replace H := Option.bind_eq_some_iff.mp H
  obtain ⟨t261, A20, H⟩ := H
  replace H : (if t261 = 0 then ((riverbankref07_Facing.f k a0_0).bind fun t262 => (if t262 = true then (some 4) else ((riverbankref07_In.f k a0_0 (wrap64 (1 - a0_1))).bind fun t263 => (if t263 = true then (some 5) else (some 0))))) else (some t261)) = some r := H
  have A2 := Aside0.mk A20
  clear A20
  by_cases c3 : t261 = 0
  · rw [if_pos c3] at H
    have c3b0 : (t261 == 0) = true := beq_iff_eq.mpr c3
    have c3b1 : (t261 != 0) = false := bne_eq_false_iff_eq.mpr c3
    clear c3
    replace H := Option.bind_eq_some_iff.mp H
    obtain ⟨t262, A40, H⟩ := H
    replace H : (if t262 = true then (some 4) else ((riverbankref07_In.f k a0_0 (wrap64 (1 - a0_1))).bind fun t263 => (if t263 = true then (some 5) else (some 0)))) = some r := H
    have A4 := Aside0.mk A40
    clear A40
    by_cases c5 : t262 = true
    · subst c5
      have H1 : (some 4) = some r := by rw [if_pos rfl] at H; exact H
      clear H
      have H := H1
      clear H1
      obtain rfl := Option.some.inj H
      go_enter Try.func52, Try.ntmps52
      go_wp2_with (first | ((with_reducible refine gate_dst (N := 1) rfl ?_); refine box_event ?hg (N := 1) ?hd (cs := #[.string a0_0, .int .i64 a0_1, .int .i64 a0_2, .int .i64 a0_3]) (t := 29) ?hr ?_; (case hd => rfl); (case hg => rfl); (case hr => first | (go_simp; done) | (go_simp; rfl)); intro gb260 hg w6 hbox hb; have n0_ := Aside0.mk (below_step (by repeat (first | (with_reducible first | exact HB.out | apply below_alloc | apply pw_below_drewN | apply below_drew1) | exact HB.out)) hb); have n1_ := Aside0.mk (hbox); have n2_ := Aside0.mk ((by rw [hg]; exact (below_size (by repeat (first | (with_reducible first | exact HB.out | apply below_alloc | apply pw_below_drewN | apply below_drew1) | exact HB.out))) : w.heap.size ≤ gb260)); have n3_ := Aside0.mk ((by rw [hg]; exact (below_size (by repeat (first | (with_reducible first | exact HB.out | apply below_alloc | apply pw_below_drewN | apply below_drew1) | exact HB.out))) : w.heap.size ≤ gb260)); clear HB; have HB := n0_; have BK260 := n1_; have GW260 := n2_; have GE260 := n3_; clear n0_ n1_ n2_ n3_; clear hb hbox hg; have hcz7_0 : w6.cell? ⟨gb260, 0, none⟩ = some (.string a0_0) := (blk_cell BK260.out 0).trans rfl; have hcz7_1 : w6.cell? ⟨gb260, 1, none⟩ = some (.int .i64 a0_1) := (blk_cell BK260.out 1).trans rfl; have hcz7_2 : w6.cell? ⟨gb260, 2, none⟩ = some (.int .i64 a0_2) := (blk_cell BK260.out 2).trans rfl; have hcz7_3 : w6.cell? ⟨gb260, 3, none⟩ = some (.int .i64 a0_3) := (blk_cell BK260.out 3).trans rfl; have hfz7_0 := blk_frozen BK260.out 0; have hfz7_1 := blk_frozen BK260.out 1; have hfz7_2 := blk_frozen BK260.out 2; have hfz7_3 := blk_frozen BK260.out 3) | ((with_reducible refine gate_callee (f := 71) rfl ?_); refine goesL_ (some 5) rfl rfl Try.func71 (by kernel_rfl) rfl #[.agg #[.string a0_0, .int .i64 a0_1, .int .i64 a0_2, .int .i64 a0_3]] rfl (by (try simp only [List.map_toArray, List.map_cons, List.map_nil]); first | done | rfl | (simp only [List.length_drop, List.length_take]; rfl)) ?_; (with_reducible refine (riverbankref03_Check.calls k a0_0 a0_1 a0_2 a0_3 t261 _ A2.out).mono ?_); rintro e w8 ⟨rfl, hb⟩; refine ⟨_, rfl, ?_⟩; have n0_ := Aside0.mk (blk_below (g := gb260) (o := .cells #[.string a0_0, .int .i64 a0_1, .int .i64 a0_2, .int .i64 a0_3] 29 (0, 0)) (by (with_reducible repeat (first | refine blk_drewN ?_ _ | refine blk_drew ?_ | refine blk_alloc ?_ _)); exact BK260.out) hb); have n1_ := Aside0.mk (below_step (by repeat (first | (with_reducible first | exact HB.out | apply below_alloc | apply pw_below_drewN | apply below_drew1 | refine below_set ?_ GE260.out) | exact HB.out)) hb); clear BK260; clear HB; have BK260 := n0_; have HB := n1_; clear n0_ n1_; (try clear hb); (try clear hb2); (try clear hk); (try clear hi); have hcz9_0 : w8.cell? ⟨gb260, 0, none⟩ = some (.string a0_0) := (blk_cell BK260.out 0).trans rfl; have hcz9_1 : w8.cell? ⟨gb260, 1, none⟩ = some (.int .i64 a0_1) := (blk_cell BK260.out 1).trans rfl; have hcz9_2 : w8.cell? ⟨gb260, 2, none⟩ = some (.int .i64 a0_2) := (blk_cell BK260.out 2).trans rfl; have hcz9_3 : w8.cell? ⟨gb260, 3, none⟩ = some (.int .i64 a0_3) := (blk_cell BK260.out 3).trans rfl; have hfz9_0 := blk_frozen BK260.out 0; have hfz9_1 := blk_frozen BK260.out 1; have hfz9_2 := blk_frozen BK260.out 2; have hfz9_3 := blk_frozen BK260.out 3) | ((with_reducible refine gate_callee (f := 72) rfl ?_); refine goesL_ (some 13) rfl rfl Try.func72 (by kernel_rfl) rfl #[.string a0_0] rfl (by (try simp only [List.map_toArray, List.map_cons, List.map_nil]); first | done | rfl | (simp only [List.length_drop, List.length_take]; rfl)) ?_; (with_reducible refine (riverbankref07_Facing.calls k a0_0 true _ A4.out).mono ?_); rintro e w10 ⟨rfl, hb⟩; refine ⟨_, rfl, ?_⟩; have n0_ := Aside0.mk (blk_below (g := gb260) (o := .cells #[.string a0_0, .int .i64 a0_1, .int .i64 a0_2, .int .i64 a0_3] 29 (0, 0)) (by (with_reducible repeat (first | refine blk_drewN ?_ _ | refine blk_drew ?_ | refine blk_alloc ?_ _)); exact BK260.out) hb); have n1_ := Aside0.mk (below_step (by repeat (first | (with_reducible first | exact HB.out | apply below_alloc | apply pw_below_drewN | apply below_drew1 | refine below_set ?_ GE260.out) | exact HB.out)) hb); clear BK260; clear HB; have BK260 := n0_; have HB := n1_; clear n0_ n1_; (try clear hb); (try clear hb2); (try clear hk); (try clear hi)))
      go_ret
      exact ⟨by first | rfl | (simp [errW_none, errW_some] <;> rfl) | (simp [*, errW_none, errW_some] <;> rfl), by repeat (first | (with_reducible first | exact HB.out | apply below_alloc | apply pw_below_drewN | apply below_drew1 | refine below_set ?_ GE260.out) | exact HB.out)⟩
    · replace c5 := Bool.eq_false_iff.mpr c5
      subst c5
      have H1 : ((riverbankref07_In.f k a0_0 (wrap64 (1 - a0_1))).bind fun t263 => (if t263 = true then (some 5) else (some 0))) = some r := by rw [if_neg (show ¬ (false = true) by decide)] at H; exact H
      clear H
      have H := H1
      clear H1
      replace H := Option.bind_eq_some_iff.mp H
      obtain ⟨t263, A110, H⟩ := H
      replace H : (if t263 = true then (some 5) else (some 0)) = some r := H
      have A11 := Aside0.mk A110
      clear A110
      by_cases c12 : t263 = true
      · subst c12
        have H1 : (some 5) = some r := by rw [if_pos rfl] at H; exact H
        clear H
        have H := H1
        clear H1
        obtain rfl := Option.some.inj H
        go_enter Try.func52, Try.ntmps52
        go_wp2_with (first | ((with_reducible refine gate_dst (N := 1) rfl ?_); refine box_event ?hg (N := 1) ?hd (cs := #[.string a0_0, .int .i64 a0_1, .int .i64 a0_2, .int .i64 a0_3]) (t := 29) ?hr ?_; (case hd => rfl); (case hg => rfl); (case hr => first | (go_simp; done) | (go_simp; rfl)); intro gb260 hg w13 hbox hb; have n0_ := Aside0.mk (below_step (by repeat (first | (with_reducible first | exact HB.out | apply below_alloc | apply pw_below_drewN | apply below_drew1) | exact HB.out)) hb); have n1_ := Aside0.mk (hbox); have n2_ := Aside0.mk ((by rw [hg]; exact (below_size (by repeat (first | (with_reducible first | exact HB.out | apply below_alloc | apply pw_below_drewN | apply below_drew1) | exact HB.out))) : w.heap.size ≤ gb260)); have n3_ := Aside0.mk ((by rw [hg]; exact (below_size (by repeat (first | (with_reducible first | exact HB.out | apply below_alloc | apply pw_below_drewN | apply below_drew1) | exact HB.out))) : w.heap.size ≤ gb260)); clear HB; have HB := n0_; have BK260 := n1_; have GW260 := n2_; have GE260 := n3_; clear n0_ n1_ n2_ n3_; clear hb hbox hg; have hcz14_0 : w13.cell? ⟨gb260, 0, none⟩ = some (.string a0_0) := (blk_cell BK260.out 0).trans rfl; have hcz14_1 : w13.cell? ⟨gb260, 1, none⟩ = some (.int .i64 a0_1) := (blk_cell BK260.out 1).trans rfl; have hcz14_2 : w13.cell? ⟨gb260, 2, none⟩ = some (.int .i64 a0_2) := (blk_cell BK260.out 2).trans rfl; have hcz14_3 : w13.cell? ⟨gb260, 3, none⟩ = some (.int .i64 a0_3) := (blk_cell BK260.out 3).trans rfl; have hfz14_0 := blk_frozen BK260.out 0; have hfz14_1 := blk_frozen BK260.out 1; have hfz14_2 := blk_frozen BK260.out 2; have hfz14_3 := blk_frozen BK260.out 3) | ((with_reducible refine gate_callee (f := 71) rfl ?_); refine goesL_ (some 5) rfl rfl Try.func71 (by kernel_rfl) rfl #[.agg #[.string a0_0, .int .i64 a0_1, .int .i64 a0_2, .int .i64 a0_3]] rfl (by (try simp only [List.map_toArray, List.map_cons, List.map_nil]); first | done | rfl | (simp only [List.length_drop, List.length_take]; rfl)) ?_; (with_reducible refine (riverbankref03_Check.calls k a0_0 a0_1 a0_2 a0_3 t261 _ A2.out).mono ?_); rintro e w15 ⟨rfl, hb⟩; refine ⟨_, rfl, ?_⟩; have n0_ := Aside0.mk (blk_below (g := gb260) (o := .cells #[.string a0_0, .int .i64 a0_1, .int .i64 a0_2, .int .i64 a0_3] 29 (0, 0)) (by (with_reducible repeat (first | refine blk_drewN ?_ _ | refine blk_drew ?_ | refine blk_alloc ?_ _)); exact BK260.out) hb); have n1_ := Aside0.mk (below_step (by repeat (first | (with_reducible first | exact HB.out | apply below_alloc | apply pw_below_drewN | apply below_drew1 | refine below_set ?_ GE260.out) | exact HB.out)) hb); clear BK260; clear HB; have BK260 := n0_; have HB := n1_; clear n0_ n1_; (try clear hb); (try clear hb2); (try clear hk); (try clear hi); have hcz16_0 : w15.cell? ⟨gb260, 0, none⟩ = some (.string a0_0) := (blk_cell BK260.out 0).trans rfl; have hcz16_1 : w15.cell? ⟨gb260, 1, none⟩ = some (.int .i64 a0_1) := (blk_cell BK260.out 1).trans rfl; have hcz16_2 : w15.cell? ⟨gb260, 2, none⟩ = some (.int .i64 a0_2) := (blk_cell BK260.out 2).trans rfl; have hcz16_3 : w15.cell? ⟨gb260, 3, none⟩ = some (.int .i64 a0_3) := (blk_cell BK260.out 3).trans rfl; have hfz16_0 := blk_frozen BK260.out 0; have hfz16_1 := blk_frozen BK260.out 1; have hfz16_2 := blk_frozen BK260.out 2; have hfz16_3 := blk_frozen BK260.out 3) | ((with_reducible refine gate_callee (f := 72) rfl ?_); refine goesL_ (some 13) rfl rfl Try.func72 (by kernel_rfl) rfl #[.string a0_0] rfl (by (try simp only [List.map_toArray, List.map_cons, List.map_nil]); first | done | rfl | (simp only [List.length_drop, List.length_take]; rfl)) ?_; (with_reducible refine (riverbankref07_Facing.calls k a0_0 false _ A4.out).mono ?_); rintro e w17 ⟨rfl, hb⟩; refine ⟨_, rfl, ?_⟩; have n0_ := Aside0.mk (blk_below (g := gb260) (o := .cells #[.string a0_0, .int .i64 a0_1, .int .i64 a0_2, .int .i64 a0_3] 29 (0, 0)) (by (with_reducible repeat (first | refine blk_drewN ?_ _ | refine blk_drew ?_ | refine blk_alloc ?_ _)); exact BK260.out) hb); have n1_ := Aside0.mk (below_step (by repeat (first | (with_reducible first | exact HB.out | apply below_alloc | apply pw_below_drewN | apply below_drew1 | refine below_set ?_ GE260.out) | exact HB.out)) hb); clear BK260; clear HB; have BK260 := n0_; have HB := n1_; clear n0_ n1_; (try clear hb); (try clear hb2); (try clear hk); (try clear hi); have hcz18_0 : w17.cell? ⟨gb260, 0, none⟩ = some (.string a0_0) := (blk_cell BK260.out 0).trans rfl; have hcz18_1 : w17.cell? ⟨gb260, 1, none⟩ = some (.int .i64 a0_1) := (blk_cell BK260.out 1).trans rfl; have hcz18_2 : w17.cell? ⟨gb260, 2, none⟩ = some (.int .i64 a0_2) := (blk_cell BK260.out 2).trans rfl; have hcz18_3 : w17.cell? ⟨gb260, 3, none⟩ = some (.int .i64 a0_3) := (blk_cell BK260.out 3).trans rfl; have hfz18_0 := blk_frozen BK260.out 0; have hfz18_1 := blk_frozen BK260.out 1; have hfz18_2 := blk_frozen BK260.out 2; have hfz18_3 := blk_frozen BK260.out 3) | ((with_reducible refine gate_callee (f := 73) rfl ?_); refine goesL_ (some 20) rfl rfl Try.func73 (by kernel_rfl) rfl #[.string a0_0, .int .i64 (wrap64 (1 - a0_1))] rfl (by (try simp only [List.map_toArray, List.map_cons, List.map_nil]); first | done | rfl | (simp only [List.length_drop, List.length_take]; rfl)) ?_; (with_reducible refine (riverbankref07_In.calls k a0_0 (wrap64 (1 - a0_1)) true _ A11.out).mono ?_); rintro e w19 ⟨rfl, hb⟩; refine ⟨_, rfl, ?_⟩; have n0_ := Aside0.mk (blk_below (g := gb260) (o := .cells #[.string a0_0, .int .i64 a0_1, .int .i64 a0_2, .int .i64 a0_3] 29 (0, 0)) (by (with_reducible repeat (first | refine blk_drewN ?_ _ | refine blk_drew ?_ | refine blk_alloc ?_ _)); exact BK260.out) hb); have n1_ := Aside0.mk (below_step (by repeat (first | (with_reducible first | exact HB.out | apply below_alloc | apply pw_below_drewN | apply below_drew1 | refine below_set ?_ GE260.out) | exact HB.out)) hb); clear BK260; clear HB; have BK260 := n0_; have HB := n1_; clear n0_ n1_; (try clear hb); (try clear hb2); (try clear hk); (try clear hi)))
        go_ret
        exact ⟨by first | rfl | (simp [errW_none, errW_some] <;> rfl) | (simp [*, errW_none, errW_some] <;> rfl), by repeat (first | (with_reducible first | exact HB.out | apply below_alloc | apply pw_below_drewN | apply below_drew1 | refine below_set ?_ GE260.out) | exact HB.out)⟩
      · replace c12 := Bool.eq_false_iff.mpr c12
        subst c12
        have H1 : (some 0) = some r := by rw [if_neg (show ¬ (false = true) by decide)] at H; exact H
        clear H
        have H := H1
        clear H1
        obtain rfl := Option.some.inj H
        go_enter Try.func52, Try.ntmps52
        go_wp2_with (first | ((with_reducible refine gate_dst (N := 1) rfl ?_); refine box_event ?hg (N := 1) ?hd (cs := #[.string a0_0, .int .i64 a0_1, .int .i64 a0_2, .int .i64 a0_3]) (t := 29) ?hr ?_; (case hd => rfl); (case hg => rfl); (case hr => first | (go_simp; done) | (go_simp; rfl)); intro gb260 hg w20 hbox hb; have n0_ := Aside0.mk (below_step (by repeat (first | (with_reducible first | exact HB.out | apply below_alloc | apply pw_below_drewN | apply below_drew1) | exact HB.out)) hb); have n1_ := Aside0.mk (hbox); have n2_ := Aside0.mk ((by rw [hg]; exact (below_size (by repeat (first | (with_reducible first | exact HB.out | apply below_alloc | apply pw_below_drewN | apply below_drew1) | exact HB.out))) : w.heap.size ≤ gb260)); have n3_ := Aside0.mk ((by rw [hg]; exact (below_size (by repeat (first | (with_reducible first | exact HB.out | apply below_alloc | apply pw_below_drewN | apply below_drew1) | exact HB.out))) : w.heap.size ≤ gb260)); clear HB; have HB := n0_; have BK260 := n1_; have GW260 := n2_; have GE260 := n3_; clear n0_ n1_ n2_ n3_; clear hb hbox hg; have hcz21_0 : w20.cell? ⟨gb260, 0, none⟩ = some (.string a0_0) := (blk_cell BK260.out 0).trans rfl; have hcz21_1 : w20.cell? ⟨gb260, 1, none⟩ = some (.int .i64 a0_1) := (blk_cell BK260.out 1).trans rfl; have hcz21_2 : w20.cell? ⟨gb260, 2, none⟩ = some (.int .i64 a0_2) := (blk_cell BK260.out 2).trans rfl; have hcz21_3 : w20.cell? ⟨gb260, 3, none⟩ = some (.int .i64 a0_3) := (blk_cell BK260.out 3).trans rfl; have hfz21_0 := blk_frozen BK260.out 0; have hfz21_1 := blk_frozen BK260.out 1; have hfz21_2 := blk_frozen BK260.out 2; have hfz21_3 := blk_frozen BK260.out 3) | ((with_reducible refine gate_callee (f := 71) rfl ?_); refine goesL_ (some 5) rfl rfl Try.func71 (by kernel_rfl) rfl #[.agg #[.string a0_0, .int .i64 a0_1, .int .i64 a0_2, .int .i64 a0_3]] rfl (by (try simp only [List.map_toArray, List.map_cons, List.map_nil]); first | done | rfl | (simp only [List.length_drop, List.length_take]; rfl)) ?_; (with_reducible refine (riverbankref03_Check.calls k a0_0 a0_1 a0_2 a0_3 t261 _ A2.out).mono ?_); rintro e w22 ⟨rfl, hb⟩; refine ⟨_, rfl, ?_⟩; have n0_ := Aside0.mk (blk_below (g := gb260) (o := .cells #[.string a0_0, .int .i64 a0_1, .int .i64 a0_2, .int .i64 a0_3] 29 (0, 0)) (by (with_reducible repeat (first | refine blk_drewN ?_ _ | refine blk_drew ?_ | refine blk_alloc ?_ _)); exact BK260.out) hb); have n1_ := Aside0.mk (below_step (by repeat (first | (with_reducible first | exact HB.out | apply below_alloc | apply pw_below_drewN | apply below_drew1 | refine below_set ?_ GE260.out) | exact HB.out)) hb); clear BK260; clear HB; have BK260 := n0_; have HB := n1_; clear n0_ n1_; (try clear hb); (try clear hb2); (try clear hk); (try clear hi); have hcz23_0 : w22.cell? ⟨gb260, 0, none⟩ = some (.string a0_0) := (blk_cell BK260.out 0).trans rfl; have hcz23_1 : w22.cell? ⟨gb260, 1, none⟩ = some (.int .i64 a0_1) := (blk_cell BK260.out 1).trans rfl; have hcz23_2 : w22.cell? ⟨gb260, 2, none⟩ = some (.int .i64 a0_2) := (blk_cell BK260.out 2).trans rfl; have hcz23_3 : w22.cell? ⟨gb260, 3, none⟩ = some (.int .i64 a0_3) := (blk_cell BK260.out 3).trans rfl; have hfz23_0 := blk_frozen BK260.out 0; have hfz23_1 := blk_frozen BK260.out 1; have hfz23_2 := blk_frozen BK260.out 2; have hfz23_3 := blk_frozen BK260.out 3) | ((with_reducible refine gate_callee (f := 72) rfl ?_); refine goesL_ (some 13) rfl rfl Try.func72 (by kernel_rfl) rfl #[.string a0_0] rfl (by (try simp only [List.map_toArray, List.map_cons, List.map_nil]); first | done | rfl | (simp only [List.length_drop, List.length_take]; rfl)) ?_; (with_reducible refine (riverbankref07_Facing.calls k a0_0 false _ A4.out).mono ?_); rintro e w24 ⟨rfl, hb⟩; refine ⟨_, rfl, ?_⟩; have n0_ := Aside0.mk (blk_below (g := gb260) (o := .cells #[.string a0_0, .int .i64 a0_1, .int .i64 a0_2, .int .i64 a0_3] 29 (0, 0)) (by (with_reducible repeat (first | refine blk_drewN ?_ _ | refine blk_drew ?_ | refine blk_alloc ?_ _)); exact BK260.out) hb); have n1_ := Aside0.mk (below_step (by repeat (first | (with_reducible first | exact HB.out | apply below_alloc | apply pw_below_drewN | apply below_drew1 | refine below_set ?_ GE260.out) | exact HB.out)) hb); clear BK260; clear HB; have BK260 := n0_; have HB := n1_; clear n0_ n1_; (try clear hb); (try clear hb2); (try clear hk); (try clear hi); have hcz25_0 : w24.cell? ⟨gb260, 0, none⟩ = some (.string a0_0) := (blk_cell BK260.out 0).trans rfl; have hcz25_1 : w24.cell? ⟨gb260, 1, none⟩ = some (.int .i64 a0_1) := (blk_cell BK260.out 1).trans rfl; have hcz25_2 : w24.cell? ⟨gb260, 2, none⟩ = some (.int .i64 a0_2) := (blk_cell BK260.out 2).trans rfl; have hcz25_3 : w24.cell? ⟨gb260, 3, none⟩ = some (.int .i64 a0_3) := (blk_cell BK260.out 3).trans rfl; have hfz25_0 := blk_frozen BK260.out 0; have hfz25_1 := blk_frozen BK260.out 1; have hfz25_2 := blk_frozen BK260.out 2; have hfz25_3 := blk_frozen BK260.out 3) | ((with_reducible refine gate_callee (f := 73) rfl ?_); refine goesL_ (some 20) rfl rfl Try.func73 (by kernel_rfl) rfl #[.string a0_0, .int .i64 (wrap64 (1 - a0_1))] rfl (by (try simp only [List.map_toArray, List.map_cons, List.map_nil]); first | done | rfl | (simp only [List.length_drop, List.length_take]; rfl)) ?_; (with_reducible refine (riverbankref07_In.calls k a0_0 (wrap64 (1 - a0_1)) false _ A11.out).mono ?_); rintro e w26 ⟨rfl, hb⟩; refine ⟨_, rfl, ?_⟩; have n0_ := Aside0.mk (blk_below (g := gb260) (o := .cells #[.string a0_0, .int .i64 a0_1, .int .i64 a0_2, .int .i64 a0_3] 29 (0, 0)) (by (with_reducible repeat (first | refine blk_drewN ?_ _ | refine blk_drew ?_ | refine blk_alloc ?_ _)); exact BK260.out) hb); have n1_ := Aside0.mk (below_step (by repeat (first | (with_reducible first | exact HB.out | apply below_alloc | apply pw_below_drewN | apply below_drew1 | refine below_set ?_ GE260.out) | exact HB.out)) hb); clear BK260; clear HB; have BK260 := n0_; have HB := n1_; clear n0_ n1_; (try clear hb); (try clear hb2); (try clear hk); (try clear hi)))
        go_ret
        exact ⟨by first | rfl | (simp [errW_none, errW_some] <;> rfl) | (simp [*, errW_none, errW_some] <;> rfl), by repeat (first | (with_reducible first | exact HB.out | apply below_alloc | apply pw_below_drewN | apply below_drew1 | refine below_set ?_ GE260.out) | exact HB.out)⟩
  · rw [if_neg c3] at H
    have c3b0 : (t261 == 0) = false := beq_eq_false_iff_ne.mpr c3
    have c3b1 : (t261 != 0) = true := bne_iff_ne.mpr c3
    obtain rfl := Option.some.inj H
    go_enter Try.func52, Try.ntmps52
    go_wp2_with (first | ((with_reducible refine gate_dst (N := 1) rfl ?_); refine box_event ?hg (N := 1) ?hd (cs := #[.string a0_0, .int .i64 a0_1, .int .i64 a0_2, .int .i64 a0_3]) (t := 29) ?hr ?_; (case hd => rfl); (case hg => rfl); (case hr => first | (go_simp; done) | (go_simp; rfl)); intro gb260 hg w27 hbox hb; have n0_ := Aside0.mk (below_step (by repeat (first | (with_reducible first | exact HB.out | apply below_alloc | apply pw_below_drewN | apply below_drew1) | exact HB.out)) hb); have n1_ := Aside0.mk (hbox); have n2_ := Aside0.mk ((by rw [hg]; exact (below_size (by repeat (first | (with_reducible first | exact HB.out | apply below_alloc | apply pw_below_drewN | apply below_drew1) | exact HB.out))) : w.heap.size ≤ gb260)); have n3_ := Aside0.mk ((by rw [hg]; exact (below_size (by repeat (first | (with_reducible first | exact HB.out | apply below_alloc | apply pw_below_drewN | apply below_drew1) | exact HB.out))) : w.heap.size ≤ gb260)); clear HB; have HB := n0_; have BK260 := n1_; have GW260 := n2_; have GE260 := n3_; clear n0_ n1_ n2_ n3_; clear hb hbox hg; have hcz28_0 : w27.cell? ⟨gb260, 0, none⟩ = some (.string a0_0) := (blk_cell BK260.out 0).trans rfl; have hcz28_1 : w27.cell? ⟨gb260, 1, none⟩ = some (.int .i64 a0_1) := (blk_cell BK260.out 1).trans rfl; have hcz28_2 : w27.cell? ⟨gb260, 2, none⟩ = some (.int .i64 a0_2) := (blk_cell BK260.out 2).trans rfl; have hcz28_3 : w27.cell? ⟨gb260, 3, none⟩ = some (.int .i64 a0_3) := (blk_cell BK260.out 3).trans rfl; have hfz28_0 := blk_frozen BK260.out 0; have hfz28_1 := blk_frozen BK260.out 1; have hfz28_2 := blk_frozen BK260.out 2; have hfz28_3 := blk_frozen BK260.out 3) | ((with_reducible refine gate_callee (f := 71) rfl ?_); refine goesL_ (some 5) rfl rfl Try.func71 (by kernel_rfl) rfl #[.agg #[.string a0_0, .int .i64 a0_1, .int .i64 a0_2, .int .i64 a0_3]] rfl (by (try simp only [List.map_toArray, List.map_cons, List.map_nil]); first | done | rfl | (simp only [List.length_drop, List.length_take]; rfl)) ?_; (with_reducible refine (riverbankref03_Check.calls k a0_0 a0_1 a0_2 a0_3 t261 _ A2.out).mono ?_); rintro e w29 ⟨rfl, hb⟩; refine ⟨_, rfl, ?_⟩; have n0_ := Aside0.mk (blk_below (g := gb260) (o := .cells #[.string a0_0, .int .i64 a0_1, .int .i64 a0_2, .int .i64 a0_3] 29 (0, 0)) (by (with_reducible repeat (first | refine blk_drewN ?_ _ | refine blk_drew ?_ | refine blk_alloc ?_ _)); exact BK260.out) hb); have n1_ := Aside0.mk (below_step (by repeat (first | (with_reducible first | exact HB.out | apply below_alloc | apply pw_below_drewN | apply below_drew1 | refine below_set ?_ GE260.out) | exact HB.out)) hb); clear BK260; clear HB; have BK260 := n0_; have HB := n1_; clear n0_ n1_; (try clear hb); (try clear hb2); (try clear hk); (try clear hi)))
    go_ret
    exact ⟨by first | rfl | (simp [errW_none, errW_some] <;> rfl) | (simp [*, errW_none, errW_some] <;> rfl), by repeat (first | (with_reducible first | exact HB.out | apply below_alloc | apply pw_below_drewN | apply below_drew1 | refine below_set ?_ GE260.out) | exact HB.out)⟩

/-! ### riverbankref08_Safe: function 55 -/
def riverbankref08_Safe.f (k : Nat) (a0 : ByteArray) (a1 : Int) : Option (Bool) := (riverbankref07_Facing.f k a0).bind fun t264 => (if t264 = true then (some false) else ((riverbankref07_In.f k a0 a1).bind fun t265 => (some (!t265))))
theorem riverbankref08_Safe.mono : ∀ a0 a1 k, LeO (riverbankref08_Safe.f k a0 a1) (riverbankref08_Safe.f (k + 1) a0 a1) := by
  intro a0 a1 k
  unfold riverbankref08_Safe.f
  repeat' first
      | (with_reducible exact riverbankref07_Facing.mono _ _)
      | (with_reducible exact riverbankref07_In.mono _ _ _)
      | (with_reducible exact LeO.refl _)
      | (with_reducible exact LeO.none _)
      | (with_reducible refine LeO.ite ?_ ?_)
      | (with_reducible refine LeO.bind ?_ (fun _ => ?_))
      | exact riverbankref07_Facing.mono _ _
      | exact riverbankref07_In.mono _ _ _
      | exact LeO.none _
      | refine LeO.ite ?_ ?_
      | refine LeO.bind ?_ (fun _ => ?_)
set_option maxHeartbeats 8000000 in
set_option maxRecDepth 100000 in
theorem riverbankref08_Safe.calls (k : Nat) (a0 : ByteArray) (a1 : Int) (r : Bool) (w : World) (h : riverbankref08_Safe.f k a0 a1 = some r) :
    Calls Try.prog 55 #[.string a0, .int .i64 a1] w fun e w' => e = .returned (.bool r) ∧ Below w.heap.size w w' := by
  have HB := Aside0.mk (Below.refl w.heap.size w)
  have H : ((riverbankref07_Facing.f k a0).bind fun t264 => (if t264 = true then (some false) else ((riverbankref07_In.f k a0 a1).bind fun t265 => (some (!t265))))) = some r := h
  clear h
  replace H := Option.bind_eq_some_iff.mp H
  obtain ⟨t264, A30, H⟩ := H
  replace H : (if t264 = true then (some false) else ((riverbankref07_In.f k a0 a1).bind fun t265 => (some (!t265)))) = some r := H
  have A3 := Aside0.mk A30
  clear A30
  by_cases c4 : t264 = true
  · subst c4
    have H1 : (some false) = some r := by rw [if_pos rfl] at H; exact H
    clear H
    have H := H1
    clear H1
    obtain rfl := Option.some.inj H
    go_enter Try.func55, Try.ntmps55
    go_wp2_with (first | ((with_reducible refine gate_callee (f := 72) rfl ?_); refine goesL_ (some 6) rfl rfl Try.func72 (by kernel_rfl) rfl #[.string a0] rfl (by (try simp only [List.map_toArray, List.map_cons, List.map_nil]); first | done | rfl | (simp only [List.length_drop, List.length_take]; rfl)) ?_; (with_reducible refine (riverbankref07_Facing.calls k a0 true _ A3.out).mono ?_); rintro e w5 ⟨rfl, hb⟩; refine ⟨_, rfl, ?_⟩; have n0_ := Aside0.mk (below_step (by repeat (first | (with_reducible first | exact HB.out | apply below_alloc | apply pw_below_drewN | apply below_drew1) | exact HB.out)) hb); clear HB; have HB := n0_; clear n0_; (try clear hb); (try clear hb2); (try clear hk); (try clear hi)))
    go_ret
    exact ⟨by first | rfl | (simp [errW_none, errW_some] <;> rfl) | (simp [*, errW_none, errW_some] <;> rfl), by repeat (first | (with_reducible first | exact HB.out | apply below_alloc | apply pw_below_drewN | apply below_drew1) | exact HB.out)⟩
  · replace c4 := Bool.eq_false_iff.mpr c4
    subst c4
    have H1 : ((riverbankref07_In.f k a0 a1).bind fun t265 => (some (!t265))) = some r := by rw [if_neg (show ¬ (false = true) by decide)] at H; exact H
    clear H
    have H := H1
    clear H1
    replace H := Option.bind_eq_some_iff.mp H
    obtain ⟨t265, A60, H⟩ := H
    replace H : (some (!t265)) = some r := H
    have A6 := Aside0.mk A60
    clear A60
    obtain rfl := Option.some.inj H
    go_enter Try.func55, Try.ntmps55
    go_wp2_with (first | ((with_reducible refine gate_callee (f := 72) rfl ?_); refine goesL_ (some 6) rfl rfl Try.func72 (by kernel_rfl) rfl #[.string a0] rfl (by (try simp only [List.map_toArray, List.map_cons, List.map_nil]); first | done | rfl | (simp only [List.length_drop, List.length_take]; rfl)) ?_; (with_reducible refine (riverbankref07_Facing.calls k a0 false _ A3.out).mono ?_); rintro e w7 ⟨rfl, hb⟩; refine ⟨_, rfl, ?_⟩; have n0_ := Aside0.mk (below_step (by repeat (first | (with_reducible first | exact HB.out | apply below_alloc | apply pw_below_drewN | apply below_drew1) | exact HB.out)) hb); clear HB; have HB := n0_; clear n0_; (try clear hb); (try clear hb2); (try clear hk); (try clear hi)) | (go_at_call 73; (with_reducible refine (riverbankref07_In.calls k a0 a1 t265 _ A6.out).mono ?_); rintro e w8 ⟨rfl, hb⟩; have n0_ := Aside0.mk (below_step (by repeat (first | (with_reducible first | exact HB.out | apply below_alloc | apply pw_below_drewN | apply below_drew1) | exact HB.out)) hb); clear HB; have HB := n0_; clear n0_; (try clear hb); (try clear hb2); (try clear hk); (try clear hi)))
    go_ret
    exact ⟨by first | rfl | (simp [errW_none, errW_some] <;> rfl) | (simp [*, errW_none, errW_some] <;> rfl), by repeat (first | (with_reducible first | exact HB.out | apply below_alloc | apply pw_below_drewN | apply below_drew1) | exact HB.out)⟩

end Go.Proofs.Ytmfbgcimfmgobaa.Print
