/- Merged by a program of this session (wip/gprint/merge.py): what this claim needs of this session's texts, each part as it was. -/
import Derived.Test.YtkbimiimgcklaaaDoorAllPlaceTurn7
import Derived.Test.YtkbimiimgcklaaaDoorAllPlaceTurn8
namespace Go.Proofs.YtkbimiimgcklaaaDoor.Print
end Go.Proofs.YtkbimiimgcklaaaDoor.Print

-- of YtkbimiimgcklaaaDoorPrint36
-- Written by a program of this session (wip/gprint/gprint.py) over the kit's print; the parts marked GIVEN by hand.
namespace Go.Proofs.YtkbimiimgcklaaaDoor.Print
open Go.RowKit Go.Proofs.YtkbimiimgcklaaaDoorW.PrintWords Go.Proofs.YtkbimiimgcklaaaDoorW.PrintLast Go.Proofs.YtkbimiimgcklaaaDoorW.PrintMore
attribute [local go_sem] max2_int min2_int max_two min_two max_three min_three max_four min_four   -- for this text's walks alone
set_option linter.unusedVariables false
set_option linter.unusedSimpArgs false

/-! ### riverbankref02_Find: function 57 -/
def riverbankref02_Find.l0 : Nat → ByteArray → Int → List Int → Int → Option (List Int)
  | 0, _, _, _, _ => none
  | k + 1, x0, x1, x5, x6 => if x6 < (x0.size : Int) then (if 0 ≤ x6 then (if (bt x0 x6) = x1 then (if x5.length < 17592186044416 then (riverbankref02_Find.l0 k x0 x1 (x5 ++ [x6]) (wrap64 (x6 + 1))) else (none)) else (riverbankref02_Find.l0 k x0 x1 x5 (wrap64 (x6 + 1)))) else (none)) else (some x5)
def riverbankref02_Find.f (k : Nat) (a0 : ByteArray) (a1 : Int) : Option (List Int) := (riverbankref02_Is.f k a0).bind fun t408 => (if t408 = true then (riverbankref02_Find.l0 k a0 a1 ([] : List Int) 0) else (some ([] : List Int)))
theorem riverbankref02_Find.mono_l : ∀ k, (∀ y0 y1 y2 y3, LeO (riverbankref02_Find.l0 k y0 y1 y2 y3) (riverbankref02_Find.l0 (k + 1) y0 y1 y2 y3))
  | 0 => fun _ _ _ _ r h => by simp [riverbankref02_Find.l0] at h
  | k + 1 => by
    have ih0 := riverbankref02_Find.mono_l k
    · intro y0 y1 y2 y3
      unfold riverbankref02_Find.l0
      repeat' first
      | (with_reducible exact ih0 _ _ _ _)
      | (with_reducible exact riverbankref02_Is.mono _ _)
      | (with_reducible exact LeO.refl _)
      | (with_reducible exact LeO.none _)
      | (with_reducible refine LeO.ite ?_ ?_)
      | (with_reducible refine LeO.bind ?_ (fun _ => ?_))
      | exact ih0 _ _ _ _
      | exact riverbankref02_Is.mono _ _
      | exact LeO.none _
      | refine LeO.ite ?_ ?_
      | refine LeO.bind ?_ (fun _ => ?_)
theorem riverbankref02_Find.mono : ∀ a0 a1 k, LeO (riverbankref02_Find.f k a0 a1) (riverbankref02_Find.f (k + 1) a0 a1) := by
  intro a0 a1 k
  have ih0 := riverbankref02_Find.mono_l k
  unfold riverbankref02_Find.f
  repeat' first
      | (with_reducible exact ih0 _ _ _ _)
      | (with_reducible exact riverbankref02_Is.mono _ _)
      | (with_reducible exact LeO.refl _)
      | (with_reducible exact LeO.none _)
      | (with_reducible refine LeO.ite ?_ ?_)
      | (with_reducible refine LeO.bind ?_ (fun _ => ?_))
      | exact ih0 _ _ _ _
      | exact riverbankref02_Is.mono _ _
      | exact LeO.none _
      | refine LeO.ite ?_ ?_
      | refine LeO.bind ?_ (fun _ => ?_)
set_option maxHeartbeats 8000000 in
set_option maxRecDepth 100000 in
theorem riverbankref02_Find.calls (k : Nat) (a0 : ByteArray) (a1 : Int) (r : List Int) (w : World) (h : riverbankref02_Find.f k a0 a1 = some r) :
    Calls Tryd.prog 57 #[.string a0, .int .u8 a1] w fun e w' => ∃ v0_ : Value, e = .returned (v0_) ∧ Kd.R (Kd.int .i64) 3 w' w.heap.size (fun _ => True) v0_ r ∧ Below w.heap.size w w' := by
  have HB := Aside0.mk (Below.refl w.heap.size w)
  have H : ((riverbankref02_Is.f k a0).bind fun t408 => (if t408 = true then (riverbankref02_Find.l0 k a0 a1 ([] : List Int) 0) else (some ([] : List Int)))) = some r := h
  clear h
  replace H := Option.bind_eq_some_iff.mp H
  obtain ⟨t408, A30, H⟩ := H
  replace H : (if t408 = true then (riverbankref02_Find.l0 k a0 a1 ([] : List Int) 0) else (some ([] : List Int))) = some r := H
  have A3 := Aside0.mk A30
  clear A30
  by_cases c4 : t408 = true
  · subst c4
    have H1 : (riverbankref02_Find.l0 k a0 a1 ([] : List Int) 0) = some r := by rw [if_pos rfl] at H; exact H
    clear H
    have H := H1
    clear H1
    have H' := Aside0.mk H
    clear H
    go_enter Tryd.func57, Tryd.ntmps57
    go_wp2_with (first | ((with_reducible refine gate_callee (f := 51) rfl ?_); refine goesL_ (some 8) rfl rfl Tryd.func51 (by kernel_rfl) rfl #[.string a0] rfl (by (try simp only [List.map_toArray, List.map_cons, List.map_nil]); first | done | rfl | (simp only [List.length_drop, List.length_take]; rfl)) ?_; (with_reducible refine (riverbankref02_Is.calls k a0 true _ A3.out).mono ?_); rintro e w' ⟨rfl, ⟨nd, rfl⟩⟩; refine ⟨_, rfl, ?_⟩))
    go_loopg [5, 6] k (fun kq v5 v6 w' => ∃ (x5_1 : List Int) (x6_1 : Int), v6 = .int .i64 x6_1 ∧ Aside0 (riverbankref02_Find.l0 kq a0 a1 x5_1 x6_1 = some r) ∧ Aside0 (kq ≤ k) ∧ Aside0 (Kd.R (Kd.int .i64) 3 w' w.heap.size (fun _ => True) v5 x5_1) ∧ Aside0 (Below w.heap.size w w'))
    case atStart => exact ⟨(([] : List Int)), (0), (by first | rfl | (simp; done) | (simp [*]; done)), H', ⟨Nat.le_refl _⟩, ⟨by first | exact Kd.R_nil _ _ _ _ _ | exact Kd.N_nil _ _ _ _ _ | exact Kd.V_nil _ _ _ _ _ | exact Kd.Q_nil _ _ _ _ _ | exact Kd.S_nil _ _ _ _ _⟩, ⟨by repeat (first | (with_reducible first | exact HB.out | apply below_alloc | apply pw_below_drewN | apply below_drew1) | exact HB.out)⟩⟩
    case round =>
      clear H'
      try clear p2
      try clear c4
      obtain ⟨x5_1, x6_1, rfl, HA, HK1, HO_5, HB⟩ := hrel
      cases gk with
      | zero => exact absurd HA.out (by simp [riverbankref02_Find.l0])
      | succ k1 =>
        have H := HA.out
        clear HA
        simp only [riverbankref02_Find.l0] at H
        by_cases c5 : x6_1 < (a0.size : Int)
        · rw [if_pos c5] at H
          have c5b0 : decide (x6_1 < (a0.size : Int)) = true := decide_eq_true c5
          clear c5
          by_cases c6 : 0 ≤ x6_1
          · rw [if_pos c6] at H
            have c6b0 : decide (0 ≤ x6_1) = true := decide_eq_true c6
            clear c6
            by_cases c8 : (bt a0 x6_1) = a1
            · rw [if_pos c8] at H
              have c8b0 : ((bt a0 x6_1) == a1) = true := beq_iff_eq.mpr c8
              have c8b1 : ((bt a0 x6_1) != a1) = false := bne_eq_false_iff_eq.mpr c8
              clear c8
              by_cases c9 : x5_1.length < 17592186044416
              · rw [if_pos c9] at H
                have LMc9 := Aside0.mk c9
                clear c9
                obtain ⟨y409, hy409⟩ : ∃ y_ : List Int, y_ = (x5_1 ++ [x6_1]) := ⟨_, rfl⟩
                replace H : (riverbankref02_Find.l0 k1 a0 a1 y409 (wrap64 (x6_1 + 1))) = some r := by first | (rw [hy409]; with_reducible exact H) | (have H2_ := (Option.bind_some _ _).symm.trans H; rw [hy409]; with_reducible exact H2_) | (have H2_ := (Option.bind_some _ _).symm.trans H; with_reducible exact H2_) | with_reducible exact H | (rw [hy409]; exact H) | exact H
                have Ny409 := Aside0.mk hy409
                clear hy409
                have H' := Aside0.mk H
                clear H
                have p7 : 0 ≤ (x6_1 : Int) := of_decide_eq_true (by first | (with_reducible assumption) | assumption)
                have q7 : x6_1 < (a0.size : Int) := of_decide_eq_true (by first | (with_reducible assumption) | assumption)
                have hx7 := bt_at a0 x6_1
                replace p7 := eq_true p7
                replace q7 := eq_true q7
                go_wp2_with (first | ((with_reducible refine gate_builtin (b := .append) (xs := #[.tmp 21, .tmp 23]) rfl ?_); at_builtin; refine Kd.R_append (Kd.int .i64) (w0 := w) w.heap.size rfl (.tmp 21) (.tmp 23) 33 3 (.int .i64 0) 8 rfl Tryd.underlying33 info3 rfl (by decide) (by omega) u5 x5_1 x6_1 [.int .i64 x6_1] (fun _ => True) (fun _ => False) rfl rfl ?aP (fun _ hk => hk.elim) ?aF ?aO ?aB ?aS ?aL ?_; (case aP => exact rfl); (case aB => exact (by repeat (first | (with_reducible first | exact HB.out | apply below_alloc | apply pw_below_drewN | apply below_drew1) | exact HB.out))); (case aF => exact (fun _ _ => trivial)); (case aO => exact (by (with_reducible repeat (first | apply Kd.R_alloc | apply Kd.R_drewN | apply Kd.R_drew)); exact HO_5.out)); (case aS => exact (below_size (by repeat (first | (with_reducible first | exact HB.out | apply below_alloc | apply pw_below_drewN | apply below_drew1) | exact HB.out)))); (case aL => have := LMc9.out; omega); intro v410 w10 ho hb hg hat; rw [← Ny409.out] at ho; have n0_ := Aside0.mk (hb); have n1_ := Aside0.mk (ho); clear HB; clear HO_5; have HB := n0_; have HO411 := n1_; clear n0_ n1_; clear ho hb hg hat))
                go_roundg k1
                case measure => have := HK1.out; omega
                case rel => exact ⟨(y409), (wrap64 (x6_1 + 1)), (by first | rfl | (simp; done) | (simp [*]; done)), H', ⟨by have := HK1.out; omega⟩, ⟨by (with_reducible repeat (first | apply Kd.R_alloc | apply Kd.R_drewN | apply Kd.R_drew)); exact HO411.out⟩, ⟨by repeat (first | (with_reducible first | exact HB.out | apply below_alloc | apply pw_below_drewN | apply below_drew1) | exact HB.out)⟩⟩
              · rw [if_neg c9] at H
                exact absurd H (by simp)
            · rw [if_neg c8] at H
              have c8b0 : ((bt a0 x6_1) == a1) = false := beq_eq_false_iff_ne.mpr c8
              have c8b1 : ((bt a0 x6_1) != a1) = true := bne_iff_ne.mpr c8
              have H' := Aside0.mk H
              clear H
              have p7 : 0 ≤ (x6_1 : Int) := of_decide_eq_true (by first | (with_reducible assumption) | assumption)
              have q7 : x6_1 < (a0.size : Int) := of_decide_eq_true (by first | (with_reducible assumption) | assumption)
              have hx7 := bt_at a0 x6_1
              replace p7 := eq_true p7
              replace q7 := eq_true q7
              go_wp2
              go_roundg k1
              case measure => have := HK1.out; omega
              case rel => exact ⟨(x5_1), (wrap64 (x6_1 + 1)), (by first | rfl | (simp; done) | (simp [*]; done)), H', ⟨by have := HK1.out; omega⟩, ⟨by (with_reducible repeat (first | apply Kd.R_alloc | apply Kd.R_drewN | apply Kd.R_drew)); exact HO_5.out⟩, ⟨by repeat (first | (with_reducible first | exact HB.out | apply below_alloc | apply pw_below_drewN | apply below_drew1) | exact HB.out)⟩⟩
          · rw [if_neg c6] at H
            exact absurd H (by simp)
        · rw [if_neg c5] at H
          have c5b0 : decide (x6_1 < (a0.size : Int)) = false := decide_eq_false c5
          clear c5
          obtain rfl := Option.some.inj H
          go_wp2
          go_ret
          exact ⟨_, by first | rfl | (simp [errW_none, errW_some] <;> rfl) | (simp [*, errW_none, errW_some] <;> rfl), by (with_reducible repeat (first | apply Kd.R_alloc | apply Kd.R_drewN | apply Kd.R_drew)); exact HO_5.out, by repeat (first | (with_reducible first | exact HB.out | apply below_alloc | apply pw_below_drewN | apply below_drew1) | exact HB.out)⟩
  · replace c4 := Bool.eq_false_iff.mpr c4
    subst c4
    have H1 : (some ([] : List Int)) = some r := by rw [if_neg (show ¬ (false = true) by decide)] at H; exact H
    clear H
    have H := H1
    clear H1
    obtain rfl := Option.some.inj H
    go_enter Tryd.func57, Tryd.ntmps57
    go_wp2_with (first | ((with_reducible refine gate_callee (f := 51) rfl ?_); refine goesL_ (some 8) rfl rfl Tryd.func51 (by kernel_rfl) rfl #[.string a0] rfl (by (try simp only [List.map_toArray, List.map_cons, List.map_nil]); first | done | rfl | (simp only [List.length_drop, List.length_take]; rfl)) ?_; (with_reducible refine (riverbankref02_Is.calls k a0 false _ A3.out).mono ?_); rintro e w' ⟨rfl, ⟨nd, rfl⟩⟩; refine ⟨_, rfl, ?_⟩))
    go_ret
    exact ⟨_, by first | rfl | (simp [errW_none, errW_some] <;> rfl) | (simp [*, errW_none, errW_some] <;> rfl), by first | exact Kd.R_nil _ _ _ _ _ | exact Kd.N_nil _ _ _ _ _ | exact Kd.V_nil _ _ _ _ _ | exact Kd.Q_nil _ _ _ _ _ | exact Kd.S_nil _ _ _ _ _, by repeat (first | (with_reducible first | exact HB.out | apply below_alloc | apply pw_below_drewN | apply below_drew1) | exact HB.out)⟩

/-! ### riverbankref02_Pieces: function 59 -/
mutual
def riverbankref02_Pieces.j0 : Nat → ByteArray → Int → List Int → Bool → Option (List Int)
  | 0, _, _, _, _ => none
  | k + 1, x0, x1, x5, x13 => if x13 = true then (some ([] : List Int)) else (riverbankref02_Pieces.l0 k x0 x1 x5 0)
def riverbankref02_Pieces.l0 : Nat → ByteArray → Int → List Int → Int → Option (List Int)
  | 0, _, _, _, _ => none
  | k + 1, x0, x1, x5, x6 => if x6 < 90 then (if 0 ≤ x6 then (if x6 < (x0.size : Int) then ((riverbankref02_Side.f k (bt x0 x6)).bind fun t413 => (if t413 = x1 then (if x5.length < 17592186044416 then (riverbankref02_Pieces.l0 k x0 x1 (x5 ++ [x6]) (wrap64 (x6 + 1))) else (none)) else (riverbankref02_Pieces.l0 k x0 x1 x5 (wrap64 (x6 + 1))))) else (none)) else (none)) else (some x5)
end
def riverbankref02_Pieces.f (k : Nat) (a0 : ByteArray) (a1 : Int) : Option (List Int) := (riverbankref02_Is.f k a0).bind fun t412 => (if t412 = true then (riverbankref02_Pieces.j0 k a0 a1 ([] : List Int) (decide (a1 < 0))) else (riverbankref02_Pieces.j0 k a0 a1 ([] : List Int) true))
theorem riverbankref02_Pieces.mono_l : ∀ k, (∀ y0 y1 y2 y3, LeO (riverbankref02_Pieces.j0 k y0 y1 y2 y3) (riverbankref02_Pieces.j0 (k + 1) y0 y1 y2 y3)) ∧ (∀ y0 y1 y2 y3, LeO (riverbankref02_Pieces.l0 k y0 y1 y2 y3) (riverbankref02_Pieces.l0 (k + 1) y0 y1 y2 y3))
  | 0 => ⟨fun _ _ _ _ r h => by simp [riverbankref02_Pieces.j0] at h, fun _ _ _ _ r h => by simp [riverbankref02_Pieces.l0] at h⟩
  | k + 1 => by
    obtain ⟨ih0, ih1⟩ := riverbankref02_Pieces.mono_l k
    refine ⟨?_, ?_⟩
    · intro y0 y1 y2 y3
      unfold riverbankref02_Pieces.j0
      repeat' first
      | (with_reducible exact ih0 _ _ _ _)
      | (with_reducible exact ih1 _ _ _ _)
      | (with_reducible exact riverbankref02_Is.mono _ _)
      | (with_reducible exact riverbankref02_Side.mono _ _)
      | (with_reducible exact LeO.refl _)
      | (with_reducible exact LeO.none _)
      | (with_reducible refine LeO.ite ?_ ?_)
      | (with_reducible refine LeO.bind ?_ (fun _ => ?_))
      | exact ih0 _ _ _ _
      | exact ih1 _ _ _ _
      | exact riverbankref02_Is.mono _ _
      | exact riverbankref02_Side.mono _ _
      | exact LeO.none _
      | refine LeO.ite ?_ ?_
      | refine LeO.bind ?_ (fun _ => ?_)
    · intro y0 y1 y2 y3
      unfold riverbankref02_Pieces.l0
      repeat' first
      | (with_reducible exact ih0 _ _ _ _)
      | (with_reducible exact ih1 _ _ _ _)
      | (with_reducible exact riverbankref02_Is.mono _ _)
      | (with_reducible exact riverbankref02_Side.mono _ _)
      | (with_reducible exact LeO.refl _)
      | (with_reducible exact LeO.none _)
      | (with_reducible refine LeO.ite ?_ ?_)
      | (with_reducible refine LeO.bind ?_ (fun _ => ?_))
      | exact ih0 _ _ _ _
      | exact ih1 _ _ _ _
      | exact riverbankref02_Is.mono _ _
      | exact riverbankref02_Side.mono _ _
      | exact LeO.none _
      | refine LeO.ite ?_ ?_
      | refine LeO.bind ?_ (fun _ => ?_)
theorem riverbankref02_Pieces.mono : ∀ a0 a1 k, LeO (riverbankref02_Pieces.f k a0 a1) (riverbankref02_Pieces.f (k + 1) a0 a1) := by
  intro a0 a1 k
  obtain ⟨ih0, ih1⟩ := riverbankref02_Pieces.mono_l k
  unfold riverbankref02_Pieces.f
  repeat' first
      | (with_reducible exact ih0 _ _ _ _)
      | (with_reducible exact ih1 _ _ _ _)
      | (with_reducible exact riverbankref02_Is.mono _ _)
      | (with_reducible exact riverbankref02_Side.mono _ _)
      | (with_reducible exact LeO.refl _)
      | (with_reducible exact LeO.none _)
      | (with_reducible refine LeO.ite ?_ ?_)
      | (with_reducible refine LeO.bind ?_ (fun _ => ?_))
      | exact ih0 _ _ _ _
      | exact ih1 _ _ _ _
      | exact riverbankref02_Is.mono _ _
      | exact riverbankref02_Side.mono _ _
      | exact LeO.none _
      | refine LeO.ite ?_ ?_
      | refine LeO.bind ?_ (fun _ => ?_)
set_option maxHeartbeats 8000000 in
set_option maxRecDepth 100000 in
theorem riverbankref02_Pieces.calls (k : Nat) (a0 : ByteArray) (a1 : Int) (r : List Int) (w : World) (h : riverbankref02_Pieces.f k a0 a1 = some r) :
    Calls Tryd.prog 59 #[.string a0, .int .i64 a1] w fun e w' => ∃ v0_ : Value, e = .returned (v0_) ∧ Kd.R (Kd.int .i64) 3 w' w.heap.size (fun _ => True) v0_ r ∧ Below w.heap.size w w' := by
  have HB := Aside0.mk (Below.refl w.heap.size w)
  have H : ((riverbankref02_Is.f k a0).bind fun t412 => (if t412 = true then (riverbankref02_Pieces.j0 k a0 a1 ([] : List Int) (decide (a1 < 0))) else (riverbankref02_Pieces.j0 k a0 a1 ([] : List Int) true))) = some r := h
  clear h
  have HC3 := Aside0.mk H
  clear H
  go_enter Tryd.func59, Tryd.ntmps59
  go_upto_region 2 with (fail)
  go_cut [13] (fun v13 wc => ∃ (kq : Nat) (x13_2 : Bool), v13 = .bool x13_2 ∧ Aside0 (riverbankref02_Pieces.j0 kq a0 a1 ([] : List Int) x13_2 = some r) ∧ Aside0 (kq ≤ k) ∧ Aside0 (Kd.R (Kd.int .i64) 3 wc w.heap.size (fun _ => True) (.slice none 0 0) ([] : List Int)) ∧ Aside0 (Below w.heap.size w wc))
  case first =>
    have H := HC3.out
    clear HC3
    replace H := Option.bind_eq_some_iff.mp H
    obtain ⟨t412, A40, H⟩ := H
    replace H : (if t412 = true then (riverbankref02_Pieces.j0 k a0 a1 ([] : List Int) (decide (a1 < 0))) else (riverbankref02_Pieces.j0 k a0 a1 ([] : List Int) true)) = some r := H
    have A4 := Aside0.mk A40
    clear A40
    by_cases c5 : t412 = true
    · subst c5
      have H1 : (riverbankref02_Pieces.j0 k a0 a1 ([] : List Int) (decide (a1 < 0))) = some r := by rw [if_pos rfl] at H; exact H
      clear H
      have H := H1
      clear H1
      have H' := Aside0.mk H
      clear H
      go_wp2_with (first | ((with_reducible refine gate_callee (f := 51) rfl ?_); refine goesL_ (some 8) rfl rfl Tryd.func51 (by kernel_rfl) rfl #[.string a0] rfl (by (try simp only [List.map_toArray, List.map_cons, List.map_nil]); first | done | rfl | (simp only [List.length_drop, List.length_take]; rfl)) ?_; (with_reducible refine (riverbankref02_Is.calls k a0 true _ A4.out).mono ?_); rintro e w' ⟨rfl, ⟨nd, rfl⟩⟩; refine ⟨_, rfl, ?_⟩))
      go_meet
      case rel => exact ⟨_, (decide (a1 < 0)), (by first | rfl | (simp; done) | (simp [*]; done)), H', ⟨by first | omega | exact Nat.le_refl _⟩, ⟨by first | exact Kd.R_nil _ _ _ _ _ | exact Kd.N_nil _ _ _ _ _ | exact Kd.V_nil _ _ _ _ _ | exact Kd.Q_nil _ _ _ _ _ | exact Kd.S_nil _ _ _ _ _⟩, ⟨by repeat (first | (with_reducible first | exact HB.out | apply below_alloc | apply pw_below_drewN | apply below_drew1) | exact HB.out)⟩⟩
    · replace c5 := Bool.eq_false_iff.mpr c5
      subst c5
      have H1 : (riverbankref02_Pieces.j0 k a0 a1 ([] : List Int) true) = some r := by rw [if_neg (show ¬ (false = true) by decide)] at H; exact H
      clear H
      have H := H1
      clear H1
      have H' := Aside0.mk H
      clear H
      go_wp2_with (first | ((with_reducible refine gate_callee (f := 51) rfl ?_); refine goesL_ (some 8) rfl rfl Tryd.func51 (by kernel_rfl) rfl #[.string a0] rfl (by (try simp only [List.map_toArray, List.map_cons, List.map_nil]); first | done | rfl | (simp only [List.length_drop, List.length_take]; rfl)) ?_; (with_reducible refine (riverbankref02_Is.calls k a0 false _ A4.out).mono ?_); rintro e w' ⟨rfl, ⟨nd, rfl⟩⟩; refine ⟨_, rfl, ?_⟩))
      go_meet
      case rel => exact ⟨_, (true), (by first | rfl | (simp; done) | (simp [*]; done)), H', ⟨by first | omega | exact Nat.le_refl _⟩, ⟨by first | exact Kd.R_nil _ _ _ _ _ | exact Kd.N_nil _ _ _ _ _ | exact Kd.V_nil _ _ _ _ _ | exact Kd.Q_nil _ _ _ _ _ | exact Kd.S_nil _ _ _ _ _⟩, ⟨by repeat (first | (with_reducible first | exact HB.out | apply below_alloc | apply pw_below_drewN | apply below_drew1) | exact HB.out)⟩⟩
  case rest =>
    clear HC3
    try clear p2
    try clear c5
    obtain ⟨kq, x13_2, rfl, HA, HJ2, HO_5, HB⟩ := hcut
    cases kq with
    | zero => exact absurd HA.out (by simp [riverbankref02_Pieces.j0])
    | succ kj2 =>
      have H := HA.out
      clear HA
      simp only [riverbankref02_Pieces.j0] at H
      by_cases c6 : x13_2 = true
      · subst c6
        have H1 : (some ([] : List Int)) = some r := by rw [if_pos rfl] at H; exact H
        clear H
        have H := H1
        clear H1
        obtain rfl := Option.some.inj H
        go_wp2
        go_ret
        exact ⟨_, by first | rfl | (simp [errW_none, errW_some] <;> rfl) | (simp [*, errW_none, errW_some] <;> rfl), by first | exact Kd.R_nil _ _ _ _ _ | exact Kd.N_nil _ _ _ _ _ | exact Kd.V_nil _ _ _ _ _ | exact Kd.Q_nil _ _ _ _ _ | exact Kd.S_nil _ _ _ _ _, by repeat (first | (with_reducible first | exact HB.out | apply below_alloc | apply pw_below_drewN | apply below_drew1) | exact HB.out)⟩
      · replace c6 := Bool.eq_false_iff.mpr c6
        subst c6
        have H1 : (riverbankref02_Pieces.l0 kj2 a0 a1 ([] : List Int) 0) = some r := by rw [if_neg (show ¬ (false = true) by decide)] at H; exact H
        clear H
        have H := H1
        clear H1
        have H' := Aside0.mk H
        clear H
        go_wp2
        go_loopg [5, 6] kj2 (fun kq v5 v6 w' => ∃ (x5_2 : List Int) (x6_2 : Int), v6 = .int .i64 x6_2 ∧ Aside0 (riverbankref02_Pieces.l0 kq a0 a1 x5_2 x6_2 = some r) ∧ Aside0 (kq ≤ kj2) ∧ Aside0 (Kd.R (Kd.int .i64) 3 w' w.heap.size (fun _ => True) v5 x5_2) ∧ Aside0 (Below w.heap.size w w'))
        case atStart => exact ⟨(([] : List Int)), (0), (by first | rfl | (simp; done) | (simp [*]; done)), H', ⟨Nat.le_refl _⟩, ⟨by (with_reducible repeat (first | apply Kd.R_alloc | apply Kd.R_drewN | apply Kd.R_drew)); exact HO_5.out⟩, ⟨by repeat (first | (with_reducible first | exact HB.out | apply below_alloc | apply pw_below_drewN | apply below_drew1) | exact HB.out)⟩⟩
        case round =>
          clear H'
          try clear p2
          try clear c5
          try clear c6
          try clear p2
          obtain ⟨x5_2, x6_2, rfl, HA, HK2, HO_5, HB⟩ := hrel
          cases gk with
          | zero => exact absurd HA.out (by simp [riverbankref02_Pieces.l0])
          | succ k2 =>
            have H := HA.out
            clear HA
            simp only [riverbankref02_Pieces.l0] at H
            by_cases c7 : x6_2 < 90
            · rw [if_pos c7] at H
              have c7b0 : decide (x6_2 < 90) = true := decide_eq_true c7
              clear c7
              by_cases c8 : 0 ≤ x6_2
              · rw [if_pos c8] at H
                have c8b0 : decide (0 ≤ x6_2) = true := decide_eq_true c8
                clear c8
                by_cases c9 : x6_2 < (a0.size : Int)
                · rw [if_pos c9] at H
                  have c9b0 : decide (x6_2 < (a0.size : Int)) = true := decide_eq_true c9
                  clear c9
                  replace H := Option.bind_eq_some_iff.mp H
                  obtain ⟨t413, A110, H⟩ := H
                  replace H : (if t413 = a1 then (if x5_2.length < 17592186044416 then (riverbankref02_Pieces.l0 k2 a0 a1 (x5_2 ++ [x6_2]) (wrap64 (x6_2 + 1))) else (none)) else (riverbankref02_Pieces.l0 k2 a0 a1 x5_2 (wrap64 (x6_2 + 1)))) = some r := H
                  have A11 := Aside0.mk A110
                  clear A110
                  by_cases c12 : t413 = a1
                  · rw [if_pos c12] at H
                    have c12b0 : (t413 == a1) = true := beq_iff_eq.mpr c12
                    have c12b1 : (t413 != a1) = false := bne_eq_false_iff_eq.mpr c12
                    clear c12
                    by_cases c13 : x5_2.length < 17592186044416
                    · rw [if_pos c13] at H
                      have LMc13 := Aside0.mk c13
                      clear c13
                      obtain ⟨y414, hy414⟩ : ∃ y_ : List Int, y_ = (x5_2 ++ [x6_2]) := ⟨_, rfl⟩
                      replace H : (riverbankref02_Pieces.l0 k2 a0 a1 y414 (wrap64 (x6_2 + 1))) = some r := by first | (rw [hy414]; with_reducible exact H) | (have H2_ := (Option.bind_some _ _).symm.trans H; rw [hy414]; with_reducible exact H2_) | (have H2_ := (Option.bind_some _ _).symm.trans H; with_reducible exact H2_) | with_reducible exact H | (rw [hy414]; exact H) | exact H
                      have Ny414 := Aside0.mk hy414
                      clear hy414
                      have H' := Aside0.mk H
                      clear H
                      have p10 : 0 ≤ (x6_2 : Int) := of_decide_eq_true (by first | (with_reducible assumption) | assumption)
                      have q10 : x6_2 < (a0.size : Int) := of_decide_eq_true (by first | (with_reducible assumption) | assumption)
                      have hx10 := bt_at a0 x6_2
                      replace p10 := eq_true p10
                      replace q10 := eq_true q10
                      go_wp2_with (first | ((with_reducible refine gate_callee (f := 49) rfl ?_); refine goesL_ (some 21) rfl rfl Tryd.func49 (by kernel_rfl) rfl #[.int .u8 (bt a0 x6_2)] rfl (by (try simp only [List.map_toArray, List.map_cons, List.map_nil]); first | done | rfl | (simp only [List.length_drop, List.length_take]; rfl)) ?_; (with_reducible refine (riverbankref02_Side.calls k2 (bt a0 x6_2) t413 _ A11.out).mono ?_); rintro e w' ⟨rfl, ⟨nd, rfl⟩⟩; refine ⟨_, rfl, ?_⟩) | ((with_reducible refine gate_builtin (b := .append) (xs := #[.tmp 24, .tmp 26]) rfl ?_); at_builtin; refine Kd.R_append (Kd.int .i64) (w0 := w) w.heap.size rfl (.tmp 24) (.tmp 26) 33 3 (.int .i64 0) 8 rfl Tryd.underlying33 info3 rfl (by decide) (by omega) u5 x5_2 x6_2 [.int .i64 x6_2] (fun _ => True) (fun _ => False) rfl rfl ?aP (fun _ hk => hk.elim) ?aF ?aO ?aB ?aS ?aL ?_; (case aP => exact rfl); (case aB => exact (by repeat (first | (with_reducible first | exact HB.out | apply below_alloc | apply pw_below_drewN | apply below_drew1) | exact HB.out))); (case aF => exact (fun _ _ => trivial)); (case aO => exact (by (with_reducible repeat (first | apply Kd.R_alloc | apply Kd.R_drewN | apply Kd.R_drew)); exact HO_5.out)); (case aS => exact (below_size (by repeat (first | (with_reducible first | exact HB.out | apply below_alloc | apply pw_below_drewN | apply below_drew1) | exact HB.out)))); (case aL => have := LMc13.out; omega); intro v415 w14 ho hb hg hat; rw [← Ny414.out] at ho; have n0_ := Aside0.mk (hb); have n1_ := Aside0.mk (ho); clear HB; clear HO_5; have HB := n0_; have HO416 := n1_; clear n0_ n1_; clear ho hb hg hat))
                      go_roundg k2
                      case measure => have := HJ2.out; have := HK2.out; omega
                      case rel => exact ⟨(y414), (wrap64 (x6_2 + 1)), (by first | rfl | (simp; done) | (simp [*]; done)), H', ⟨by have := HJ2.out; have := HK2.out; omega⟩, ⟨by (with_reducible repeat (first | apply Kd.R_alloc | apply Kd.R_drewN | apply Kd.R_drew)); exact HO416.out⟩, ⟨by repeat (first | (with_reducible first | exact HB.out | apply below_alloc | apply pw_below_drewN | apply below_drew1) | exact HB.out)⟩⟩
                    · rw [if_neg c13] at H
                      exact absurd H (by simp)
                  · rw [if_neg c12] at H
                    have c12b0 : (t413 == a1) = false := beq_eq_false_iff_ne.mpr c12
                    have c12b1 : (t413 != a1) = true := bne_iff_ne.mpr c12
                    have H' := Aside0.mk H
                    clear H
                    have p10 : 0 ≤ (x6_2 : Int) := of_decide_eq_true (by first | (with_reducible assumption) | assumption)
                    have q10 : x6_2 < (a0.size : Int) := of_decide_eq_true (by first | (with_reducible assumption) | assumption)
                    have hx10 := bt_at a0 x6_2
                    replace p10 := eq_true p10
                    replace q10 := eq_true q10
                    go_wp2_with (first | ((with_reducible refine gate_callee (f := 49) rfl ?_); refine goesL_ (some 21) rfl rfl Tryd.func49 (by kernel_rfl) rfl #[.int .u8 (bt a0 x6_2)] rfl (by (try simp only [List.map_toArray, List.map_cons, List.map_nil]); first | done | rfl | (simp only [List.length_drop, List.length_take]; rfl)) ?_; (with_reducible refine (riverbankref02_Side.calls k2 (bt a0 x6_2) t413 _ A11.out).mono ?_); rintro e w' ⟨rfl, ⟨nd, rfl⟩⟩; refine ⟨_, rfl, ?_⟩))
                    go_roundg k2
                    case measure => have := HJ2.out; have := HK2.out; omega
                    case rel => exact ⟨(x5_2), (wrap64 (x6_2 + 1)), (by first | rfl | (simp; done) | (simp [*]; done)), H', ⟨by have := HJ2.out; have := HK2.out; omega⟩, ⟨by (with_reducible repeat (first | apply Kd.R_alloc | apply Kd.R_drewN | apply Kd.R_drew)); exact HO_5.out⟩, ⟨by repeat (first | (with_reducible first | exact HB.out | apply below_alloc | apply pw_below_drewN | apply below_drew1) | exact HB.out)⟩⟩
                · rw [if_neg c9] at H
                  exact absurd H (by simp)
              · rw [if_neg c8] at H
                exact absurd H (by simp)
            · rw [if_neg c7] at H
              have c7b0 : decide (x6_2 < 90) = false := decide_eq_false c7
              clear c7
              obtain rfl := Option.some.inj H
              go_wp2
              go_ret
              exact ⟨_, by first | rfl | (simp [errW_none, errW_some] <;> rfl) | (simp [*, errW_none, errW_some] <;> rfl), by (with_reducible repeat (first | apply Kd.R_alloc | apply Kd.R_drewN | apply Kd.R_drew)); exact HO_5.out, by repeat (first | (with_reducible first | exact HB.out | apply below_alloc | apply pw_below_drewN | apply below_drew1) | exact HB.out)⟩

/-! ### riverbankref02_Kind: function 64 -/
def riverbankref02_Kind.f (k : Nat) (a0 : Int) : Option (Int) := (riverbankref02_Side.f k a0).bind fun t417 => (if t417 = 0 then (some a0) else (if t417 = 1 then (some ((((a0 - 97) % 256) + 65) % 256)) else (some 0)))
theorem riverbankref02_Kind.mono : ∀ a0 k, LeO (riverbankref02_Kind.f k a0) (riverbankref02_Kind.f (k + 1) a0) := by
  intro a0 k
  unfold riverbankref02_Kind.f
  repeat' first
      | (with_reducible exact riverbankref02_Side.mono _ _)
      | (with_reducible exact LeO.refl _)
      | (with_reducible exact LeO.none _)
      | (with_reducible refine LeO.ite ?_ ?_)
      | (with_reducible refine LeO.bind ?_ (fun _ => ?_))
      | exact riverbankref02_Side.mono _ _
      | exact LeO.none _
      | refine LeO.ite ?_ ?_
      | refine LeO.bind ?_ (fun _ => ?_)
set_option maxHeartbeats 8000000 in
set_option maxRecDepth 100000 in
theorem riverbankref02_Kind.calls (k : Nat) (a0 : Int) (r : Int) (w : World) (h : riverbankref02_Kind.f k a0 = some r) :
    Calls Tryd.prog 64 #[.int .u8 a0] w fun e w' => e = .returned (.int .u8 r) ∧ Drawn0 w w' := by
  have H : ((riverbankref02_Side.f k a0).bind fun t417 => (if t417 = 0 then (some a0) else (if t417 = 1 then (some ((((a0 - 97) % 256) + 65) % 256)) else (some 0)))) = some r := h
  clear h
  replace H := Option.bind_eq_some_iff.mp H
  obtain ⟨t417, A20, H⟩ := H
  replace H : (if t417 = 0 then (some a0) else (if t417 = 1 then (some ((((a0 - 97) % 256) + 65) % 256)) else (some 0))) = some r := H
  have A2 := Aside0.mk A20
  clear A20
  by_cases c3 : t417 = 0
  · rw [if_pos c3] at H
    have c3b0 : (t417 == 0) = true := beq_iff_eq.mpr c3
    have c3b1 : (t417 != 0) = false := bne_eq_false_iff_eq.mpr c3
    clear c3
    obtain rfl := Option.some.inj H
    go_enter Tryd.func64, Tryd.ntmps64
    go_wp2_with (first | ((with_reducible refine gate_callee (f := 49) rfl ?_); refine goesL_ (some 4) rfl rfl Tryd.func49 (by kernel_rfl) rfl #[.int .u8 a0] rfl (by (try simp only [List.map_toArray, List.map_cons, List.map_nil]); first | done | rfl | (simp only [List.length_drop, List.length_take]; rfl)) ?_; (with_reducible refine (riverbankref02_Side.calls k a0 t417 _ A2.out).mono ?_); rintro e w' ⟨rfl, ⟨nd, rfl⟩⟩; refine ⟨_, rfl, ?_⟩))
    go_ret
    exact ⟨by first | rfl | (simp; done) | (simp [*]; done), by repeat (first | exact Drawn0.refl _ | apply Drawn0.step)⟩
  · rw [if_neg c3] at H
    have c3b0 : (t417 == 0) = false := beq_eq_false_iff_ne.mpr c3
    have c3b1 : (t417 != 0) = true := bne_iff_ne.mpr c3
    by_cases c4 : t417 = 1
    · rw [if_pos c4] at H
      have c4b0 : (t417 == 1) = true := beq_iff_eq.mpr c4
      have c4b1 : (t417 != 1) = false := bne_eq_false_iff_eq.mpr c4
      clear c4
      obtain rfl := Option.some.inj H
      go_enter Tryd.func64, Tryd.ntmps64
      go_wp2_with (first | ((with_reducible refine gate_callee (f := 49) rfl ?_); refine goesL_ (some 4) rfl rfl Tryd.func49 (by kernel_rfl) rfl #[.int .u8 a0] rfl (by (try simp only [List.map_toArray, List.map_cons, List.map_nil]); first | done | rfl | (simp only [List.length_drop, List.length_take]; rfl)) ?_; (with_reducible refine (riverbankref02_Side.calls k a0 t417 _ A2.out).mono ?_); rintro e w' ⟨rfl, ⟨nd, rfl⟩⟩; refine ⟨_, rfl, ?_⟩))
      go_ret
      exact ⟨by first | rfl | (simp; done) | (simp [*]; done), by repeat (first | exact Drawn0.refl _ | apply Drawn0.step)⟩
    · rw [if_neg c4] at H
      have c4b0 : (t417 == 1) = false := beq_eq_false_iff_ne.mpr c4
      have c4b1 : (t417 != 1) = true := bne_iff_ne.mpr c4
      obtain rfl := Option.some.inj H
      go_enter Tryd.func64, Tryd.ntmps64
      go_wp2_with (first | ((with_reducible refine gate_callee (f := 49) rfl ?_); refine goesL_ (some 4) rfl rfl Tryd.func49 (by kernel_rfl) rfl #[.int .u8 a0] rfl (by (try simp only [List.map_toArray, List.map_cons, List.map_nil]); first | done | rfl | (simp only [List.length_drop, List.length_take]; rfl)) ?_; (with_reducible refine (riverbankref02_Side.calls k a0 t417 _ A2.out).mono ?_); rintro e w' ⟨rfl, ⟨nd, rfl⟩⟩; refine ⟨_, rfl, ?_⟩))
      go_ret
      exact ⟨by first | rfl | (simp; done) | (simp [*]; done), by repeat (first | exact Drawn0.refl _ | apply Drawn0.step)⟩

/-! ### riverbankref02_Of: function 84 -/
def riverbankref02_Of.f (a0 : Int) (a1 : Int) : Option (Int) := if a1 = 1 then (some ((((a0 - 65) % 256) + 97) % 256)) else (some a0)
set_option maxHeartbeats 8000000 in
set_option maxRecDepth 100000 in
theorem riverbankref02_Of.calls (a0 : Int) (a1 : Int) (r : Int) (w : World) (h : riverbankref02_Of.f a0 a1 = some r) :
    Calls Tryd.prog 84 #[.int .u8 a0, .int .i64 a1] w fun e w' => e = .returned (.int .u8 r) ∧ Drawn0 w w' := by
  have H : (if a1 = 1 then (some ((((a0 - 65) % 256) + 97) % 256)) else (some a0)) = some r := h
  clear h
  by_cases c3 : a1 = 1
  · rw [if_pos c3] at H
    have c3b0 : (a1 == 1) = true := beq_iff_eq.mpr c3
    have c3b1 : (a1 != 1) = false := bne_eq_false_iff_eq.mpr c3
    clear c3
    obtain rfl := Option.some.inj H
    go_enter Tryd.func84, Tryd.ntmps84
    go_wp2
    go_ret
    exact ⟨by first | rfl | (simp; done) | (simp [*]; done), by repeat (first | exact Drawn0.refl _ | apply Drawn0.step)⟩
  · rw [if_neg c3] at H
    have c3b0 : (a1 == 1) = false := beq_eq_false_iff_ne.mpr c3
    have c3b1 : (a1 != 1) = true := bne_iff_ne.mpr c3
    obtain rfl := Option.some.inj H
    go_enter Tryd.func84, Tryd.ntmps84
    go_wp2
    go_ret
    exact ⟨by first | rfl | (simp; done) | (simp [*]; done), by repeat (first | exact Drawn0.refl _ | apply Drawn0.step)⟩

/-! ### riverbankref02_Turn: function 61 -/
def riverbankref02_Turn.l0 : Nat → ByteArray → ByteArray → Int → Option (ByteArray)
  | 0, _, _, _ => none
  | k + 1, x0, x3, x4 => if x4 ≥ 0 then (if 0 ≤ x4 then (if x4 < (x0.size : Int) then ((riverbankref02_Side.f k (bt x0 x4)).bind fun t419 => (if t419 ≥ 0 then ((riverbankref02_Kind.f k (bt x0 x4)).bind fun t420 => ((riverbankref02_Side.f k (bt x0 x4)).bind fun t421 => ((riverbankref02_Of.f t420 (wrap64 (1 - t421))).bind fun t422 => ((some (([t422] : List Int) : List Int)).bind fun y423 => (if x3.size + (strOfNums y423).size ≤ 9223372036854775807 then (riverbankref02_Turn.l0 k x0 (x3 ++ (strOfNums y423)) (wrap64 (x4 - 1))) else (none)))))) else ((some (([bt x0 x4] : List Int) : List Int)).bind fun y426 => (if x3.size + (strOfNums y426).size ≤ 9223372036854775807 then (riverbankref02_Turn.l0 k x0 (x3 ++ (strOfNums y426)) (wrap64 (x4 - 1))) else (none))))) else (none)) else (none)) else (some x3)
def riverbankref02_Turn.f (k : Nat) (a0 : ByteArray) : Option (ByteArray) := (riverbankref02_Is.f k a0).bind fun t418 => (if t418 = true then (riverbankref02_Turn.l0 k a0 (⟨#[]⟩ : ByteArray) 89) else (some (⟨#[]⟩ : ByteArray)))
theorem riverbankref02_Turn.mono_l : ∀ k, (∀ y0 y1 y2, LeO (riverbankref02_Turn.l0 k y0 y1 y2) (riverbankref02_Turn.l0 (k + 1) y0 y1 y2))
  | 0 => fun _ _ _ r h => by simp [riverbankref02_Turn.l0] at h
  | k + 1 => by
    have ih0 := riverbankref02_Turn.mono_l k
    · intro y0 y1 y2
      unfold riverbankref02_Turn.l0
      repeat' first
      | (with_reducible exact ih0 _ _ _)
      | (with_reducible exact riverbankref02_Is.mono _ _)
      | (with_reducible exact riverbankref02_Kind.mono _ _)
      | (with_reducible exact riverbankref02_Side.mono _ _)
      | (with_reducible exact LeO.refl _)
      | (with_reducible exact LeO.none _)
      | (with_reducible refine LeO.ite ?_ ?_)
      | (with_reducible refine LeO.bind ?_ (fun _ => ?_))
      | exact ih0 _ _ _
      | exact riverbankref02_Is.mono _ _
      | exact riverbankref02_Kind.mono _ _
      | exact riverbankref02_Side.mono _ _
      | exact LeO.none _
      | refine LeO.ite ?_ ?_
      | refine LeO.bind ?_ (fun _ => ?_)
theorem riverbankref02_Turn.mono : ∀ a0 k, LeO (riverbankref02_Turn.f k a0) (riverbankref02_Turn.f (k + 1) a0) := by
  intro a0 k
  have ih0 := riverbankref02_Turn.mono_l k
  unfold riverbankref02_Turn.f
  repeat' first
      | (with_reducible exact ih0 _ _ _)
      | (with_reducible exact riverbankref02_Is.mono _ _)
      | (with_reducible exact riverbankref02_Kind.mono _ _)
      | (with_reducible exact riverbankref02_Side.mono _ _)
      | (with_reducible exact LeO.refl _)
      | (with_reducible exact LeO.none _)
      | (with_reducible refine LeO.ite ?_ ?_)
      | (with_reducible refine LeO.bind ?_ (fun _ => ?_))
      | exact ih0 _ _ _
      | exact riverbankref02_Is.mono _ _
      | exact riverbankref02_Kind.mono _ _
      | exact riverbankref02_Side.mono _ _
      | exact LeO.none _
      | refine LeO.ite ?_ ?_
      | refine LeO.bind ?_ (fun _ => ?_)
set_option maxHeartbeats 8000000 in
set_option maxRecDepth 100000 in
theorem riverbankref02_Turn.calls (k : Nat) (a0 : ByteArray) (r : ByteArray) (w : World) (h : riverbankref02_Turn.f k a0 = some r) :
    Calls Tryd.prog 61 #[.string a0] w fun e w' => e = .returned (.string r) ∧ Below w.heap.size w w' := by
  have HB := Aside0.mk (Below.refl w.heap.size w)
  have H : ((riverbankref02_Is.f k a0).bind fun t418 => (if t418 = true then (riverbankref02_Turn.l0 k a0 (⟨#[]⟩ : ByteArray) 89) else (some (⟨#[]⟩ : ByteArray)))) = some r := h
  clear h
  replace H := Option.bind_eq_some_iff.mp H
  obtain ⟨t418, A20, H⟩ := H
  replace H : (if t418 = true then (riverbankref02_Turn.l0 k a0 (⟨#[]⟩ : ByteArray) 89) else (some (⟨#[]⟩ : ByteArray))) = some r := H
  have A2 := Aside0.mk A20
  clear A20
  by_cases c3 : t418 = true
  · subst c3
    have H1 : (riverbankref02_Turn.l0 k a0 (⟨#[]⟩ : ByteArray) 89) = some r := by rw [if_pos rfl] at H; exact H
    clear H
    have H := H1
    clear H1
    have H' := Aside0.mk H
    clear H
    go_enter Tryd.func61, Tryd.ntmps61
    go_wp2_with (first | ((with_reducible refine gate_callee (f := 51) rfl ?_); refine goesL_ (some 7) rfl rfl Tryd.func51 (by kernel_rfl) rfl #[.string a0] rfl (by (try simp only [List.map_toArray, List.map_cons, List.map_nil]); first | done | rfl | (simp only [List.length_drop, List.length_take]; rfl)) ?_; (with_reducible refine (riverbankref02_Is.calls k a0 true _ A2.out).mono ?_); rintro e w' ⟨rfl, ⟨nd, rfl⟩⟩; refine ⟨_, rfl, ?_⟩))
    go_loopg [3, 4] k (fun kq v3 v4 w' => ∃ (x3_1 : ByteArray) (x4_1 : Int), v3 = .string x3_1 ∧ v4 = .int .i64 x4_1 ∧ Aside0 (riverbankref02_Turn.l0 kq a0 x3_1 x4_1 = some r) ∧ Aside0 (kq ≤ k) ∧ Aside0 (Below w.heap.size w w'))
    case atStart => exact ⟨((⟨#[]⟩ : ByteArray)), (89), (by first | rfl | (simp; done) | (simp [*]; done)), (by first | rfl | (simp; done) | (simp [*]; done)), H', ⟨Nat.le_refl _⟩, ⟨by repeat (first | (with_reducible first | exact HB.out | apply below_alloc | apply pw_below_drewN | apply below_drew1) | exact HB.out)⟩⟩
    case round =>
      clear H'
      try clear p2
      try clear c3
      obtain ⟨x3_1, x4_1, rfl, rfl, HA, HK1, HB⟩ := hrel
      cases gk with
      | zero => exact absurd HA.out (by simp [riverbankref02_Turn.l0])
      | succ k1 =>
        have H := HA.out
        clear HA
        simp only [riverbankref02_Turn.l0] at H
        by_cases c4 : x4_1 ≥ 0
        · rw [if_pos c4] at H
          have c4b0 : decide (0 ≤ x4_1) = true := decide_eq_true c4
          clear c4
          by_cases c5 : 0 ≤ x4_1
          · rw [if_pos c5] at H
            have c5b0 : decide (0 ≤ x4_1) = true := decide_eq_true c5
            clear c5
            by_cases c6 : x4_1 < (a0.size : Int)
            · rw [if_pos c6] at H
              have c6b0 : decide (x4_1 < (a0.size : Int)) = true := decide_eq_true c6
              clear c6
              replace H := Option.bind_eq_some_iff.mp H
              obtain ⟨t419, A80, H⟩ := H
              replace H : (if t419 ≥ 0 then ((riverbankref02_Kind.f k1 (bt a0 x4_1)).bind fun t420 => ((riverbankref02_Side.f k1 (bt a0 x4_1)).bind fun t421 => ((riverbankref02_Of.f t420 (wrap64 (1 - t421))).bind fun t422 => ((some (([t422] : List Int) : List Int)).bind fun y423 => (if x3_1.size + (strOfNums y423).size ≤ 9223372036854775807 then (riverbankref02_Turn.l0 k1 a0 (x3_1 ++ (strOfNums y423)) (wrap64 (x4_1 - 1))) else (none)))))) else ((some (([bt a0 x4_1] : List Int) : List Int)).bind fun y426 => (if x3_1.size + (strOfNums y426).size ≤ 9223372036854775807 then (riverbankref02_Turn.l0 k1 a0 (x3_1 ++ (strOfNums y426)) (wrap64 (x4_1 - 1))) else (none)))) = some r := H
              have A8 := Aside0.mk A80
              clear A80
              by_cases c9 : t419 ≥ 0
              · rw [if_pos c9] at H
                have c9b0 : decide (0 ≤ t419) = true := decide_eq_true c9
                clear c9
                replace H := Option.bind_eq_some_iff.mp H
                obtain ⟨t420, A100, H⟩ := H
                replace H : ((riverbankref02_Side.f k1 (bt a0 x4_1)).bind fun t421 => ((riverbankref02_Of.f t420 (wrap64 (1 - t421))).bind fun t422 => ((some (([t422] : List Int) : List Int)).bind fun y423 => (if x3_1.size + (strOfNums y423).size ≤ 9223372036854775807 then (riverbankref02_Turn.l0 k1 a0 (x3_1 ++ (strOfNums y423)) (wrap64 (x4_1 - 1))) else (none))))) = some r := H
                have A10 := Aside0.mk A100
                clear A100
                replace H := Option.bind_eq_some_iff.mp H
                obtain ⟨t421, A110, H⟩ := H
                replace H : ((riverbankref02_Of.f t420 (wrap64 (1 - t421))).bind fun t422 => ((some (([t422] : List Int) : List Int)).bind fun y423 => (if x3_1.size + (strOfNums y423).size ≤ 9223372036854775807 then (riverbankref02_Turn.l0 k1 a0 (x3_1 ++ (strOfNums y423)) (wrap64 (x4_1 - 1))) else (none)))) = some r := H
                have A11 := Aside0.mk A110
                clear A110
                replace H := Option.bind_eq_some_iff.mp H
                obtain ⟨t422, A120, H⟩ := H
                replace H : ((some (([t422] : List Int) : List Int)).bind fun y423 => (if x3_1.size + (strOfNums y423).size ≤ 9223372036854775807 then (riverbankref02_Turn.l0 k1 a0 (x3_1 ++ (strOfNums y423)) (wrap64 (x4_1 - 1))) else (none))) = some r := H
                have A12 := Aside0.mk A120
                clear A120
                obtain ⟨y423, hy423⟩ : ∃ y_ : List Int, y_ = (([t422] : List Int)) := ⟨_, rfl⟩
                replace H : (if x3_1.size + (strOfNums y423).size ≤ 9223372036854775807 then (riverbankref02_Turn.l0 k1 a0 (x3_1 ++ (strOfNums y423)) (wrap64 (x4_1 - 1))) else (none)) = some r := by first | (rw [hy423]; with_reducible exact H) | (have H2_ := (Option.bind_some _ _).symm.trans H; rw [hy423]; with_reducible exact H2_) | (have H2_ := (Option.bind_some _ _).symm.trans H; with_reducible exact H2_) | with_reducible exact H | (rw [hy423]; exact H) | exact H
                have Ny423 := Aside0.mk hy423
                clear hy423
                by_cases c13 : x3_1.size + (strOfNums y423).size ≤ 9223372036854775807
                · rw [if_pos c13] at H
                  have c13b0 := eq_true c13
                  have c13b1 : decide (x3_1.size + (strOfNums y423).size ≤ 9223372036854775807) = true := decide_eq_true c13
                  try have c13b2 : (9223372036854775807 < x3_1.size + (strOfNums y423).size) = False := eq_false (Nat.not_lt.2 c13)
                  have H' := Aside0.mk H
                  clear H
                  have p7 : 0 ≤ (x4_1 : Int) := of_decide_eq_true (by first | (with_reducible assumption) | assumption)
                  have q7 : x4_1 < (a0.size : Int) := of_decide_eq_true (by first | (with_reducible assumption) | assumption)
                  have hx7 := bt_at a0 x4_1
                  replace p7 := eq_true p7
                  replace q7 := eq_true q7
                  go_wp2_with (first | ((with_reducible refine gate_callee (f := 49) rfl ?_); refine goesL_ (some 17) rfl rfl Tryd.func49 (by kernel_rfl) rfl #[.int .u8 (bt a0 x4_1)] rfl (by (try simp only [List.map_toArray, List.map_cons, List.map_nil]); first | done | rfl | (simp only [List.length_drop, List.length_take]; rfl)) ?_; (with_reducible refine (riverbankref02_Side.calls k1 (bt a0 x4_1) t419 _ A8.out).mono ?_); rintro e w' ⟨rfl, ⟨nd, rfl⟩⟩; refine ⟨_, rfl, ?_⟩) | ((with_reducible refine gate_callee (f := 64) rfl ?_); refine goesL_ (some 20) rfl rfl Tryd.func64 (by kernel_rfl) rfl #[.int .u8 (bt a0 x4_1)] rfl (by (try simp only [List.map_toArray, List.map_cons, List.map_nil]); first | done | rfl | (simp only [List.length_drop, List.length_take]; rfl)) ?_; (with_reducible refine (riverbankref02_Kind.calls k1 (bt a0 x4_1) t420 _ A10.out).mono ?_); rintro e w' ⟨rfl, ⟨nd, rfl⟩⟩; refine ⟨_, rfl, ?_⟩) | ((with_reducible refine gate_callee (f := 49) rfl ?_); refine goesL_ (some 22) rfl rfl Tryd.func49 (by kernel_rfl) rfl #[.int .u8 (bt a0 x4_1)] rfl (by (try simp only [List.map_toArray, List.map_cons, List.map_nil]); first | done | rfl | (simp only [List.length_drop, List.length_take]; rfl)) ?_; (with_reducible refine (riverbankref02_Side.calls k1 (bt a0 x4_1) t421 _ A11.out).mono ?_); rintro e w' ⟨rfl, ⟨nd, rfl⟩⟩; refine ⟨_, rfl, ?_⟩) | ((with_reducible refine gate_callee (f := 84) rfl ?_); refine goesL_ (some 24) rfl rfl Tryd.func84 (by kernel_rfl) rfl #[.int .u8 t420, .int .i64 (wrap64 (1 - t421))] rfl (by (try simp only [List.map_toArray, List.map_cons, List.map_nil]); first | done | rfl | (simp only [List.length_drop, List.length_take]; rfl)) ?_; (with_reducible refine (riverbankref02_Of.calls t420 (wrap64 (1 - t421)) t422 _ A12.out).mono ?_); rintro e w' ⟨rfl, ⟨nd, rfl⟩⟩; refine ⟨_, rfl, ?_⟩) | ((with_reducible refine gate_dst (N := 27) rfl ?_); refine Kd.R_lit (Kd.int .u8) _ 5 ?hg (N := 27) ?hd (xs := ([t422] : List Int)) (inner := [.int .u8 t422]) (ok := fun _ => True) (okp := fun _ => True) ?hr ?hp (fun _ hk => hk) trivial (Below.refl _ _) (Nat.le_refl _) (by simp) ?_; (case hd => rfl); (case hg => rfl); (case hr => first | (go_simp; done) | (go_simp; rfl)); (case hp => exact (Reps.one (show Kd.M (Kd.int .u8) _ _ _ t422 [.int .u8 t422] from rfl) (Reps.none _ _))); intro v424 w14 ho15 hb hg_ hnew_; clear hg_ hnew_; (first | rw [← Ny423.out] at ho15 | (simp only [Int.reduceToNat] at ho15; rw [← Ny423.out] at ho15)); have n0_ := Aside0.mk (Kd.R_lower ho15 (below_size (by repeat (first | (with_reducible first | exact HB.out | apply below_alloc | apply pw_below_drewN | apply below_drew1) | exact HB.out)))); have n1_ := Aside0.mk (below_step (by repeat (first | (with_reducible first | exact HB.out | apply below_alloc | apply pw_below_drewN | apply below_drew1) | exact HB.out)) hb); clear HB; have HO425 := n0_; have HB := n1_; clear n0_ n1_; clear hb ho15; have hcv16 := own_string (P := Tryd.prog) Tryd.underlying93 Tryd.underlying5 Tryd.underlying9 (Kd.own_of_R HO425.out)))
                  go_roundg k1
                  case measure => have := HK1.out; omega
                  case rel => exact ⟨(x3_1 ++ (strOfNums y423)), (wrap64 (x4_1 - 1)), (by first | rfl | (simp; done) | (simp [*]; done)), (by first | rfl | (simp; done) | (simp [*]; done)), H', ⟨by have := HK1.out; omega⟩, ⟨by repeat (first | (with_reducible first | exact HB.out | apply below_alloc | apply pw_below_drewN | apply below_drew1) | exact HB.out)⟩⟩
                · rw [if_neg c13] at H
                  exact absurd H (by simp)
              · rw [if_neg c9] at H
                have c9b0 : decide (0 ≤ t419) = false := decide_eq_false c9
                clear c9
                obtain ⟨y426, hy426⟩ : ∃ y_ : List Int, y_ = (([bt a0 x4_1] : List Int)) := ⟨_, rfl⟩
                replace H : (if x3_1.size + (strOfNums y426).size ≤ 9223372036854775807 then (riverbankref02_Turn.l0 k1 a0 (x3_1 ++ (strOfNums y426)) (wrap64 (x4_1 - 1))) else (none)) = some r := by first | (rw [hy426]; with_reducible exact H) | (have H2_ := (Option.bind_some _ _).symm.trans H; rw [hy426]; with_reducible exact H2_) | (have H2_ := (Option.bind_some _ _).symm.trans H; with_reducible exact H2_) | with_reducible exact H | (rw [hy426]; exact H) | exact H
                have Ny426 := Aside0.mk hy426
                clear hy426
                by_cases c17 : x3_1.size + (strOfNums y426).size ≤ 9223372036854775807
                · rw [if_pos c17] at H
                  have c17b0 := eq_true c17
                  have c17b1 : decide (x3_1.size + (strOfNums y426).size ≤ 9223372036854775807) = true := decide_eq_true c17
                  try have c17b2 : (9223372036854775807 < x3_1.size + (strOfNums y426).size) = False := eq_false (Nat.not_lt.2 c17)
                  have H' := Aside0.mk H
                  clear H
                  have p7 : 0 ≤ (x4_1 : Int) := of_decide_eq_true (by first | (with_reducible assumption) | assumption)
                  have q7 : x4_1 < (a0.size : Int) := of_decide_eq_true (by first | (with_reducible assumption) | assumption)
                  have hx7 := bt_at a0 x4_1
                  replace p7 := eq_true p7
                  replace q7 := eq_true q7
                  go_wp2_with (first | ((with_reducible refine gate_callee (f := 49) rfl ?_); refine goesL_ (some 17) rfl rfl Tryd.func49 (by kernel_rfl) rfl #[.int .u8 (bt a0 x4_1)] rfl (by (try simp only [List.map_toArray, List.map_cons, List.map_nil]); first | done | rfl | (simp only [List.length_drop, List.length_take]; rfl)) ?_; (with_reducible refine (riverbankref02_Side.calls k1 (bt a0 x4_1) t419 _ A8.out).mono ?_); rintro e w' ⟨rfl, ⟨nd, rfl⟩⟩; refine ⟨_, rfl, ?_⟩) | ((with_reducible refine gate_dst (N := 27) rfl ?_); refine Kd.R_lit (Kd.int .u8) _ 5 ?hg (N := 27) ?hd (xs := ([bt a0 x4_1] : List Int)) (inner := [.int .u8 (bt a0 x4_1)]) (ok := fun _ => True) (okp := fun _ => True) ?hr ?hp (fun _ hk => hk) trivial (Below.refl _ _) (Nat.le_refl _) (by simp) ?_; (case hd => rfl); (case hg => rfl); (case hr => first | (go_simp; done) | (go_simp; rfl)); (case hp => exact (Reps.one (show Kd.M (Kd.int .u8) _ _ _ (bt a0 x4_1) [.int .u8 (bt a0 x4_1)] from rfl) (Reps.none _ _))); intro v427 w18 ho19 hb hg_ hnew_; clear hg_ hnew_; (first | rw [← Ny426.out] at ho19 | (simp only [Int.reduceToNat] at ho19; rw [← Ny426.out] at ho19)); have n0_ := Aside0.mk (Kd.R_lower ho19 (below_size (by repeat (first | (with_reducible first | exact HB.out | apply below_alloc | apply pw_below_drewN | apply below_drew1) | exact HB.out)))); have n1_ := Aside0.mk (below_step (by repeat (first | (with_reducible first | exact HB.out | apply below_alloc | apply pw_below_drewN | apply below_drew1) | exact HB.out)) hb); clear HB; have HO428 := n0_; have HB := n1_; clear n0_ n1_; clear hb ho19; have hcv20 := own_string (P := Tryd.prog) Tryd.underlying93 Tryd.underlying5 Tryd.underlying9 (Kd.own_of_R HO428.out)))
                  go_roundg k1
                  case measure => have := HK1.out; omega
                  case rel => exact ⟨(x3_1 ++ (strOfNums y426)), (wrap64 (x4_1 - 1)), (by first | rfl | (simp; done) | (simp [*]; done)), (by first | rfl | (simp; done) | (simp [*]; done)), H', ⟨by have := HK1.out; omega⟩, ⟨by repeat (first | (with_reducible first | exact HB.out | apply below_alloc | apply pw_below_drewN | apply below_drew1) | exact HB.out)⟩⟩
                · rw [if_neg c17] at H
                  exact absurd H (by simp)
            · rw [if_neg c6] at H
              exact absurd H (by simp)
          · rw [if_neg c5] at H
            exact absurd H (by simp)
        · rw [if_neg c4] at H
          have c4b0 : decide (0 ≤ x4_1) = false := decide_eq_false c4
          clear c4
          obtain rfl := Option.some.inj H
          go_wp2
          go_ret
          exact ⟨by first | rfl | (simp [errW_none, errW_some] <;> rfl) | (simp [*, errW_none, errW_some] <;> rfl), by repeat (first | (with_reducible first | exact HB.out | apply below_alloc | apply pw_below_drewN | apply below_drew1) | exact HB.out)⟩
  · replace c3 := Bool.eq_false_iff.mpr c3
    subst c3
    have H1 : (some (⟨#[]⟩ : ByteArray)) = some r := by rw [if_neg (show ¬ (false = true) by decide)] at H; exact H
    clear H
    have H := H1
    clear H1
    obtain rfl := Option.some.inj H
    go_enter Tryd.func61, Tryd.ntmps61
    go_wp2_with (first | ((with_reducible refine gate_callee (f := 51) rfl ?_); refine goesL_ (some 7) rfl rfl Tryd.func51 (by kernel_rfl) rfl #[.string a0] rfl (by (try simp only [List.map_toArray, List.map_cons, List.map_nil]); first | done | rfl | (simp only [List.length_drop, List.length_take]; rfl)) ?_; (with_reducible refine (riverbankref02_Is.calls k a0 false _ A2.out).mono ?_); rintro e w' ⟨rfl, ⟨nd, rfl⟩⟩; refine ⟨_, rfl, ?_⟩))
    go_ret
    exact ⟨by first | rfl | (simp [errW_none, errW_some] <;> rfl) | (simp [*, errW_none, errW_some] <;> rfl), by repeat (first | (with_reducible first | exact HB.out | apply below_alloc | apply pw_below_drewN | apply below_drew1) | exact HB.out)⟩

end Go.Proofs.YtkbimiimgcklaaaDoor.Print
