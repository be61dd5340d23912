/- Merged by a program of this session (wip/gprint/merge.py): what this claim needs of this session's texts, each part as it was. -/
import Derived.Test.YtkbimiimgcklaaaDoorAllPlaceInside7
import Derived.Test.YtkbimiimgcklaaaDoorAllPlaceInside13
import Derived.Test.YtkbimiimgcklaaaDoorAllPlaceInside8
import Derived.Test.YtkbimiimgcklaaaDoorAllPlaceInside6
import Derived.RegionTactic
import Derived.BigRegion
import Derived.WalkSpells
import Derived.RangeFuncRecord
import Derived.Test.YtkbimiimgcklaaaDoorAllPlaceInside9
import Derived.Test.YtkbimiimgcklaaaDoorAllPlaceInside38
import Derived.Test.YtkbimiimgcklaaaDoorAllPlaceInside42
import Derived.Test.YtkbimiimgcklaaaDoorAllPlaceInside43
import Derived.Test.YtkbimiimgcklaaaDoorAllPlaceInside44
namespace Go.Proofs.YtkbimiimgcklaaaDoor.Print
end Go.Proofs.YtkbimiimgcklaaaDoor.Print

-- of YtkbimiimgcklaaaDoorPrint51
-- Written by a program of this session (wip/gprint/gprint.py) over the kit's print; the parts marked GIVEN by hand.
namespace Go.Proofs.YtkbimiimgcklaaaDoor.Print
open Go.RowKit Go.Proofs.YtkbimiimgcklaaaDoorW.PrintWords Go.Proofs.YtkbimiimgcklaaaDoorW.PrintLast Go.Proofs.YtkbimiimgcklaaaDoorW.PrintMore
attribute [local go_sem] max2_int min2_int max_two min_two max_three min_three max_four min_four   -- for this text's walks alone
set_option linter.unusedVariables false
set_option linter.unusedSimpArgs false

/-! ### riverbanklaw03_PlaceInside: function 19 -/
def riverbanklaw03_PlaceInside.j0 : Nat → Int → Int → Int → Bool → Option (Bool)
  | 0, _, _, _, _ => none
  | k + 1, x1, x5, x6, x26 => if x26 = true then (some false) else (if x6 = 75 then ((place_Over.f k x1 x5).bind fun t688 => (if t688 = true then (some false) else ((place_Palace.f k x1 x5).bind fun t689 => (if t689 = true then ((riverbanklaw03_live.f).bind fun t690 => (some t690)) else (some false))))) else (if x6 = 65 then ((place_Over.f k x1 x5).bind fun t691 => (if t691 = true then (some false) else ((place_Palace.f k x1 x5).bind fun t692 => (if t692 = true then ((riverbanklaw03_live.f).bind fun t693 => (some t693)) else (some false))))) else (if x6 = 66 then ((place_Over.f k x1 x5).bind fun t694 => (if t694 = true then (some false) else ((riverbanklaw03_live.f).bind fun t695 => (some t695)))) else ((riverbanklaw03_live.f).bind fun t696 => (some t696)))))
def riverbanklaw03_PlaceInside.f (k : Nat) (a0 : Int) (a1 : Int) : Option (Bool) := (riverbankref02_Side.f k a0).bind fun t684 => ((riverbankref02_Kind.f k a0).bind fun t685 => ((place_May.f k a0 a1).bind fun t686 => (if t686 = true then (if a1 < 0 then (riverbanklaw03_PlaceInside.j0 k a1 t684 t685 true) else (if a1 > 89 then (riverbanklaw03_PlaceInside.j0 k a1 t684 t685 true) else (riverbanklaw03_PlaceInside.j0 k a1 t684 t685 (decide (t684 < 0))))) else ((riverbanklaw03_live.f).bind fun t687 => (some t687)))))
theorem riverbanklaw03_PlaceInside.mono_l : ∀ k, (∀ y0 y1 y2 y3, LeO (riverbanklaw03_PlaceInside.j0 k y0 y1 y2 y3) (riverbanklaw03_PlaceInside.j0 (k + 1) y0 y1 y2 y3))
  | 0 => fun _ _ _ _ r h => by simp [riverbanklaw03_PlaceInside.j0] at h
  | k + 1 => by
    have ih0 := riverbanklaw03_PlaceInside.mono_l k
    · intro y0 y1 y2 y3
      unfold riverbanklaw03_PlaceInside.j0
      repeat' first
      | (with_reducible exact ih0 _ _ _ _)
      | (with_reducible exact place_May.mono _ _ _)
      | (with_reducible exact place_Over.mono _ _ _)
      | (with_reducible exact place_Palace.mono _ _ _)
      | (with_reducible exact riverbankref02_Kind.mono _ _)
      | (with_reducible exact riverbankref02_Side.mono _ _)
      | (with_reducible exact LeO.refl _)
      | (with_reducible exact LeO.none _)
      | (with_reducible refine LeO.ite ?_ ?_)
      | (with_reducible refine LeO.bind ?_ (fun _ => ?_))
      | exact ih0 _ _ _ _
      | exact place_May.mono _ _ _
      | exact place_Over.mono _ _ _
      | exact place_Palace.mono _ _ _
      | exact riverbankref02_Kind.mono _ _
      | exact riverbankref02_Side.mono _ _
      | exact LeO.none _
      | refine LeO.ite ?_ ?_
      | refine LeO.bind ?_ (fun _ => ?_)
theorem riverbanklaw03_PlaceInside.mono : ∀ a0 a1 k, LeO (riverbanklaw03_PlaceInside.f k a0 a1) (riverbanklaw03_PlaceInside.f (k + 1) a0 a1) := by
  intro a0 a1 k
  have ih0 := riverbanklaw03_PlaceInside.mono_l k
  unfold riverbanklaw03_PlaceInside.f
  repeat' first
      | (with_reducible exact ih0 _ _ _ _)
      | (with_reducible exact place_May.mono _ _ _)
      | (with_reducible exact place_Over.mono _ _ _)
      | (with_reducible exact place_Palace.mono _ _ _)
      | (with_reducible exact riverbankref02_Kind.mono _ _)
      | (with_reducible exact riverbankref02_Side.mono _ _)
      | (with_reducible exact LeO.refl _)
      | (with_reducible exact LeO.none _)
      | (with_reducible refine LeO.ite ?_ ?_)
      | (with_reducible refine LeO.bind ?_ (fun _ => ?_))
      | exact ih0 _ _ _ _
      | exact place_May.mono _ _ _
      | exact place_Over.mono _ _ _
      | exact place_Palace.mono _ _ _
      | exact riverbankref02_Kind.mono _ _
      | exact riverbankref02_Side.mono _ _
      | exact LeO.none _
      | refine LeO.ite ?_ ?_
      | refine LeO.bind ?_ (fun _ => ?_)
set_option maxHeartbeats 8000000 in
set_option maxRecDepth 100000 in
theorem riverbanklaw03_PlaceInside.calls (k : Nat) (a0 : Int) (a1 : Int) (r : Bool) (w : World) (hT : TabHere w) (h : riverbanklaw03_PlaceInside.f k a0 a1 = some r) :
    Calls Tryd.prog 19 #[.int .u8 a0, .int .i64 a1] w fun e w' => e = .returned (.bool r) ∧ Below w.heap.size w w' := by
  have HT := Aside0.mk hT
  clear hT
  have HB := Aside0.mk (Below.refl w.heap.size w)
  have H : ((riverbankref02_Side.f k a0).bind fun t684 => ((riverbankref02_Kind.f k a0).bind fun t685 => ((place_May.f k a0 a1).bind fun t686 => (if t686 = true then (if a1 < 0 then (riverbanklaw03_PlaceInside.j0 k a1 t684 t685 true) else (if a1 > 89 then (riverbanklaw03_PlaceInside.j0 k a1 t684 t685 true) else (riverbanklaw03_PlaceInside.j0 k a1 t684 t685 (decide (t684 < 0))))) else ((riverbanklaw03_live.f).bind fun t687 => (some t687)))))) = some r := h
  clear h
  replace H := Option.bind_eq_some_iff.mp H
  obtain ⟨t684, A30, H⟩ := H
  replace H : ((riverbankref02_Kind.f k a0).bind fun t685 => ((place_May.f k a0 a1).bind fun t686 => (if t686 = true then (if a1 < 0 then (riverbanklaw03_PlaceInside.j0 k a1 t684 t685 true) else (if a1 > 89 then (riverbanklaw03_PlaceInside.j0 k a1 t684 t685 true) else (riverbanklaw03_PlaceInside.j0 k a1 t684 t685 (decide (t684 < 0))))) else ((riverbanklaw03_live.f).bind fun t687 => (some t687))))) = some r := H
  have A3 := Aside0.mk A30
  clear A30
  replace H := Option.bind_eq_some_iff.mp H
  obtain ⟨t685, A40, H⟩ := H
  replace H : ((place_May.f k a0 a1).bind fun t686 => (if t686 = true then (if a1 < 0 then (riverbanklaw03_PlaceInside.j0 k a1 t684 t685 true) else (if a1 > 89 then (riverbanklaw03_PlaceInside.j0 k a1 t684 t685 true) else (riverbanklaw03_PlaceInside.j0 k a1 t684 t685 (decide (t684 < 0))))) else ((riverbanklaw03_live.f).bind fun t687 => (some t687)))) = some r := H
  have A4 := Aside0.mk A40
  clear A40
  replace H := Option.bind_eq_some_iff.mp H
  obtain ⟨t686, A50, H⟩ := H
  replace H : (if t686 = true then (if a1 < 0 then (riverbanklaw03_PlaceInside.j0 k a1 t684 t685 true) else (if a1 > 89 then (riverbanklaw03_PlaceInside.j0 k a1 t684 t685 true) else (riverbanklaw03_PlaceInside.j0 k a1 t684 t685 (decide (t684 < 0))))) else ((riverbanklaw03_live.f).bind fun t687 => (some t687))) = some r := H
  have A5 := Aside0.mk A50
  clear A50
  by_cases c6 : t686 = true
  · subst c6
    have H1 : (if a1 < 0 then (riverbanklaw03_PlaceInside.j0 k a1 t684 t685 true) else (if a1 > 89 then (riverbanklaw03_PlaceInside.j0 k a1 t684 t685 true) else (riverbanklaw03_PlaceInside.j0 k a1 t684 t685 (decide (t684 < 0))))) = some r := by rw [if_pos rfl] at H; exact H
    clear H
    have H := H1
    clear H1
    have HC7 := Aside0.mk H
    clear H
    go_enter Tryd.func19, Tryd.ntmps19
    go_upto_region 5 with (first | ((with_reducible refine gate_callee (f := 49) rfl ?_); refine goesL_ (some 9) rfl rfl Tryd.func49 (by kernel_rfl) rfl #[.int .u8 a0] rfl (by (try simp only [List.map_toArray, List.map_cons, List.map_nil]); first | done | rfl | (simp only [List.length_drop, List.length_take]; rfl)) ?_; (with_reducible refine (riverbankref02_Side.calls k a0 t684 _ A3.out).mono ?_); rintro e w' ⟨rfl, ⟨nd, rfl⟩⟩; refine ⟨_, rfl, ?_⟩) | ((with_reducible refine gate_callee (f := 64) rfl ?_); refine goesL_ (some 11) rfl rfl Tryd.func64 (by kernel_rfl) rfl #[.int .u8 a0] rfl (by (try simp only [List.map_toArray, List.map_cons, List.map_nil]); first | done | rfl | (simp only [List.length_drop, List.length_take]; rfl)) ?_; (with_reducible refine (riverbankref02_Kind.calls k a0 t685 _ A4.out).mono ?_); rintro e w' ⟨rfl, ⟨nd, rfl⟩⟩; refine ⟨_, rfl, ?_⟩) | ((with_reducible refine gate_callee (f := 71) rfl ?_); refine goesL_ (some 14) rfl rfl Tryd.func71 (by kernel_rfl) rfl #[.int .u8 a0, .int .i64 a1] rfl (by (try simp only [List.map_toArray, List.map_cons, List.map_nil]); first | done | rfl | (simp only [List.length_drop, List.length_take]; rfl)) ?_; (with_reducible refine (place_May.calls k a0 a1 true _ A5.out).mono ?_); rintro e w8 ⟨rfl, hb⟩; refine ⟨_, rfl, ?_⟩; have n0_ := Aside0.mk (below_step (by repeat (first | (with_reducible first | exact HB.out | apply below_alloc | apply pw_below_drewN | apply below_drew1) | exact HB.out)) hb); clear HB; have HB := n0_; clear n0_; (try clear hb); (try clear hb2); (try clear hk); (try clear hi)))
    (try simp only [Act.put, List.setIfInBounds_toArray, List.set_cons_zero, List.set_cons_succ])
    go_cut [26] (fun v26 wc => ∃ (kq : Nat) (x26_6 : Bool), v26 = .bool x26_6 ∧ Aside0 (riverbanklaw03_PlaceInside.j0 kq a1 t684 t685 x26_6 = some r) ∧ Aside0 (kq ≤ k) ∧ Aside0 (Below w.heap.size w wc))
    case first =>
      have H := HC7.out
      clear HC7
      by_cases c9 : a1 < 0
      · rw [if_pos c9] at H
        have c9b0 : decide (a1 < 0) = true := decide_eq_true c9
        clear c9
        (first | rw [c9b0] | (simp only [i64_w, i32_w]; rw [c9b0]) | skip)
        have H' := Aside0.mk H
        clear H
        go_wp2
        go_meet
        case rel => exact ⟨_, (true), (by first | rfl | (simp; done) | (simp [*]; done)), H', ⟨by first | omega | exact Nat.le_refl _⟩, ⟨by repeat (first | (with_reducible first | exact HB.out | apply below_alloc | apply pw_below_drewN | apply below_drew1) | exact HB.out)⟩⟩
      · rw [if_neg c9] at H
        have c9b0 : decide (a1 < 0) = false := decide_eq_false c9
        clear c9
        (first | rw [c9b0] | (simp only [i64_w, i32_w]; rw [c9b0]) | skip)
        by_cases c10 : a1 > 89
        · rw [if_pos c10] at H
          have c10b0 : decide (89 < a1) = true := decide_eq_true c10
          clear c10
          have H' := Aside0.mk H
          clear H
          go_wp2
          go_meet
          case rel => exact ⟨_, (true), (by first | rfl | (simp; done) | (simp [*]; done)), H', ⟨by first | omega | exact Nat.le_refl _⟩, ⟨by repeat (first | (with_reducible first | exact HB.out | apply below_alloc | apply pw_below_drewN | apply below_drew1) | exact HB.out)⟩⟩
        · rw [if_neg c10] at H
          have c10b0 : decide (89 < a1) = false := decide_eq_false c10
          clear c10
          have H' := Aside0.mk H
          clear H
          go_wp2
          go_meet
          case rel => exact ⟨_, (decide (t684 < 0)), (by first | rfl | (simp; done) | (simp [*]; done)), H', ⟨by first | omega | exact Nat.le_refl _⟩, ⟨by repeat (first | (with_reducible first | exact HB.out | apply below_alloc | apply pw_below_drewN | apply below_drew1) | exact HB.out)⟩⟩
    case rest =>
      clear HC7
      try clear c1
      try clear p2
      try clear c4
      try clear c6
      try clear c7
      try clear c9
      try clear c9b0
      try clear c10
      try clear c10b0
      obtain ⟨kq, x26_6, rfl, HA, HJ6, HB⟩ := hcut
      cases kq with
      | zero => exact absurd HA.out (by simp [riverbanklaw03_PlaceInside.j0])
      | succ kj6 =>
        have H := HA.out
        clear HA
        simp only [riverbanklaw03_PlaceInside.j0] at H
        by_cases c11 : x26_6 = true
        · subst c11
          have H1 : (some false) = some r := by rw [if_pos rfl] at H; exact H
          clear H
          have H := H1
          clear H1
          obtain rfl := Option.some.inj H
          go_wp2
          go_ret
          exact ⟨by first | rfl | (simp [errW_none, errW_some] <;> rfl) | (simp [*, errW_none, errW_some] <;> rfl), by repeat (first | (with_reducible first | exact HB.out | apply below_alloc | apply pw_below_drewN | apply below_drew1) | exact HB.out)⟩
        · replace c11 := Bool.eq_false_iff.mpr c11
          subst c11
          have H1 : (if t685 = 75 then ((place_Over.f kj6 a1 t684).bind fun t688 => (if t688 = true then (some false) else ((place_Palace.f kj6 a1 t684).bind fun t689 => (if t689 = true then ((riverbanklaw03_live.f).bind fun t690 => (some t690)) else (some false))))) else (if t685 = 65 then ((place_Over.f kj6 a1 t684).bind fun t691 => (if t691 = true then (some false) else ((place_Palace.f kj6 a1 t684).bind fun t692 => (if t692 = true then ((riverbanklaw03_live.f).bind fun t693 => (some t693)) else (some false))))) else (if t685 = 66 then ((place_Over.f kj6 a1 t684).bind fun t694 => (if t694 = true then (some false) else ((riverbanklaw03_live.f).bind fun t695 => (some t695)))) else ((riverbanklaw03_live.f).bind fun t696 => (some t696))))) = some r := by rw [if_neg (show ¬ (false = true) by decide)] at H; exact H
          clear H
          have H := H1
          clear H1
          by_cases c12 : t685 = 75
          · rw [if_pos c12] at H
            have c12b0 : (t685 == 75) = true := beq_iff_eq.mpr c12
            have c12b1 : (t685 != 75) = false := bne_eq_false_iff_eq.mpr c12
            clear c12
            replace H := Option.bind_eq_some_iff.mp H
            obtain ⟨t688, A130, H⟩ := H
            replace H : (if t688 = true then (some false) else ((place_Palace.f kj6 a1 t684).bind fun t689 => (if t689 = true then ((riverbanklaw03_live.f).bind fun t690 => (some t690)) else (some false)))) = some r := H
            have A13 := Aside0.mk A130
            clear A130
            by_cases c14 : t688 = true
            · subst c14
              have H1 : (some false) = some r := by rw [if_pos rfl] at H; exact H
              clear H
              have H := H1
              clear H1
              obtain rfl := Option.some.inj H
              go_wp2_with (first | (go_at_call 79; (with_reducible refine (place_Over.calls kj6 a1 t684 true _ A13.out).mono ?_); rintro e w15 ⟨rfl, hb⟩; have n0_ := Aside0.mk (below_step (by repeat (first | (with_reducible first | exact HB.out | apply below_alloc | apply pw_below_drewN | apply below_drew1) | exact HB.out)) hb); clear HB; have HB := n0_; clear n0_; (try clear hb); (try clear hb2); (try clear hk); (try clear hi)))
              go_ret
              exact ⟨by first | rfl | (simp [errW_none, errW_some] <;> rfl) | (simp [*, errW_none, errW_some] <;> rfl), by repeat (first | (with_reducible first | exact HB.out | apply below_alloc | apply pw_below_drewN | apply below_drew1) | exact HB.out)⟩
            · replace c14 := Bool.eq_false_iff.mpr c14
              subst c14
              have H1 : ((place_Palace.f kj6 a1 t684).bind fun t689 => (if t689 = true then ((riverbanklaw03_live.f).bind fun t690 => (some t690)) else (some false))) = some r := by rw [if_neg (show ¬ (false = true) by decide)] at H; exact H
              clear H
              have H := H1
              clear H1
              replace H := Option.bind_eq_some_iff.mp H
              obtain ⟨t689, A160, H⟩ := H
              replace H : (if t689 = true then ((riverbanklaw03_live.f).bind fun t690 => (some t690)) else (some false)) = some r := H
              have A16 := Aside0.mk A160
              clear A160
              by_cases c17 : t689 = true
              · subst c17
                have H1 : ((riverbanklaw03_live.f).bind fun t690 => (some t690)) = some r := by rw [if_pos rfl] at H; exact H
                clear H
                have H := H1
                clear H1
                replace H := Option.bind_eq_some_iff.mp H
                obtain ⟨t690, A180, H⟩ := H
                replace H : (some t690) = some r := H
                have A18 := Aside0.mk A180
                clear A180
                obtain rfl := Option.some.inj H
                go_wp2_with (first | (go_at_call 79; (with_reducible refine (place_Over.calls kj6 a1 t684 false _ A13.out).mono ?_); rintro e w19 ⟨rfl, hb⟩; have n0_ := Aside0.mk (below_step (by repeat (first | (with_reducible first | exact HB.out | apply below_alloc | apply pw_below_drewN | apply below_drew1) | exact HB.out)) hb); clear HB; have HB := n0_; clear n0_; (try clear hb); (try clear hb2); (try clear hk); (try clear hi)) | (go_at_call 77; (with_reducible refine (place_Palace.calls kj6 a1 t684 true _ A16.out).mono ?_); rintro e w20 ⟨rfl, hb⟩; have n0_ := Aside0.mk (below_step (by repeat (first | (with_reducible first | exact HB.out | apply below_alloc | apply pw_below_drewN | apply below_drew1) | exact HB.out)) hb); clear HB; have HB := n0_; clear n0_; (try clear hb); (try clear hb2); (try clear hk); (try clear hi)) | (go_at_call 81; (with_reducible refine (riverbanklaw03_live.calls  t690 _ (tab_of HT.out (by repeat (first | (with_reducible first | exact HB.out | apply below_alloc | apply pw_below_drewN | apply below_drew1) | exact HB.out))) A18.out).mono ?_); rintro e w21 ⟨rfl, hb⟩; have n0_ := Aside0.mk (below_step (by repeat (first | (with_reducible first | exact HB.out | apply below_alloc | apply pw_below_drewN | apply below_drew1) | exact HB.out)) hb); clear HB; have HB := n0_; clear n0_; (try clear hb); (try clear hb2); (try clear hk); (try clear hi)))
                go_ret
                exact ⟨by first | rfl | (simp [errW_none, errW_some] <;> rfl) | (simp [*, errW_none, errW_some] <;> rfl), by repeat (first | (with_reducible first | exact HB.out | apply below_alloc | apply pw_below_drewN | apply below_drew1) | exact HB.out)⟩
              · replace c17 := Bool.eq_false_iff.mpr c17
                subst c17
                have H1 : (some false) = some r := by rw [if_neg (show ¬ (false = true) by decide)] at H; exact H
                clear H
                have H := H1
                clear H1
                obtain rfl := Option.some.inj H
                go_wp2_with (first | (go_at_call 79; (with_reducible refine (place_Over.calls kj6 a1 t684 false _ A13.out).mono ?_); rintro e w22 ⟨rfl, hb⟩; have n0_ := Aside0.mk (below_step (by repeat (first | (with_reducible first | exact HB.out | apply below_alloc | apply pw_below_drewN | apply below_drew1) | exact HB.out)) hb); clear HB; have HB := n0_; clear n0_; (try clear hb); (try clear hb2); (try clear hk); (try clear hi)) | (go_at_call 77; (with_reducible refine (place_Palace.calls kj6 a1 t684 false _ A16.out).mono ?_); rintro e w23 ⟨rfl, hb⟩; have n0_ := Aside0.mk (below_step (by repeat (first | (with_reducible first | exact HB.out | apply below_alloc | apply pw_below_drewN | apply below_drew1) | exact HB.out)) hb); clear HB; have HB := n0_; clear n0_; (try clear hb); (try clear hb2); (try clear hk); (try clear hi)))
                go_ret
                exact ⟨by first | rfl | (simp [errW_none, errW_some] <;> rfl) | (simp [*, errW_none, errW_some] <;> rfl), by repeat (first | (with_reducible first | exact HB.out | apply below_alloc | apply pw_below_drewN | apply below_drew1) | exact HB.out)⟩
          · rw [if_neg c12] at H
            have c12b0 : (t685 == 75) = false := beq_eq_false_iff_ne.mpr c12
            have c12b1 : (t685 != 75) = true := bne_iff_ne.mpr c12
            by_cases c24 : t685 = 65
            · rw [if_pos c24] at H
              have c24b0 : (t685 == 65) = true := beq_iff_eq.mpr c24
              have c24b1 : (t685 != 65) = false := bne_eq_false_iff_eq.mpr c24
              clear c24
              replace H := Option.bind_eq_some_iff.mp H
              obtain ⟨t691, A250, H⟩ := H
              replace H : (if t691 = true then (some false) else ((place_Palace.f kj6 a1 t684).bind fun t692 => (if t692 = true then ((riverbanklaw03_live.f).bind fun t693 => (some t693)) else (some false)))) = some r := H
              have A25 := Aside0.mk A250
              clear A250
              by_cases c26 : t691 = true
              · subst c26
                have H1 : (some false) = some r := by rw [if_pos rfl] at H; exact H
                clear H
                have H := H1
                clear H1
                obtain rfl := Option.some.inj H
                go_wp2_with (first | (go_at_call 79; (with_reducible refine (place_Over.calls kj6 a1 t684 true _ A25.out).mono ?_); rintro e w27 ⟨rfl, hb⟩; have n0_ := Aside0.mk (below_step (by repeat (first | (with_reducible first | exact HB.out | apply below_alloc | apply pw_below_drewN | apply below_drew1) | exact HB.out)) hb); clear HB; have HB := n0_; clear n0_; (try clear hb); (try clear hb2); (try clear hk); (try clear hi)))
                go_ret
                exact ⟨by first | rfl | (simp [errW_none, errW_some] <;> rfl) | (simp [*, errW_none, errW_some] <;> rfl), by repeat (first | (with_reducible first | exact HB.out | apply below_alloc | apply pw_below_drewN | apply below_drew1) | exact HB.out)⟩
              · replace c26 := Bool.eq_false_iff.mpr c26
                subst c26
                have H1 : ((place_Palace.f kj6 a1 t684).bind fun t692 => (if t692 = true then ((riverbanklaw03_live.f).bind fun t693 => (some t693)) else (some false))) = some r := by rw [if_neg (show ¬ (false = true) by decide)] at H; exact H
                clear H
                have H := H1
                clear H1
                replace H := Option.bind_eq_some_iff.mp H
                obtain ⟨t692, A280, H⟩ := H
                replace H : (if t692 = true then ((riverbanklaw03_live.f).bind fun t693 => (some t693)) else (some false)) = some r := H
                have A28 := Aside0.mk A280
                clear A280
                by_cases c29 : t692 = true
                · subst c29
                  have H1 : ((riverbanklaw03_live.f).bind fun t693 => (some t693)) = some r := by rw [if_pos rfl] at H; exact H
                  clear H
                  have H := H1
                  clear H1
                  replace H := Option.bind_eq_some_iff.mp H
                  obtain ⟨t693, A300, H⟩ := H
                  replace H : (some t693) = some r := H
                  have A30 := Aside0.mk A300
                  clear A300
                  obtain rfl := Option.some.inj H
                  go_wp2_with (first | (go_at_call 79; (with_reducible refine (place_Over.calls kj6 a1 t684 false _ A25.out).mono ?_); rintro e w31 ⟨rfl, hb⟩; have n0_ := Aside0.mk (below_step (by repeat (first | (with_reducible first | exact HB.out | apply below_alloc | apply pw_below_drewN | apply below_drew1) | exact HB.out)) hb); clear HB; have HB := n0_; clear n0_; (try clear hb); (try clear hb2); (try clear hk); (try clear hi)) | (go_at_call 77; (with_reducible refine (place_Palace.calls kj6 a1 t684 true _ A28.out).mono ?_); rintro e w32 ⟨rfl, hb⟩; have n0_ := Aside0.mk (below_step (by repeat (first | (with_reducible first | exact HB.out | apply below_alloc | apply pw_below_drewN | apply below_drew1) | exact HB.out)) hb); clear HB; have HB := n0_; clear n0_; (try clear hb); (try clear hb2); (try clear hk); (try clear hi)) | (go_at_call 81; (with_reducible refine (riverbanklaw03_live.calls  t693 _ (tab_of HT.out (by repeat (first | (with_reducible first | exact HB.out | apply below_alloc | apply pw_below_drewN | apply below_drew1) | exact HB.out))) A30.out).mono ?_); rintro e w33 ⟨rfl, hb⟩; have n0_ := Aside0.mk (below_step (by repeat (first | (with_reducible first | exact HB.out | apply below_alloc | apply pw_below_drewN | apply below_drew1) | exact HB.out)) hb); clear HB; have HB := n0_; clear n0_; (try clear hb); (try clear hb2); (try clear hk); (try clear hi)))
                  go_ret
                  exact ⟨by first | rfl | (simp [errW_none, errW_some] <;> rfl) | (simp [*, errW_none, errW_some] <;> rfl), by repeat (first | (with_reducible first | exact HB.out | apply below_alloc | apply pw_below_drewN | apply below_drew1) | exact HB.out)⟩
                · replace c29 := Bool.eq_false_iff.mpr c29
                  subst c29
                  have H1 : (some false) = some r := by rw [if_neg (show ¬ (false = true) by decide)] at H; exact H
                  clear H
                  have H := H1
                  clear H1
                  obtain rfl := Option.some.inj H
                  go_wp2_with (first | (go_at_call 79; (with_reducible refine (place_Over.calls kj6 a1 t684 false _ A25.out).mono ?_); rintro e w34 ⟨rfl, hb⟩; have n0_ := Aside0.mk (below_step (by repeat (first | (with_reducible first | exact HB.out | apply below_alloc | apply pw_below_drewN | apply below_drew1) | exact HB.out)) hb); clear HB; have HB := n0_; clear n0_; (try clear hb); (try clear hb2); (try clear hk); (try clear hi)) | (go_at_call 77; (with_reducible refine (place_Palace.calls kj6 a1 t684 false _ A28.out).mono ?_); rintro e w35 ⟨rfl, hb⟩; have n0_ := Aside0.mk (below_step (by repeat (first | (with_reducible first | exact HB.out | apply below_alloc | apply pw_below_drewN | apply below_drew1) | exact HB.out)) hb); clear HB; have HB := n0_; clear n0_; (try clear hb); (try clear hb2); (try clear hk); (try clear hi)))
                  go_ret
                  exact ⟨by first | rfl | (simp [errW_none, errW_some] <;> rfl) | (simp [*, errW_none, errW_some] <;> rfl), by repeat (first | (with_reducible first | exact HB.out | apply below_alloc | apply pw_below_drewN | apply below_drew1) | exact HB.out)⟩
            · rw [if_neg c24] at H
              have c24b0 : (t685 == 65) = false := beq_eq_false_iff_ne.mpr c24
              have c24b1 : (t685 != 65) = true := bne_iff_ne.mpr c24
              by_cases c36 : t685 = 66
              · rw [if_pos c36] at H
                have c36b0 : (t685 == 66) = true := beq_iff_eq.mpr c36
                have c36b1 : (t685 != 66) = false := bne_eq_false_iff_eq.mpr c36
                clear c36
                replace H := Option.bind_eq_some_iff.mp H
                obtain ⟨t694, A370, H⟩ := H
                replace H : (if t694 = true then (some false) else ((riverbanklaw03_live.f).bind fun t695 => (some t695))) = some r := H
                have A37 := Aside0.mk A370
                clear A370
                by_cases c38 : t694 = true
                · subst c38
                  have H1 : (some false) = some r := by rw [if_pos rfl] at H; exact H
                  clear H
                  have H := H1
                  clear H1
                  obtain rfl := Option.some.inj H
                  go_wp2_with (first | (go_at_call 79; (with_reducible refine (place_Over.calls kj6 a1 t684 true _ A37.out).mono ?_); rintro e w39 ⟨rfl, hb⟩; have n0_ := Aside0.mk (below_step (by repeat (first | (with_reducible first | exact HB.out | apply below_alloc | apply pw_below_drewN | apply below_drew1) | exact HB.out)) hb); clear HB; have HB := n0_; clear n0_; (try clear hb); (try clear hb2); (try clear hk); (try clear hi)))
                  go_ret
                  exact ⟨by first | rfl | (simp [errW_none, errW_some] <;> rfl) | (simp [*, errW_none, errW_some] <;> rfl), by repeat (first | (with_reducible first | exact HB.out | apply below_alloc | apply pw_below_drewN | apply below_drew1) | exact HB.out)⟩
                · replace c38 := Bool.eq_false_iff.mpr c38
                  subst c38
                  have H1 : ((riverbanklaw03_live.f).bind fun t695 => (some t695)) = some r := by rw [if_neg (show ¬ (false = true) by decide)] at H; exact H
                  clear H
                  have H := H1
                  clear H1
                  replace H := Option.bind_eq_some_iff.mp H
                  obtain ⟨t695, A400, H⟩ := H
                  replace H : (some t695) = some r := H
                  have A40 := Aside0.mk A400
                  clear A400
                  obtain rfl := Option.some.inj H
                  go_wp2_with (first | (go_at_call 79; (with_reducible refine (place_Over.calls kj6 a1 t684 false _ A37.out).mono ?_); rintro e w41 ⟨rfl, hb⟩; have n0_ := Aside0.mk (below_step (by repeat (first | (with_reducible first | exact HB.out | apply below_alloc | apply pw_below_drewN | apply below_drew1) | exact HB.out)) hb); clear HB; have HB := n0_; clear n0_; (try clear hb); (try clear hb2); (try clear hk); (try clear hi)) | (go_at_call 81; (with_reducible refine (riverbanklaw03_live.calls  t695 _ (tab_of HT.out (by repeat (first | (with_reducible first | exact HB.out | apply below_alloc | apply pw_below_drewN | apply below_drew1) | exact HB.out))) A40.out).mono ?_); rintro e w42 ⟨rfl, hb⟩; have n0_ := Aside0.mk (below_step (by repeat (first | (with_reducible first | exact HB.out | apply below_alloc | apply pw_below_drewN | apply below_drew1) | exact HB.out)) hb); clear HB; have HB := n0_; clear n0_; (try clear hb); (try clear hb2); (try clear hk); (try clear hi)))
                  go_ret
                  exact ⟨by first | rfl | (simp [errW_none, errW_some] <;> rfl) | (simp [*, errW_none, errW_some] <;> rfl), by repeat (first | (with_reducible first | exact HB.out | apply below_alloc | apply pw_below_drewN | apply below_drew1) | exact HB.out)⟩
              · rw [if_neg c36] at H
                have c36b0 : (t685 == 66) = false := beq_eq_false_iff_ne.mpr c36
                have c36b1 : (t685 != 66) = true := bne_iff_ne.mpr c36
                replace H := Option.bind_eq_some_iff.mp H
                obtain ⟨t696, A430, H⟩ := H
                replace H : (some t696) = some r := H
                have A43 := Aside0.mk A430
                clear A430
                obtain rfl := Option.some.inj H
                go_wp2_with (first | (go_at_call 81; (with_reducible refine (riverbanklaw03_live.calls  t696 _ (tab_of HT.out (by repeat (first | (with_reducible first | exact HB.out | apply below_alloc | apply pw_below_drewN | apply below_drew1) | exact HB.out))) A43.out).mono ?_); rintro e w44 ⟨rfl, hb⟩; have n0_ := Aside0.mk (below_step (by repeat (first | (with_reducible first | exact HB.out | apply below_alloc | apply pw_below_drewN | apply below_drew1) | exact HB.out)) hb); clear HB; have HB := n0_; clear n0_; (try clear hb); (try clear hb2); (try clear hk); (try clear hi)))
                go_ret
                exact ⟨by first | rfl | (simp [errW_none, errW_some] <;> rfl) | (simp [*, errW_none, errW_some] <;> rfl), by repeat (first | (with_reducible first | exact HB.out | apply below_alloc | apply pw_below_drewN | apply below_drew1) | exact HB.out)⟩
  · replace c6 := Bool.eq_false_iff.mpr c6
    subst c6
    have H1 : ((riverbanklaw03_live.f).bind fun t687 => (some t687)) = some r := by rw [if_neg (show ¬ (false = true) by decide)] at H; exact H
    clear H
    have H := H1
    clear H1
    replace H := Option.bind_eq_some_iff.mp H
    obtain ⟨t687, A450, H⟩ := H
    replace H : (some t687) = some r := H
    have A45 := Aside0.mk A450
    clear A450
    obtain rfl := Option.some.inj H
    go_enter Tryd.func19, Tryd.ntmps19
    go_wp2_with (first | ((with_reducible refine gate_callee (f := 49) rfl ?_); refine goesL_ (some 9) rfl rfl Tryd.func49 (by kernel_rfl) rfl #[.int .u8 a0] rfl (by (try simp only [List.map_toArray, List.map_cons, List.map_nil]); first | done | rfl | (simp only [List.length_drop, List.length_take]; rfl)) ?_; (with_reducible refine (riverbankref02_Side.calls k a0 t684 _ A3.out).mono ?_); rintro e w' ⟨rfl, ⟨nd, rfl⟩⟩; refine ⟨_, rfl, ?_⟩) | ((with_reducible refine gate_callee (f := 64) rfl ?_); refine goesL_ (some 11) rfl rfl Tryd.func64 (by kernel_rfl) rfl #[.int .u8 a0] rfl (by (try simp only [List.map_toArray, List.map_cons, List.map_nil]); first | done | rfl | (simp only [List.length_drop, List.length_take]; rfl)) ?_; (with_reducible refine (riverbankref02_Kind.calls k a0 t685 _ A4.out).mono ?_); rintro e w' ⟨rfl, ⟨nd, rfl⟩⟩; refine ⟨_, rfl, ?_⟩) | ((with_reducible refine gate_callee (f := 71) rfl ?_); refine goesL_ (some 14) rfl rfl Tryd.func71 (by kernel_rfl) rfl #[.int .u8 a0, .int .i64 a1] rfl (by (try simp only [List.map_toArray, List.map_cons, List.map_nil]); first | done | rfl | (simp only [List.length_drop, List.length_take]; rfl)) ?_; (with_reducible refine (place_May.calls k a0 a1 false _ A5.out).mono ?_); rintro e w46 ⟨rfl, hb⟩; refine ⟨_, rfl, ?_⟩; have n0_ := Aside0.mk (below_step (by repeat (first | (with_reducible first | exact HB.out | apply below_alloc | apply pw_below_drewN | apply below_drew1) | exact HB.out)) hb); clear HB; have HB := n0_; clear n0_; (try clear hb); (try clear hb2); (try clear hk); (try clear hi)) | ((with_reducible refine gate_callee (f := 81) rfl ?_); refine goesL_ (some 16) rfl rfl Tryd.func81 (by kernel_rfl) rfl #[] rfl (by (try simp only [List.map_toArray, List.map_cons, List.map_nil]); first | done | rfl | (simp only [List.length_drop, List.length_take]; rfl)) ?_; (with_reducible refine (riverbanklaw03_live.calls  t687 _ (tab_of HT.out (by repeat (first | (with_reducible first | exact HB.out | apply below_alloc | apply pw_below_drewN | apply below_drew1) | exact HB.out))) A45.out).mono ?_); rintro e w47 ⟨rfl, hb⟩; refine ⟨_, rfl, ?_⟩; have n0_ := Aside0.mk (below_step (by repeat (first | (with_reducible first | exact HB.out | apply below_alloc | apply pw_below_drewN | apply below_drew1) | exact HB.out)) hb); clear HB; have HB := n0_; clear n0_; (try clear hb); (try clear hb2); (try clear hk); (try clear hi)))
    go_ret
    exact ⟨by first | rfl | (simp [errW_none, errW_some] <;> rfl) | (simp [*, errW_none, errW_some] <;> rfl), by repeat (first | (with_reducible first | exact HB.out | apply below_alloc | apply pw_below_drewN | apply below_drew1) | exact HB.out)⟩

/-- THE ONE PURE STATEMENT of riverbanklaw03_PlaceInside: yours. -/
def riverbanklaw03_PlaceInside.Pure : Prop := ∀ (a0 : Int) (a1 : Int), (Lit.int .u8 a0).wf = true → (Lit.int .i64 a1).wf = true → ∃ k, riverbanklaw03_PlaceInside.f k a0 a1 = some true
theorem riverbanklaw03_PlaceInside.walk (P : riverbanklaw03_PlaceInside.Pure) (a0 : Int) (a1 : Int) (w : World) (hT : TabHere w) (w0 : (Lit.int .u8 a0).wf = true) (w1 : (Lit.int .i64 a1).wf = true) :
    Calls Tryd.prog 19 #[.int .u8 a0, .int .i64 a1] w fun e w' => e = .returned (.bool true) ∧ Below w.heap.size w w' := by
  obtain ⟨k, h⟩ := P a0 a1 w0 w1
  refine (riverbanklaw03_PlaceInside.calls k a0 a1 true w hT h).mono ?_
  rintro e w' ⟨rfl, hd⟩
  exact ⟨rfl, hd⟩

end Go.Proofs.YtkbimiimgcklaaaDoor.Print
