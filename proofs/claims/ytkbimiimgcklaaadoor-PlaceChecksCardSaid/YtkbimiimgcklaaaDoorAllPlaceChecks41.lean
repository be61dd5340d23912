/- Merged by a program of this session (wip/gprint/merge.py): what this claim needs of this session's texts, each part as it was. -/
import Derived.Test.YtkbimiimgcklaaaDoorAllPlaceChecks7
import Derived.Test.YtkbimiimgcklaaaDoorAllPlaceChecks8
import Derived.Test.YtkbimiimgcklaaaDoorAllPlaceChecks9
import Derived.Test.YtkbimiimgcklaaaDoorAllPlaceChecks38
import Derived.Test.YtkbimiimgcklaaaDoorAllPlaceChecks40
namespace Go.Proofs.YtkbimiimgcklaaaDoor.Print
end Go.Proofs.YtkbimiimgcklaaaDoor.Print

-- of YtkbimiimgcklaaaDoorPrint48
-- Written by a program of this session (wip/gprint/gprint.py) over the kit's print; the parts marked GIVEN by hand.
namespace Go.Proofs.YtkbimiimgcklaaaDoor.Print
open Go.RowKit Go.Proofs.YtkbimiimgcklaaaDoorW.PrintWords Go.Proofs.YtkbimiimgcklaaaDoorW.PrintLast Go.Proofs.YtkbimiimgcklaaaDoorW.PrintMore
attribute [local go_sem] max2_int min2_int max_two min_two max_three min_three max_four min_four   -- for this text's walks alone
set_option linter.unusedVariables false
set_option linter.unusedSimpArgs false

/-! ### riverbankref03_Check: function 83 -/
mutual
def riverbankref03_Check.j0 : Nat → Bool → ByteArray → Int → Int → Int → Option (Int)
  | 0, _, _, _, _, _ => none
  | k + 1, x40, x648000, x648001, x648002, x648003 => if x40 = true then (some 1) else (riverbankref03_Check.l0 k (⟨#[75, 65, 66, 78, 82, 67, 80, 107, 97, 98, 110, 114, 99, 112]⟩ : ByteArray) 0 x648000 x648001 x648002 x648003)
def riverbankref03_Check.l0 : Nat → ByteArray → Int → ByteArray → Int → Int → Int → Option (Int)
  | 0, _, _, _, _, _, _ => none
  | k + 1, x3, x4, x648000, x648001, x648002, x648003 => if x4 < (x3.size : Int) then (if 0 ≤ x4 then ((riverbankref02_Find.f k x648000 (bt x3 x4)).bind fun t649 => ((riverbankref03_Most.f k (bt x3 x4)).bind fun t652 => (if (t649.length : Int) > t652 then (some 3) else ((riverbankref02_Kind.f k (bt x3 x4)).bind fun t653 => (if t653 = 75 then (if (t649.length : Int) = 1 then (riverbankref03_Check.l0 k x3 (wrap64 (x4 + 1)) x648000 x648001 x648002 x648003) else (some 3)) else (riverbankref03_Check.l0 k x3 (wrap64 (x4 + 1)) x648000 x648001 x648002 x648003)))))) else (none)) else (riverbankref03_Check.l1 k 0 x648000 x648001 x648002 x648003)
def riverbankref03_Check.l1 : Nat → Int → ByteArray → Int → Int → Int → Option (Int)
  | 0, _, _, _, _, _ => none
  | k + 1, x6, x648000, x648001, x648002, x648003 => if x6 < 90 then (if 0 ≤ x6 then (if x6 < (x648000.size : Int) then (if (bt x648000 x6) = 46 then (riverbankref03_Check.l1 k (wrap64 (x6 + 1)) x648000 x648001 x648002 x648003) else ((riverbankref03_May.f k (bt x648000 x6) x6).bind fun t654 => (if t654 = true then (riverbankref03_Check.l1 k (wrap64 (x6 + 1)) x648000 x648001 x648002 x648003) else (some 2)))) else (none)) else (none)) else (some 0)
end
def riverbankref03_Check.f (k : Nat) (a0_0 : ByteArray) (a0_1 : Int) (a0_2 : Int) (a0_3 : Int) : Option (Int) := (riverbankref02_Is.f k a0_0).bind fun t648 => (if t648 = true then (if a0_1 < 0 then (riverbankref03_Check.j0 k true a0_0 a0_1 a0_2 a0_3) else (if a0_1 > 1 then (riverbankref03_Check.j0 k true a0_0 a0_1 a0_2 a0_3) else (if a0_2 < 0 then (riverbankref03_Check.j0 k true a0_0 a0_1 a0_2 a0_3) else (if a0_2 > 120 then (riverbankref03_Check.j0 k true a0_0 a0_1 a0_2 a0_3) else (if a0_3 < 1 then (riverbankref03_Check.j0 k true a0_0 a0_1 a0_2 a0_3) else (riverbankref03_Check.j0 k (decide (a0_3 > 9999)) a0_0 a0_1 a0_2 a0_3)))))) else (riverbankref03_Check.j0 k true a0_0 a0_1 a0_2 a0_3))
theorem riverbankref03_Check.mono_l : ∀ k, (∀ y0 y1 y2 y3 y4, LeO (riverbankref03_Check.j0 k y0 y1 y2 y3 y4) (riverbankref03_Check.j0 (k + 1) y0 y1 y2 y3 y4)) ∧ (∀ y0 y1 y2 y3 y4 y5, LeO (riverbankref03_Check.l0 k y0 y1 y2 y3 y4 y5) (riverbankref03_Check.l0 (k + 1) y0 y1 y2 y3 y4 y5)) ∧ (∀ y0 y1 y2 y3 y4, LeO (riverbankref03_Check.l1 k y0 y1 y2 y3 y4) (riverbankref03_Check.l1 (k + 1) y0 y1 y2 y3 y4))
  | 0 => ⟨fun _ _ _ _ _ r h => by simp [riverbankref03_Check.j0] at h, fun _ _ _ _ _ _ r h => by simp [riverbankref03_Check.l0] at h, fun _ _ _ _ _ r h => by simp [riverbankref03_Check.l1] at h⟩
  | k + 1 => by
    obtain ⟨ih0, ih1, ih2⟩ := riverbankref03_Check.mono_l k
    refine ⟨?_, ?_, ?_⟩
    · intro y0 y1 y2 y3 y4
      unfold riverbankref03_Check.j0
      repeat' first
      | (with_reducible exact ih0 _ _ _ _ _)
      | (with_reducible exact ih1 _ _ _ _ _ _)
      | (with_reducible exact ih2 _ _ _ _ _)
      | (with_reducible exact riverbankref02_Find.mono _ _ _)
      | (with_reducible exact riverbankref02_Is.mono _ _)
      | (with_reducible exact riverbankref02_Kind.mono _ _)
      | (with_reducible exact riverbankref03_May.mono _ _ _)
      | (with_reducible exact riverbankref03_Most.mono _ _)
      | (with_reducible exact LeO.refl _)
      | (with_reducible exact LeO.none _)
      | (with_reducible refine LeO.ite ?_ ?_)
      | (with_reducible refine LeO.bind ?_ (fun _ => ?_))
      | exact ih0 _ _ _ _ _
      | exact ih1 _ _ _ _ _ _
      | exact ih2 _ _ _ _ _
      | exact riverbankref02_Find.mono _ _ _
      | exact riverbankref02_Is.mono _ _
      | exact riverbankref02_Kind.mono _ _
      | exact riverbankref03_May.mono _ _ _
      | exact riverbankref03_Most.mono _ _
      | exact LeO.none _
      | refine LeO.ite ?_ ?_
      | refine LeO.bind ?_ (fun _ => ?_)
    · intro y0 y1 y2 y3 y4 y5
      unfold riverbankref03_Check.l0
      repeat' first
      | (with_reducible exact ih0 _ _ _ _ _)
      | (with_reducible exact ih1 _ _ _ _ _ _)
      | (with_reducible exact ih2 _ _ _ _ _)
      | (with_reducible exact riverbankref02_Find.mono _ _ _)
      | (with_reducible exact riverbankref02_Is.mono _ _)
      | (with_reducible exact riverbankref02_Kind.mono _ _)
      | (with_reducible exact riverbankref03_May.mono _ _ _)
      | (with_reducible exact riverbankref03_Most.mono _ _)
      | (with_reducible exact LeO.refl _)
      | (with_reducible exact LeO.none _)
      | (with_reducible refine LeO.ite ?_ ?_)
      | (with_reducible refine LeO.bind ?_ (fun _ => ?_))
      | exact ih0 _ _ _ _ _
      | exact ih1 _ _ _ _ _ _
      | exact ih2 _ _ _ _ _
      | exact riverbankref02_Find.mono _ _ _
      | exact riverbankref02_Is.mono _ _
      | exact riverbankref02_Kind.mono _ _
      | exact riverbankref03_May.mono _ _ _
      | exact riverbankref03_Most.mono _ _
      | exact LeO.none _
      | refine LeO.ite ?_ ?_
      | refine LeO.bind ?_ (fun _ => ?_)
    · intro y0 y1 y2 y3 y4
      unfold riverbankref03_Check.l1
      repeat' first
      | (with_reducible exact ih0 _ _ _ _ _)
      | (with_reducible exact ih1 _ _ _ _ _ _)
      | (with_reducible exact ih2 _ _ _ _ _)
      | (with_reducible exact riverbankref02_Find.mono _ _ _)
      | (with_reducible exact riverbankref02_Is.mono _ _)
      | (with_reducible exact riverbankref02_Kind.mono _ _)
      | (with_reducible exact riverbankref03_May.mono _ _ _)
      | (with_reducible exact riverbankref03_Most.mono _ _)
      | (with_reducible exact LeO.refl _)
      | (with_reducible exact LeO.none _)
      | (with_reducible refine LeO.ite ?_ ?_)
      | (with_reducible refine LeO.bind ?_ (fun _ => ?_))
      | exact ih0 _ _ _ _ _
      | exact ih1 _ _ _ _ _ _
      | exact ih2 _ _ _ _ _
      | exact riverbankref02_Find.mono _ _ _
      | exact riverbankref02_Is.mono _ _
      | exact riverbankref02_Kind.mono _ _
      | exact riverbankref03_May.mono _ _ _
      | exact riverbankref03_Most.mono _ _
      | exact LeO.none _
      | refine LeO.ite ?_ ?_
      | refine LeO.bind ?_ (fun _ => ?_)
theorem riverbankref03_Check.mono : ∀ a0 a1 a2 a3 k, LeO (riverbankref03_Check.f k a0 a1 a2 a3) (riverbankref03_Check.f (k + 1) a0 a1 a2 a3) := by
  intro a0 a1 a2 a3 k
  obtain ⟨ih0, ih1, ih2⟩ := riverbankref03_Check.mono_l k
  unfold riverbankref03_Check.f
  repeat' first
      | (with_reducible exact ih0 _ _ _ _ _)
      | (with_reducible exact ih1 _ _ _ _ _ _)
      | (with_reducible exact ih2 _ _ _ _ _)
      | (with_reducible exact riverbankref02_Find.mono _ _ _)
      | (with_reducible exact riverbankref02_Is.mono _ _)
      | (with_reducible exact riverbankref02_Kind.mono _ _)
      | (with_reducible exact riverbankref03_May.mono _ _ _)
      | (with_reducible exact riverbankref03_Most.mono _ _)
      | (with_reducible exact LeO.refl _)
      | (with_reducible exact LeO.none _)
      | (with_reducible refine LeO.ite ?_ ?_)
      | (with_reducible refine LeO.bind ?_ (fun _ => ?_))
      | exact ih0 _ _ _ _ _
      | exact ih1 _ _ _ _ _ _
      | exact ih2 _ _ _ _ _
      | exact riverbankref02_Find.mono _ _ _
      | exact riverbankref02_Is.mono _ _
      | exact riverbankref02_Kind.mono _ _
      | exact riverbankref03_May.mono _ _ _
      | exact riverbankref03_Most.mono _ _
      | exact LeO.none _
      | refine LeO.ite ?_ ?_
      | refine LeO.bind ?_ (fun _ => ?_)
def riverbankref03_Check.T7 : Bool × List (List Nat × List Nat) := (true, [([], []), ([0], [0]), ([], []), ([], []), ([2, 3], [2, 3]), ([1, 4], [1, 4]), ([5], [5]), ([6, 5, 0, 1, 2, 3, 4, 5, 6], [6])])
def riverbankref03_Check.B7 : List Nat := [0, 1, 0, 0, 12, 31, 63, 127]
theorem riverbankref03_Check.tab7 : rtab .any (opsOf Tryd.f83 7) = riverbankref03_Check.T7 := by kernel_rfl
theorem riverbankref03_Check.bits7 : waitsOk riverbankref03_Check.T7.2 riverbankref03_Check.B7 = true := by kernel_rfl
set_option maxHeartbeats 8000000 in
set_option maxRecDepth 100000 in
theorem riverbankref03_Check.calls (k : Nat) (a0_0 : ByteArray) (a0_1 : Int) (a0_2 : Int) (a0_3 : Int) (r : Int) (w : World) (h : riverbankref03_Check.f k a0_0 a0_1 a0_2 a0_3 = some r) :
    Calls Tryd.prog 83 #[.agg #[.string a0_0, .int .i64 a0_1, .int .i64 a0_2, .int .i64 a0_3]] w fun e w' => e = .returned (.int .i64 r) ∧ Below w.heap.size w w' := by
  have hu74 := Tryd.underlying74
  have HB := Aside0.mk (Below.refl w.heap.size w)
  have H : ((riverbankref02_Is.f k a0_0).bind fun t648 => (if t648 = true then (if a0_1 < 0 then (riverbankref03_Check.j0 k true a0_0 a0_1 a0_2 a0_3) else (if a0_1 > 1 then (riverbankref03_Check.j0 k true a0_0 a0_1 a0_2 a0_3) else (if a0_2 < 0 then (riverbankref03_Check.j0 k true a0_0 a0_1 a0_2 a0_3) else (if a0_2 > 120 then (riverbankref03_Check.j0 k true a0_0 a0_1 a0_2 a0_3) else (if a0_3 < 1 then (riverbankref03_Check.j0 k true a0_0 a0_1 a0_2 a0_3) else (riverbankref03_Check.j0 k (decide (a0_3 > 9999)) a0_0 a0_1 a0_2 a0_3)))))) else (riverbankref03_Check.j0 k true a0_0 a0_1 a0_2 a0_3))) = some r := h
  clear h
  have HC2 := Aside0.mk H
  clear H
  go_enter Tryd.func83, Tryd.ntmps83
  go_upto_region 1 with (first | ((with_reducible refine gate_dst (N := 1) rfl ?_); refine box_event ?hg (N := 1) ?hd (cs := #[.string a0_0, .int .i64 a0_1, .int .i64 a0_2, .int .i64 a0_3]) (t := 74) ?hr ?_; (case hd => rfl); (case hg => rfl); (case hr => first | (go_simp; done) | (go_simp; rfl)); intro gb647 hg w3 hbox hb; have n0_ := Aside0.mk (below_step (by repeat (first | (with_reducible first | exact HB.out | apply below_alloc | apply pw_below_drewN | apply below_drew1) | exact HB.out)) hb); have n1_ := Aside0.mk (hbox); have n2_ := Aside0.mk ((by rw [hg]; exact (below_size (by repeat (first | (with_reducible first | exact HB.out | apply below_alloc | apply pw_below_drewN | apply below_drew1) | exact HB.out))) : w.heap.size ≤ gb647)); have n3_ := Aside0.mk ((by rw [hg]; exact (below_size (by repeat (first | (with_reducible first | exact HB.out | apply below_alloc | apply pw_below_drewN | apply below_drew1) | exact HB.out))) : w.heap.size ≤ gb647)); clear HB; have HB := n0_; have BK647 := n1_; have GW647 := n2_; have GE647 := n3_; clear n0_ n1_ n2_ n3_; clear hb hbox hg))
  (try simp only [Act.put, List.setIfInBounds_toArray, List.set_cons_zero, List.set_cons_succ])
  go_cut [40] (fun v40 wc => ∃ (kq : Nat) (x40_1 : Bool), v40 = .bool x40_1 ∧ Aside0 (riverbankref03_Check.j0 kq x40_1 a0_0 a0_1 a0_2 a0_3 = some r) ∧ Aside0 (kq ≤ k) ∧ Aside0 (wc.heap[gb647]? = some (.cells #[.string a0_0, .int .i64 a0_1, .int .i64 a0_2, .int .i64 a0_3] 74 (0, 0))) ∧ Aside0 (Below w.heap.size w wc))
  case first =>
    have H := HC2.out
    clear HC2
    replace H := Option.bind_eq_some_iff.mp H
    obtain ⟨t648, A40, H⟩ := H
    replace H : (if t648 = true then (if a0_1 < 0 then (riverbankref03_Check.j0 k true a0_0 a0_1 a0_2 a0_3) else (if a0_1 > 1 then (riverbankref03_Check.j0 k true a0_0 a0_1 a0_2 a0_3) else (if a0_2 < 0 then (riverbankref03_Check.j0 k true a0_0 a0_1 a0_2 a0_3) else (if a0_2 > 120 then (riverbankref03_Check.j0 k true a0_0 a0_1 a0_2 a0_3) else (if a0_3 < 1 then (riverbankref03_Check.j0 k true a0_0 a0_1 a0_2 a0_3) else (riverbankref03_Check.j0 k (decide (a0_3 > 9999)) a0_0 a0_1 a0_2 a0_3)))))) else (riverbankref03_Check.j0 k true a0_0 a0_1 a0_2 a0_3)) = some r := H
    have A4 := Aside0.mk A40
    clear A40
    by_cases c5 : t648 = true
    · subst c5
      have H1 : (if a0_1 < 0 then (riverbankref03_Check.j0 k true a0_0 a0_1 a0_2 a0_3) else (if a0_1 > 1 then (riverbankref03_Check.j0 k true a0_0 a0_1 a0_2 a0_3) else (if a0_2 < 0 then (riverbankref03_Check.j0 k true a0_0 a0_1 a0_2 a0_3) else (if a0_2 > 120 then (riverbankref03_Check.j0 k true a0_0 a0_1 a0_2 a0_3) else (if a0_3 < 1 then (riverbankref03_Check.j0 k true a0_0 a0_1 a0_2 a0_3) else (riverbankref03_Check.j0 k (decide (a0_3 > 9999)) a0_0 a0_1 a0_2 a0_3)))))) = some r := by rw [if_pos rfl] at H; exact H
      clear H
      have H := H1
      clear H1
      by_cases c6 : a0_1 < 0
      · rw [if_pos c6] at H
        have c6b0 : decide (a0_1 < 0) = true := decide_eq_true c6
        clear c6
        (first | rw [c6b0] | (simp only [i64_w, i32_w]; rw [c6b0]) | skip)
        have H' := Aside0.mk H
        clear H
        have hcz7_0 : w3.cell? ⟨gb647, 0, none⟩ = some (.string a0_0) := (blk_cell BK647.out 0).trans rfl
        have hcz7_1 : w3.cell? ⟨gb647, 1, none⟩ = some (.int .i64 a0_1) := (blk_cell BK647.out 1).trans rfl
        have hcz7_2 : w3.cell? ⟨gb647, 2, none⟩ = some (.int .i64 a0_2) := (blk_cell BK647.out 2).trans rfl
        have hcz7_3 : w3.cell? ⟨gb647, 3, none⟩ = some (.int .i64 a0_3) := (blk_cell BK647.out 3).trans rfl
        have hfz7_0 := blk_frozen BK647.out 0
        have hfz7_1 := blk_frozen BK647.out 1
        have hfz7_2 := blk_frozen BK647.out 2
        have hfz7_3 := blk_frozen BK647.out 3
        go_wp2_with (first | ((with_reducible refine gate_callee (f := 51) rfl ?_); refine goesL_ (some 9) rfl rfl Tryd.func51 (by kernel_rfl) rfl #[.string a0_0] rfl (by (try simp only [List.map_toArray, List.map_cons, List.map_nil]); first | done | rfl | (simp only [List.length_drop, List.length_take]; rfl)) ?_; (with_reducible refine (riverbankref02_Is.calls k a0_0 true _ A4.out).mono ?_); rintro e w' ⟨rfl, ⟨nd, rfl⟩⟩; refine ⟨_, rfl, ?_⟩))
        go_meet
        case rel => exact ⟨_, (true), (by first | rfl | (simp; done) | (simp [*]; done)), H', ⟨by first | omega | exact Nat.le_refl _⟩, ⟨by (with_reducible repeat (first | refine blk_drewN ?_ _ | refine blk_drew ?_ | refine blk_alloc ?_ _)); exact BK647.out⟩, ⟨by repeat (first | (with_reducible first | exact HB.out | apply below_alloc | apply pw_below_drewN | apply below_drew1 | refine below_set ?_ GE647.out) | exact HB.out)⟩⟩
      · rw [if_neg c6] at H
        have c6b0 : decide (a0_1 < 0) = false := decide_eq_false c6
        clear c6
        (first | rw [c6b0] | (simp only [i64_w, i32_w]; rw [c6b0]) | skip)
        by_cases c8 : a0_1 > 1
        · rw [if_pos c8] at H
          have c8b0 : decide (1 < a0_1) = true := decide_eq_true c8
          clear c8
          have H' := Aside0.mk H
          clear H
          have hcz9_0 : w3.cell? ⟨gb647, 0, none⟩ = some (.string a0_0) := (blk_cell BK647.out 0).trans rfl
          have hcz9_1 : w3.cell? ⟨gb647, 1, none⟩ = some (.int .i64 a0_1) := (blk_cell BK647.out 1).trans rfl
          have hcz9_2 : w3.cell? ⟨gb647, 2, none⟩ = some (.int .i64 a0_2) := (blk_cell BK647.out 2).trans rfl
          have hcz9_3 : w3.cell? ⟨gb647, 3, none⟩ = some (.int .i64 a0_3) := (blk_cell BK647.out 3).trans rfl
          have hfz9_0 := blk_frozen BK647.out 0
          have hfz9_1 := blk_frozen BK647.out 1
          have hfz9_2 := blk_frozen BK647.out 2
          have hfz9_3 := blk_frozen BK647.out 3
          go_wp2_with (first | ((with_reducible refine gate_callee (f := 51) rfl ?_); refine goesL_ (some 9) rfl rfl Tryd.func51 (by kernel_rfl) rfl #[.string a0_0] rfl (by (try simp only [List.map_toArray, List.map_cons, List.map_nil]); first | done | rfl | (simp only [List.length_drop, List.length_take]; rfl)) ?_; (with_reducible refine (riverbankref02_Is.calls k a0_0 true _ A4.out).mono ?_); rintro e w' ⟨rfl, ⟨nd, rfl⟩⟩; refine ⟨_, rfl, ?_⟩))
          go_meet
          case rel => exact ⟨_, (true), (by first | rfl | (simp; done) | (simp [*]; done)), H', ⟨by first | omega | exact Nat.le_refl _⟩, ⟨by (with_reducible repeat (first | refine blk_drewN ?_ _ | refine blk_drew ?_ | refine blk_alloc ?_ _)); exact BK647.out⟩, ⟨by repeat (first | (with_reducible first | exact HB.out | apply below_alloc | apply pw_below_drewN | apply below_drew1 | refine below_set ?_ GE647.out) | exact HB.out)⟩⟩
        · rw [if_neg c8] at H
          have c8b0 : decide (1 < a0_1) = false := decide_eq_false c8
          clear c8
          by_cases c10 : a0_2 < 0
          · rw [if_pos c10] at H
            have c10b0 : decide (a0_2 < 0) = true := decide_eq_true c10
            clear c10
            have H' := Aside0.mk H
            clear H
            have hcz11_0 : w3.cell? ⟨gb647, 0, none⟩ = some (.string a0_0) := (blk_cell BK647.out 0).trans rfl
            have hcz11_1 : w3.cell? ⟨gb647, 1, none⟩ = some (.int .i64 a0_1) := (blk_cell BK647.out 1).trans rfl
            have hcz11_2 : w3.cell? ⟨gb647, 2, none⟩ = some (.int .i64 a0_2) := (blk_cell BK647.out 2).trans rfl
            have hcz11_3 : w3.cell? ⟨gb647, 3, none⟩ = some (.int .i64 a0_3) := (blk_cell BK647.out 3).trans rfl
            have hfz11_0 := blk_frozen BK647.out 0
            have hfz11_1 := blk_frozen BK647.out 1
            have hfz11_2 := blk_frozen BK647.out 2
            have hfz11_3 := blk_frozen BK647.out 3
            go_wp2_with (first | ((with_reducible refine gate_callee (f := 51) rfl ?_); refine goesL_ (some 9) rfl rfl Tryd.func51 (by kernel_rfl) rfl #[.string a0_0] rfl (by (try simp only [List.map_toArray, List.map_cons, List.map_nil]); first | done | rfl | (simp only [List.length_drop, List.length_take]; rfl)) ?_; (with_reducible refine (riverbankref02_Is.calls k a0_0 true _ A4.out).mono ?_); rintro e w' ⟨rfl, ⟨nd, rfl⟩⟩; refine ⟨_, rfl, ?_⟩))
            go_meet
            case rel => exact ⟨_, (true), (by first | rfl | (simp; done) | (simp [*]; done)), H', ⟨by first | omega | exact Nat.le_refl _⟩, ⟨by (with_reducible repeat (first | refine blk_drewN ?_ _ | refine blk_drew ?_ | refine blk_alloc ?_ _)); exact BK647.out⟩, ⟨by repeat (first | (with_reducible first | exact HB.out | apply below_alloc | apply pw_below_drewN | apply below_drew1 | refine below_set ?_ GE647.out) | exact HB.out)⟩⟩
          · rw [if_neg c10] at H
            have c10b0 : decide (a0_2 < 0) = false := decide_eq_false c10
            clear c10
            by_cases c12 : a0_2 > 120
            · rw [if_pos c12] at H
              have c12b0 : decide (120 < a0_2) = true := decide_eq_true c12
              clear c12
              have H' := Aside0.mk H
              clear H
              have hcz13_0 : w3.cell? ⟨gb647, 0, none⟩ = some (.string a0_0) := (blk_cell BK647.out 0).trans rfl
              have hcz13_1 : w3.cell? ⟨gb647, 1, none⟩ = some (.int .i64 a0_1) := (blk_cell BK647.out 1).trans rfl
              have hcz13_2 : w3.cell? ⟨gb647, 2, none⟩ = some (.int .i64 a0_2) := (blk_cell BK647.out 2).trans rfl
              have hcz13_3 : w3.cell? ⟨gb647, 3, none⟩ = some (.int .i64 a0_3) := (blk_cell BK647.out 3).trans rfl
              have hfz13_0 := blk_frozen BK647.out 0
              have hfz13_1 := blk_frozen BK647.out 1
              have hfz13_2 := blk_frozen BK647.out 2
              have hfz13_3 := blk_frozen BK647.out 3
              go_wp2_with (first | ((with_reducible refine gate_callee (f := 51) rfl ?_); refine goesL_ (some 9) rfl rfl Tryd.func51 (by kernel_rfl) rfl #[.string a0_0] rfl (by (try simp only [List.map_toArray, List.map_cons, List.map_nil]); first | done | rfl | (simp only [List.length_drop, List.length_take]; rfl)) ?_; (with_reducible refine (riverbankref02_Is.calls k a0_0 true _ A4.out).mono ?_); rintro e w' ⟨rfl, ⟨nd, rfl⟩⟩; refine ⟨_, rfl, ?_⟩))
              go_meet
              case rel => exact ⟨_, (true), (by first | rfl | (simp; done) | (simp [*]; done)), H', ⟨by first | omega | exact Nat.le_refl _⟩, ⟨by (with_reducible repeat (first | refine blk_drewN ?_ _ | refine blk_drew ?_ | refine blk_alloc ?_ _)); exact BK647.out⟩, ⟨by repeat (first | (with_reducible first | exact HB.out | apply below_alloc | apply pw_below_drewN | apply below_drew1 | refine below_set ?_ GE647.out) | exact HB.out)⟩⟩
            · rw [if_neg c12] at H
              have c12b0 : decide (120 < a0_2) = false := decide_eq_false c12
              clear c12
              by_cases c14 : a0_3 < 1
              · rw [if_pos c14] at H
                have c14b0 : decide (a0_3 < 1) = true := decide_eq_true c14
                clear c14
                have H' := Aside0.mk H
                clear H
                have hcz15_0 : w3.cell? ⟨gb647, 0, none⟩ = some (.string a0_0) := (blk_cell BK647.out 0).trans rfl
                have hcz15_1 : w3.cell? ⟨gb647, 1, none⟩ = some (.int .i64 a0_1) := (blk_cell BK647.out 1).trans rfl
                have hcz15_2 : w3.cell? ⟨gb647, 2, none⟩ = some (.int .i64 a0_2) := (blk_cell BK647.out 2).trans rfl
                have hcz15_3 : w3.cell? ⟨gb647, 3, none⟩ = some (.int .i64 a0_3) := (blk_cell BK647.out 3).trans rfl
                have hfz15_0 := blk_frozen BK647.out 0
                have hfz15_1 := blk_frozen BK647.out 1
                have hfz15_2 := blk_frozen BK647.out 2
                have hfz15_3 := blk_frozen BK647.out 3
                go_wp2_with (first | ((with_reducible refine gate_callee (f := 51) rfl ?_); refine goesL_ (some 9) rfl rfl Tryd.func51 (by kernel_rfl) rfl #[.string a0_0] rfl (by (try simp only [List.map_toArray, List.map_cons, List.map_nil]); first | done | rfl | (simp only [List.length_drop, List.length_take]; rfl)) ?_; (with_reducible refine (riverbankref02_Is.calls k a0_0 true _ A4.out).mono ?_); rintro e w' ⟨rfl, ⟨nd, rfl⟩⟩; refine ⟨_, rfl, ?_⟩))
                go_meet
                case rel => exact ⟨_, (true), (by first | rfl | (simp; done) | (simp [*]; done)), H', ⟨by first | omega | exact Nat.le_refl _⟩, ⟨by (with_reducible repeat (first | refine blk_drewN ?_ _ | refine blk_drew ?_ | refine blk_alloc ?_ _)); exact BK647.out⟩, ⟨by repeat (first | (with_reducible first | exact HB.out | apply below_alloc | apply pw_below_drewN | apply below_drew1 | refine below_set ?_ GE647.out) | exact HB.out)⟩⟩
              · rw [if_neg c14] at H
                have c14b0 : decide (a0_3 < 1) = false := decide_eq_false c14
                clear c14
                have H' := Aside0.mk H
                clear H
                have hcz16_0 : w3.cell? ⟨gb647, 0, none⟩ = some (.string a0_0) := (blk_cell BK647.out 0).trans rfl
                have hcz16_1 : w3.cell? ⟨gb647, 1, none⟩ = some (.int .i64 a0_1) := (blk_cell BK647.out 1).trans rfl
                have hcz16_2 : w3.cell? ⟨gb647, 2, none⟩ = some (.int .i64 a0_2) := (blk_cell BK647.out 2).trans rfl
                have hcz16_3 : w3.cell? ⟨gb647, 3, none⟩ = some (.int .i64 a0_3) := (blk_cell BK647.out 3).trans rfl
                have hfz16_0 := blk_frozen BK647.out 0
                have hfz16_1 := blk_frozen BK647.out 1
                have hfz16_2 := blk_frozen BK647.out 2
                have hfz16_3 := blk_frozen BK647.out 3
                go_wp2_with (first | ((with_reducible refine gate_callee (f := 51) rfl ?_); refine goesL_ (some 9) rfl rfl Tryd.func51 (by kernel_rfl) rfl #[.string a0_0] rfl (by (try simp only [List.map_toArray, List.map_cons, List.map_nil]); first | done | rfl | (simp only [List.length_drop, List.length_take]; rfl)) ?_; (with_reducible refine (riverbankref02_Is.calls k a0_0 true _ A4.out).mono ?_); rintro e w' ⟨rfl, ⟨nd, rfl⟩⟩; refine ⟨_, rfl, ?_⟩))
                go_meet
                case rel => exact ⟨_, (decide (a0_3 > 9999)), (by first | rfl | (simp; done) | (simp [*]; done)), H', ⟨by first | omega | exact Nat.le_refl _⟩, ⟨by (with_reducible repeat (first | refine blk_drewN ?_ _ | refine blk_drew ?_ | refine blk_alloc ?_ _)); exact BK647.out⟩, ⟨by repeat (first | (with_reducible first | exact HB.out | apply below_alloc | apply pw_below_drewN | apply below_drew1 | refine below_set ?_ GE647.out) | exact HB.out)⟩⟩
    · replace c5 := Bool.eq_false_iff.mpr c5
      subst c5
      have H1 : (riverbankref03_Check.j0 k true a0_0 a0_1 a0_2 a0_3) = some r := by rw [if_neg (show ¬ (false = true) by decide)] at H; exact H
      clear H
      have H := H1
      clear H1
      have H' := Aside0.mk H
      clear H
      have hcz17_0 : w3.cell? ⟨gb647, 0, none⟩ = some (.string a0_0) := (blk_cell BK647.out 0).trans rfl
      have hcz17_1 : w3.cell? ⟨gb647, 1, none⟩ = some (.int .i64 a0_1) := (blk_cell BK647.out 1).trans rfl
      have hcz17_2 : w3.cell? ⟨gb647, 2, none⟩ = some (.int .i64 a0_2) := (blk_cell BK647.out 2).trans rfl
      have hcz17_3 : w3.cell? ⟨gb647, 3, none⟩ = some (.int .i64 a0_3) := (blk_cell BK647.out 3).trans rfl
      have hfz17_0 := blk_frozen BK647.out 0
      have hfz17_1 := blk_frozen BK647.out 1
      have hfz17_2 := blk_frozen BK647.out 2
      have hfz17_3 := blk_frozen BK647.out 3
      go_wp2_with (first | ((with_reducible refine gate_callee (f := 51) rfl ?_); refine goesL_ (some 9) rfl rfl Tryd.func51 (by kernel_rfl) rfl #[.string a0_0] rfl (by (try simp only [List.map_toArray, List.map_cons, List.map_nil]); first | done | rfl | (simp only [List.length_drop, List.length_take]; rfl)) ?_; (with_reducible refine (riverbankref02_Is.calls k a0_0 false _ A4.out).mono ?_); rintro e w' ⟨rfl, ⟨nd, rfl⟩⟩; refine ⟨_, rfl, ?_⟩))
      go_meet
      case rel => exact ⟨_, (true), (by first | rfl | (simp; done) | (simp [*]; done)), H', ⟨by first | omega | exact Nat.le_refl _⟩, ⟨by (with_reducible repeat (first | refine blk_drewN ?_ _ | refine blk_drew ?_ | refine blk_alloc ?_ _)); exact BK647.out⟩, ⟨by repeat (first | (with_reducible first | exact HB.out | apply below_alloc | apply pw_below_drewN | apply below_drew1 | refine below_set ?_ GE647.out) | exact HB.out)⟩⟩
  case rest =>
    clear HC2
    try clear c1
    try clear p2
    try clear c5
    try clear c6
    try clear c6b0
    try clear c8
    try clear c8b0
    try clear c10
    try clear c10b0
    try clear c12
    try clear c12b0
    try clear c14
    try clear c14b0
    try clear hcz11_0
    try clear hcz11_1
    try clear hcz11_2
    try clear hcz11_3
    try clear hcz13_0
    try clear hcz13_1
    try clear hcz13_2
    try clear hcz13_3
    try clear hcz15_0
    try clear hcz15_1
    try clear hcz15_2
    try clear hcz15_3
    try clear hcz16_0
    try clear hcz16_1
    try clear hcz16_2
    try clear hcz16_3
    try clear hcz17_0
    try clear hcz17_1
    try clear hcz17_2
    try clear hcz17_3
    try clear hcz7_0
    try clear hcz7_1
    try clear hcz7_2
    try clear hcz7_3
    try clear hcz9_0
    try clear hcz9_1
    try clear hcz9_2
    try clear hcz9_3
    try clear hfz11_0
    try clear hfz11_1
    try clear hfz11_2
    try clear hfz11_3
    try clear hfz13_0
    try clear hfz13_1
    try clear hfz13_2
    try clear hfz13_3
    try clear hfz15_0
    try clear hfz15_1
    try clear hfz15_2
    try clear hfz15_3
    try clear hfz16_0
    try clear hfz16_1
    try clear hfz16_2
    try clear hfz16_3
    try clear hfz17_0
    try clear hfz17_1
    try clear hfz17_2
    try clear hfz17_3
    try clear hfz7_0
    try clear hfz7_1
    try clear hfz7_2
    try clear hfz7_3
    try clear hfz9_0
    try clear hfz9_1
    try clear hfz9_2
    try clear hfz9_3
    obtain ⟨kq, x40_1, rfl, HA, HJ1, BK647, HB⟩ := hcut
    cases kq with
    | zero => exact absurd HA.out (by simp [riverbankref03_Check.j0])
    | succ kj1 =>
      have H := HA.out
      clear HA
      simp only [riverbankref03_Check.j0] at H
      by_cases c18 : x40_1 = true
      · subst c18
        have H1 : (some 1) = some r := by rw [if_pos rfl] at H; exact H
        clear H
        have H := H1
        clear H1
        obtain rfl := Option.some.inj H
        go_wp2
        go_ret
        exact ⟨by first | rfl | (simp [errW_none, errW_some] <;> rfl) | (simp [*, errW_none, errW_some] <;> rfl), by repeat (first | (with_reducible first | exact HB.out | apply below_alloc | apply pw_below_drewN | apply below_drew1 | refine below_set ?_ GE647.out) | exact HB.out)⟩
      · replace c18 := Bool.eq_false_iff.mpr c18
        subst c18
        have H1 : (riverbankref03_Check.l0 kj1 (⟨#[75, 65, 66, 78, 82, 67, 80, 107, 97, 98, 110, 114, 99, 112]⟩ : ByteArray) 0 a0_0 a0_1 a0_2 a0_3) = some r := by rw [if_neg (show ¬ (false = true) by decide)] at H; exact H
        clear H
        have H := H1
        clear H1
        have H' := Aside0.mk H
        clear H
        go_wp2
        go_loopg [4] kj1 (fun kq v4 w' => ∃ (x4_2 : Int), v4 = .int .i64 x4_2 ∧ Aside0 (riverbankref03_Check.l0 kq (⟨#[75, 65, 66, 78, 82, 67, 80, 107, 97, 98, 110, 114, 99, 112]⟩ : ByteArray) x4_2 a0_0 a0_1 a0_2 a0_3 = some r) ∧ Aside0 (kq ≤ kj1) ∧ Aside0 (w'.heap[gb647]? = some (.cells #[.string a0_0, .int .i64 a0_1, .int .i64 a0_2, .int .i64 a0_3] 74 (0, 0))) ∧ Aside0 (Below w.heap.size w w'))
        case atStart => exact ⟨(0), (by first | rfl | (simp; done) | (simp [*]; done)), H', ⟨Nat.le_refl _⟩, ⟨by (with_reducible repeat (first | refine blk_drewN ?_ _ | refine blk_drew ?_ | refine blk_alloc ?_ _)); exact BK647.out⟩, ⟨by repeat (first | (with_reducible first | exact HB.out | apply below_alloc | apply pw_below_drewN | apply below_drew1 | refine below_set ?_ GE647.out) | exact HB.out)⟩⟩
        case round =>
          clear H'
          try clear c1
          try clear p2
          try clear c5
          try clear c6
          try clear c6b0
          try clear c8
          try clear c8b0
          try clear c10
          try clear c10b0
          try clear c12
          try clear c12b0
          try clear c14
          try clear c14b0
          try clear c18
          try clear hcz11_0
          try clear hcz11_1
          try clear hcz11_2
          try clear hcz11_3
          try clear hcz13_0
          try clear hcz13_1
          try clear hcz13_2
          try clear hcz13_3
          try clear hcz15_0
          try clear hcz15_1
          try clear hcz15_2
          try clear hcz15_3
          try clear hcz16_0
          try clear hcz16_1
          try clear hcz16_2
          try clear hcz16_3
          try clear hcz17_0
          try clear hcz17_1
          try clear hcz17_2
          try clear hcz17_3
          try clear hcz7_0
          try clear hcz7_1
          try clear hcz7_2
          try clear hcz7_3
          try clear hcz9_0
          try clear hcz9_1
          try clear hcz9_2
          try clear hcz9_3
          try clear hfz11_0
          try clear hfz11_1
          try clear hfz11_2
          try clear hfz11_3
          try clear hfz13_0
          try clear hfz13_1
          try clear hfz13_2
          try clear hfz13_3
          try clear hfz15_0
          try clear hfz15_1
          try clear hfz15_2
          try clear hfz15_3
          try clear hfz16_0
          try clear hfz16_1
          try clear hfz16_2
          try clear hfz16_3
          try clear hfz17_0
          try clear hfz17_1
          try clear hfz17_2
          try clear hfz17_3
          try clear hfz7_0
          try clear hfz7_1
          try clear hfz7_2
          try clear hfz7_3
          try clear hfz9_0
          try clear hfz9_1
          try clear hfz9_2
          try clear hfz9_3
          try clear p2
          obtain ⟨x4_2, rfl, HA, HK2, BK647, HB⟩ := hrel
          cases gk with
          | zero => exact absurd HA.out (by simp [riverbankref03_Check.l0])
          | succ k2 =>
            have H := HA.out
            clear HA
            simp only [riverbankref03_Check.l0] at H
            by_cases c19 : x4_2 < ((⟨#[75, 65, 66, 78, 82, 67, 80, 107, 97, 98, 110, 114, 99, 112]⟩ : ByteArray).size : Int)
            · rw [if_pos c19] at H
              have c19b0 : decide (x4_2 < (14 : Int)) = true := decide_eq_true c19
              clear c19
              by_cases c20 : 0 ≤ x4_2
              · rw [if_pos c20] at H
                have c20b0 : decide (0 ≤ x4_2) = true := decide_eq_true c20
                clear c20
                replace H := Option.bind_eq_some_iff.mp H
                obtain ⟨t649, A220, H⟩ := H
                replace H : ((riverbankref03_Most.f k2 (bt (⟨#[75, 65, 66, 78, 82, 67, 80, 107, 97, 98, 110, 114, 99, 112]⟩ : ByteArray) x4_2)).bind fun t652 => (if (t649.length : Int) > t652 then (some 3) else ((riverbankref02_Kind.f k2 (bt (⟨#[75, 65, 66, 78, 82, 67, 80, 107, 97, 98, 110, 114, 99, 112]⟩ : ByteArray) x4_2)).bind fun t653 => (if t653 = 75 then (if (t649.length : Int) = 1 then (riverbankref03_Check.l0 k2 (⟨#[75, 65, 66, 78, 82, 67, 80, 107, 97, 98, 110, 114, 99, 112]⟩ : ByteArray) (wrap64 (x4_2 + 1)) a0_0 a0_1 a0_2 a0_3) else (some 3)) else (riverbankref03_Check.l0 k2 (⟨#[75, 65, 66, 78, 82, 67, 80, 107, 97, 98, 110, 114, 99, 112]⟩ : ByteArray) (wrap64 (x4_2 + 1)) a0_0 a0_1 a0_2 a0_3))))) = some r := H
                have A22 := Aside0.mk A220
                clear A220
                replace H := Option.bind_eq_some_iff.mp H
                obtain ⟨t652, A240, H⟩ := H
                replace H : (if (t649.length : Int) > t652 then (some 3) else ((riverbankref02_Kind.f k2 (bt (⟨#[75, 65, 66, 78, 82, 67, 80, 107, 97, 98, 110, 114, 99, 112]⟩ : ByteArray) x4_2)).bind fun t653 => (if t653 = 75 then (if (t649.length : Int) = 1 then (riverbankref03_Check.l0 k2 (⟨#[75, 65, 66, 78, 82, 67, 80, 107, 97, 98, 110, 114, 99, 112]⟩ : ByteArray) (wrap64 (x4_2 + 1)) a0_0 a0_1 a0_2 a0_3) else (some 3)) else (riverbankref03_Check.l0 k2 (⟨#[75, 65, 66, 78, 82, 67, 80, 107, 97, 98, 110, 114, 99, 112]⟩ : ByteArray) (wrap64 (x4_2 + 1)) a0_0 a0_1 a0_2 a0_3)))) = some r := H
                have A24 := Aside0.mk A240
                clear A240
                by_cases c25 : (t649.length : Int) > t652
                · rw [if_pos c25] at H
                  have c25b0 : decide (t652 < (t649.length : Int)) = true := decide_eq_true c25
                  clear c25
                  obtain rfl := Option.some.inj H
                  try go_wp2
                  have n0_ := Aside0.mk (blk_drew BK647.out)
                  have n1_ := Aside0.mk (below_drew1 HB.out)
                  clear BK647
                  clear HB
                  have BK647 := n0_
                  have HB := n1_
                  clear n0_ n1_
                  have p21 : 0 ≤ (x4_2 : Int) := of_decide_eq_true (by first | (with_reducible assumption) | assumption)
                  have q21 : x4_2 < (14 : Int) := of_decide_eq_true (by first | (with_reducible assumption) | assumption)
                  have hx21 := bt_at (⟨#[75, 65, 66, 78, 82, 67, 80, 107, 97, 98, 110, 114, 99, 112]⟩ : ByteArray) x4_2
                  replace p21 := eq_true p21
                  replace q21 := eq_true q21
                  refine start_ (n := 8) (S := fun w' => w'.cell? ⟨gb647, 0, none⟩ = some (.string a0_0) ∧ w'.cell? ⟨gb647, 1, none⟩ = some (.int .i64 a0_1) ∧ w'.cell? ⟨gb647, 2, none⟩ = some (.int .i64 a0_2) ∧ w'.cell? ⟨gb647, 3, none⟩ = some (.int .i64 a0_3)) (ds := []) #[false, false, false, false, false, false, false, false] (by kernel_rfl) rfl rfl ⟨(blk_cell BK647.out 0).trans rfl, (blk_cell BK647.out 1).trans rfl, (blk_cell BK647.out 2).trans rfl, (blk_cell BK647.out 3).trans rfl⟩ (fun hHeld => ?_); refine with_tabW riverbankref03_Check.tab7 riverbankref03_Check.bits7 (fun HT_ HW_ => ?_)
                  generalize wr.drew = w26 at BK647 HB hHeld ⊢
                  refine pure_ (i := 0) (N := some 47) (v := ?_) (a' := ?_) #[true, false, false, false, false, false, false, false] rfl rfl (any_of HT_.out (by kernel_rfl)) (fun _ _ _ h => h) (Or.inl ⟨by rfl, ?_⟩) ?_ ?_
                  rotate_left
                  · intro w'
                    go_simp
                    with_reducible rfl
                  rotate_left
                  · simp only [Act.put, List.setIfInBounds_toArray, List.set_cons_zero, List.set_cons_succ, i64_w, i32_w]
                    rfl
                  refine pure_ (i := 2) (N := some 49) (v := ?_) (a' := ?_) #[true, false, true, false, false, false, false, false] rfl rfl (any_of HT_.out (by kernel_rfl)) (fun _ _ _ h => h) (Or.inl ⟨by rfl, ?_⟩) ?_ ?_
                  rotate_left
                  · intro w'
                    go_simp
                    with_reducible rfl
                  rotate_left
                  · simp only [Act.put, List.setIfInBounds_toArray, List.set_cons_zero, List.set_cons_succ, i64_w, i32_w]
                    rfl
                  refine pure_ (i := 3) (N := some 50) (v := ?_) (a' := ?_) #[true, false, true, true, false, false, false, false] rfl rfl (any_of HT_.out (by kernel_rfl)) (fun _ _ _ h => h) (Or.inl ⟨by rfl, ?_⟩) ?_ ?_
                  rotate_left
                  · intro w'
                    go_simp
                    with_reducible rfl
                  rotate_left
                  · simp only [Act.put, List.setIfInBounds_toArray, List.set_cons_zero, List.set_cons_succ, i64_w, i32_w]
                    rfl
                  refine take_ (i := 1) (N := some 48) (v := ?_) (a' := ?_) #[true, true, true, true, false, false, false, false] rfl rfl (take_ofW HT_.out HW_.out (by kernel_rfl)) (fun _ _ _ h => h) (Or.inl ⟨by rfl, ?_⟩) hHeld ?_ ?_
                  rotate_left
                  · rintro w' ⟨s0, s1, s2, s3⟩
                    go_simp
                    with_reducible rfl
                  rotate_left
                  · simp only [Act.put, List.setIfInBounds_toArray, List.set_cons_zero, List.set_cons_succ, i64_w, i32_w]
                    rfl
                  refine take_ (i := 4) (N := some 51) (v := ?_) (a' := ?_) #[true, true, true, true, true, false, false, false] rfl rfl (take_ofW HT_.out HW_.out (by kernel_rfl)) (fun _ _ _ h => h) (Or.inl ⟨by rfl, ?_⟩) hHeld ?_ ?_
                  rotate_left
                  · rintro w' ⟨s0, s1, s2, s3⟩
                    go_simp
                    with_reducible rfl
                  rotate_left
                  · simp only [Act.put, List.setIfInBounds_toArray, List.set_cons_zero, List.set_cons_succ, i64_w, i32_w]
                    rfl
                  refine one_ (i := 5) (N := some 52) #[true, true, true, true, true, true, false, false] rfl rfl (one_of HT_.out (by kernel_rfl)) (by decide) (fun K hK => ?_)
                  refine goes_ Tryd.func57 (by kernel_rfl) rfl #[.string a0_0, .int .u8 (bt (⟨#[75, 65, 66, 78, 82, 67, 80, 107, 97, 98, 110, 114, 99, 112]⟩ : ByteArray) x4_2)] (by rfl) rfl rfl (by (try simp only [List.map_toArray, List.map_cons, List.map_nil]); first | done | rfl | (simp only [List.length_drop, List.length_take]; rfl)) ?_
                  with_reducible refine (riverbankref02_Find.calls k2 a0_0 (bt (⟨#[75, 65, 66, 78, 82, 67, 80, 107, 97, 98, 110, 114, 99, 112]⟩ : ByteArray) x4_2) t649 _ A22.out).mono ?_
                  rintro e w27 ⟨v650, rfl, ho0, hb⟩
                  refine ⟨_, rfl, ?_⟩
                  have n0_ := Aside0.mk (Kd.R_lower ho0 (below_size (by repeat (first | (with_reducible first | exact HB.out | apply below_alloc | apply pw_below_drewN | apply below_drew1 | refine below_set ?_ GE647.out) | exact HB.out))))
                  have n1_ := Aside0.mk (blk_below (g := gb647) (o := .cells #[.string a0_0, .int .i64 a0_1, .int .i64 a0_2, .int .i64 a0_3] 74 (0, 0)) (by (with_reducible repeat (first | refine blk_drewN ?_ _ | refine blk_drew ?_ | refine blk_alloc ?_ _)); exact BK647.out) hb)
                  have n2_ := Aside0.mk (below_step (by repeat (first | (with_reducible first | exact HB.out | apply below_alloc | apply pw_below_drewN | apply below_drew1 | refine below_set ?_ GE647.out) | exact HB.out)) hb)
                  clear BK647
                  clear HB
                  have HO651 := n0_
                  have BK647 := n1_
                  have HB := n2_
                  clear n0_ n1_ n2_
                  (try clear hb)
                  (try clear hb2)
                  (try clear hk)
                  (try clear hi)
                  (try clear ho0)
                  obtain ⟨Ao28, co28, eo28⟩ := Kd.R_slice HO651.out
                  (first | subst eo28 | (injection eo28 with f1_ f2_ f3_; have f4_ := f1_.symm; have f5_ := f3_.symm; clear f1_ f2_ f3_; subst f4_; subst f5_))
                  refine hK.out _ _ ⟨(blk_cell BK647.out 0).trans rfl, (blk_cell BK647.out 1).trans rfl, (blk_cell BK647.out 2).trans rfl, (blk_cell BK647.out 3).trans rfl⟩ (fun hHeld => ?_)
                  clear hK K
                  refine norm_ (a' := ?_) ?_ ?_
                  rotate_left
                  · show Act.put _ (some 52) _ = _
                    simp only [Act.put, List.setIfInBounds_toArray, List.set_cons_zero, List.set_cons_succ, i64_w, i32_w]
                    rfl
                  refine pure_ (i := 6) (N := some 53) (v := ?_) (a' := ?_) #[true, true, true, true, true, true, true, false] rfl rfl (any_of HT_.out (by kernel_rfl)) (fun _ _ _ h => h) (Or.inl ⟨by rfl, ?_⟩) ?_ ?_
                  rotate_left
                  · intro w'
                    go_simp
                    with_reducible rfl
                  rotate_left
                  · simp only [Act.put, List.setIfInBounds_toArray, List.set_cons_zero, List.set_cons_succ, i64_w, i32_w]
                    rfl
                  refine pure_ (i := 7) (N := some 5) (v := ?_) (a' := ?_) #[true, true, true, true, true, true, true, true] rfl rfl (any_of HT_.out (by kernel_rfl)) (fun _ _ _ h => h) (Or.inl ⟨by rfl, ?_⟩) ?_ ?_
                  rotate_left
                  · intro w'
                    go_simp
                    with_reducible rfl
                  rotate_left
                  · simp only [Act.put, List.setIfInBounds_toArray, List.set_cons_zero, List.set_cons_succ, i64_w, i32_w]
                    rfl
                  refine done_ (done_of HT_.out (by kernel_rfl)) ?_
                  have p23 : 0 ≤ (x4_2 : Int) := of_decide_eq_true (by first | (with_reducible assumption) | assumption)
                  have q23 : x4_2 < (14 : Int) := of_decide_eq_true (by first | (with_reducible assumption) | assumption)
                  have hx23 := bt_at (⟨#[75, 65, 66, 78, 82, 67, 80, 107, 97, 98, 110, 114, 99, 112]⟩ : ByteArray) x4_2
                  replace p23 := eq_true p23
                  replace q23 := eq_true q23
                  try go_wp2_with (first | ((with_reducible refine gate_callee (f := 76) rfl ?_); refine goesL_ (some 58) rfl rfl Tryd.func76 (by kernel_rfl) rfl #[.int .u8 (bt (⟨#[75, 65, 66, 78, 82, 67, 80, 107, 97, 98, 110, 114, 99, 112]⟩ : ByteArray) x4_2)] rfl (by (try simp only [List.map_toArray, List.map_cons, List.map_nil]); first | done | rfl | (simp only [List.length_drop, List.length_take]; rfl)) ?_; (with_reducible refine (riverbankref03_Most.calls k2 (bt (⟨#[75, 65, 66, 78, 82, 67, 80, 107, 97, 98, 110, 114, 99, 112]⟩ : ByteArray) x4_2) t652 _ A24.out).mono ?_); rintro e w' ⟨rfl, ⟨nd, rfl⟩⟩; refine ⟨_, rfl, ?_⟩))
                  go_ret
                  exact ⟨by first | rfl | (simp [errW_none, errW_some] <;> rfl) | (simp [*, errW_none, errW_some] <;> rfl), by repeat (first | (with_reducible first | exact HB.out | apply below_alloc | apply pw_below_drewN | apply below_drew1 | refine below_set ?_ GE647.out) | exact HB.out)⟩
                · rw [if_neg c25] at H
                  have c25b0 : decide (t652 < (t649.length : Int)) = false := decide_eq_false c25
                  clear c25
                  replace H := Option.bind_eq_some_iff.mp H
                  obtain ⟨t653, A300, H⟩ := H
                  replace H : (if t653 = 75 then (if (t649.length : Int) = 1 then (riverbankref03_Check.l0 k2 (⟨#[75, 65, 66, 78, 82, 67, 80, 107, 97, 98, 110, 114, 99, 112]⟩ : ByteArray) (wrap64 (x4_2 + 1)) a0_0 a0_1 a0_2 a0_3) else (some 3)) else (riverbankref03_Check.l0 k2 (⟨#[75, 65, 66, 78, 82, 67, 80, 107, 97, 98, 110, 114, 99, 112]⟩ : ByteArray) (wrap64 (x4_2 + 1)) a0_0 a0_1 a0_2 a0_3)) = some r := H
                  have A30 := Aside0.mk A300
                  clear A300
                  by_cases c31 : t653 = 75
                  · rw [if_pos c31] at H
                    have c31b0 : (t653 == 75) = true := beq_iff_eq.mpr c31
                    have c31b1 : (t653 != 75) = false := bne_eq_false_iff_eq.mpr c31
                    clear c31
                    by_cases c32 : (t649.length : Int) = 1
                    · rw [if_pos c32] at H
                      have c32b0 : ((t649.length : Int) == 1) = true := beq_iff_eq.mpr c32
                      have c32b1 : ((t649.length : Int) != 1) = false := bne_eq_false_iff_eq.mpr c32
                      clear c32
                      have H' := Aside0.mk H
                      clear H
                      try go_wp2
                      have n0_ := Aside0.mk (blk_drew BK647.out)
                      have n1_ := Aside0.mk (below_drew1 HB.out)
                      clear BK647
                      clear HB
                      have BK647 := n0_
                      have HB := n1_
                      clear n0_ n1_
                      have p21 : 0 ≤ (x4_2 : Int) := of_decide_eq_true (by first | (with_reducible assumption) | assumption)
                      have q21 : x4_2 < (14 : Int) := of_decide_eq_true (by first | (with_reducible assumption) | assumption)
                      have hx21 := bt_at (⟨#[75, 65, 66, 78, 82, 67, 80, 107, 97, 98, 110, 114, 99, 112]⟩ : ByteArray) x4_2
                      replace p21 := eq_true p21
                      replace q21 := eq_true q21
                      refine start_ (n := 8) (S := fun w' => w'.cell? ⟨gb647, 0, none⟩ = some (.string a0_0) ∧ w'.cell? ⟨gb647, 1, none⟩ = some (.int .i64 a0_1) ∧ w'.cell? ⟨gb647, 2, none⟩ = some (.int .i64 a0_2) ∧ w'.cell? ⟨gb647, 3, none⟩ = some (.int .i64 a0_3)) (ds := []) #[false, false, false, false, false, false, false, false] (by kernel_rfl) rfl rfl ⟨(blk_cell BK647.out 0).trans rfl, (blk_cell BK647.out 1).trans rfl, (blk_cell BK647.out 2).trans rfl, (blk_cell BK647.out 3).trans rfl⟩ (fun hHeld => ?_); refine with_tabW riverbankref03_Check.tab7 riverbankref03_Check.bits7 (fun HT_ HW_ => ?_)
                      generalize wr.drew = w33 at BK647 HB hHeld ⊢
                      refine pure_ (i := 0) (N := some 47) (v := ?_) (a' := ?_) #[true, false, false, false, false, false, false, false] rfl rfl (any_of HT_.out (by kernel_rfl)) (fun _ _ _ h => h) (Or.inl ⟨by rfl, ?_⟩) ?_ ?_
                      rotate_left
                      · intro w'
                        go_simp
                        with_reducible rfl
                      rotate_left
                      · simp only [Act.put, List.setIfInBounds_toArray, List.set_cons_zero, List.set_cons_succ, i64_w, i32_w]
                        rfl
                      refine pure_ (i := 2) (N := some 49) (v := ?_) (a' := ?_) #[true, false, true, false, false, false, false, false] rfl rfl (any_of HT_.out (by kernel_rfl)) (fun _ _ _ h => h) (Or.inl ⟨by rfl, ?_⟩) ?_ ?_
                      rotate_left
                      · intro w'
                        go_simp
                        with_reducible rfl
                      rotate_left
                      · simp only [Act.put, List.setIfInBounds_toArray, List.set_cons_zero, List.set_cons_succ, i64_w, i32_w]
                        rfl
                      refine pure_ (i := 3) (N := some 50) (v := ?_) (a' := ?_) #[true, false, true, true, false, false, false, false] rfl rfl (any_of HT_.out (by kernel_rfl)) (fun _ _ _ h => h) (Or.inl ⟨by rfl, ?_⟩) ?_ ?_
                      rotate_left
                      · intro w'
                        go_simp
                        with_reducible rfl
                      rotate_left
                      · simp only [Act.put, List.setIfInBounds_toArray, List.set_cons_zero, List.set_cons_succ, i64_w, i32_w]
                        rfl
                      refine take_ (i := 1) (N := some 48) (v := ?_) (a' := ?_) #[true, true, true, true, false, false, false, false] rfl rfl (take_ofW HT_.out HW_.out (by kernel_rfl)) (fun _ _ _ h => h) (Or.inl ⟨by rfl, ?_⟩) hHeld ?_ ?_
                      rotate_left
                      · rintro w' ⟨s0, s1, s2, s3⟩
                        go_simp
                        with_reducible rfl
                      rotate_left
                      · simp only [Act.put, List.setIfInBounds_toArray, List.set_cons_zero, List.set_cons_succ, i64_w, i32_w]
                        rfl
                      refine take_ (i := 4) (N := some 51) (v := ?_) (a' := ?_) #[true, true, true, true, true, false, false, false] rfl rfl (take_ofW HT_.out HW_.out (by kernel_rfl)) (fun _ _ _ h => h) (Or.inl ⟨by rfl, ?_⟩) hHeld ?_ ?_
                      rotate_left
                      · rintro w' ⟨s0, s1, s2, s3⟩
                        go_simp
                        with_reducible rfl
                      rotate_left
                      · simp only [Act.put, List.setIfInBounds_toArray, List.set_cons_zero, List.set_cons_succ, i64_w, i32_w]
                        rfl
                      refine one_ (i := 5) (N := some 52) #[true, true, true, true, true, true, false, false] rfl rfl (one_of HT_.out (by kernel_rfl)) (by decide) (fun K hK => ?_)
                      refine goes_ Tryd.func57 (by kernel_rfl) rfl #[.string a0_0, .int .u8 (bt (⟨#[75, 65, 66, 78, 82, 67, 80, 107, 97, 98, 110, 114, 99, 112]⟩ : ByteArray) x4_2)] (by rfl) rfl rfl (by (try simp only [List.map_toArray, List.map_cons, List.map_nil]); first | done | rfl | (simp only [List.length_drop, List.length_take]; rfl)) ?_
                      with_reducible refine (riverbankref02_Find.calls k2 a0_0 (bt (⟨#[75, 65, 66, 78, 82, 67, 80, 107, 97, 98, 110, 114, 99, 112]⟩ : ByteArray) x4_2) t649 _ A22.out).mono ?_
                      rintro e w34 ⟨v650, rfl, ho0, hb⟩
                      refine ⟨_, rfl, ?_⟩
                      have n0_ := Aside0.mk (Kd.R_lower ho0 (below_size (by repeat (first | (with_reducible first | exact HB.out | apply below_alloc | apply pw_below_drewN | apply below_drew1 | refine below_set ?_ GE647.out) | exact HB.out))))
                      have n1_ := Aside0.mk (blk_below (g := gb647) (o := .cells #[.string a0_0, .int .i64 a0_1, .int .i64 a0_2, .int .i64 a0_3] 74 (0, 0)) (by (with_reducible repeat (first | refine blk_drewN ?_ _ | refine blk_drew ?_ | refine blk_alloc ?_ _)); exact BK647.out) hb)
                      have n2_ := Aside0.mk (below_step (by repeat (first | (with_reducible first | exact HB.out | apply below_alloc | apply pw_below_drewN | apply below_drew1 | refine below_set ?_ GE647.out) | exact HB.out)) hb)
                      clear BK647
                      clear HB
                      have HO651 := n0_
                      have BK647 := n1_
                      have HB := n2_
                      clear n0_ n1_ n2_
                      (try clear hb)
                      (try clear hb2)
                      (try clear hk)
                      (try clear hi)
                      (try clear ho0)
                      obtain ⟨Ao35, co35, eo35⟩ := Kd.R_slice HO651.out
                      (first | subst eo35 | (injection eo35 with f1_ f2_ f3_; have f4_ := f1_.symm; have f5_ := f3_.symm; clear f1_ f2_ f3_; subst f4_; subst f5_))
                      refine hK.out _ _ ⟨(blk_cell BK647.out 0).trans rfl, (blk_cell BK647.out 1).trans rfl, (blk_cell BK647.out 2).trans rfl, (blk_cell BK647.out 3).trans rfl⟩ (fun hHeld => ?_)
                      clear hK K
                      refine norm_ (a' := ?_) ?_ ?_
                      rotate_left
                      · show Act.put _ (some 52) _ = _
                        simp only [Act.put, List.setIfInBounds_toArray, List.set_cons_zero, List.set_cons_succ, i64_w, i32_w]
                        rfl
                      refine pure_ (i := 6) (N := some 53) (v := ?_) (a' := ?_) #[true, true, true, true, true, true, true, false] rfl rfl (any_of HT_.out (by kernel_rfl)) (fun _ _ _ h => h) (Or.inl ⟨by rfl, ?_⟩) ?_ ?_
                      rotate_left
                      · intro w'
                        go_simp
                        with_reducible rfl
                      rotate_left
                      · simp only [Act.put, List.setIfInBounds_toArray, List.set_cons_zero, List.set_cons_succ, i64_w, i32_w]
                        rfl
                      refine pure_ (i := 7) (N := some 5) (v := ?_) (a' := ?_) #[true, true, true, true, true, true, true, true] rfl rfl (any_of HT_.out (by kernel_rfl)) (fun _ _ _ h => h) (Or.inl ⟨by rfl, ?_⟩) ?_ ?_
                      rotate_left
                      · intro w'
                        go_simp
                        with_reducible rfl
                      rotate_left
                      · simp only [Act.put, List.setIfInBounds_toArray, List.set_cons_zero, List.set_cons_succ, i64_w, i32_w]
                        rfl
                      refine done_ (done_of HT_.out (by kernel_rfl)) ?_
                      have p23 : 0 ≤ (x4_2 : Int) := of_decide_eq_true (by first | (with_reducible assumption) | assumption)
                      have q23 : x4_2 < (14 : Int) := of_decide_eq_true (by first | (with_reducible assumption) | assumption)
                      have hx23 := bt_at (⟨#[75, 65, 66, 78, 82, 67, 80, 107, 97, 98, 110, 114, 99, 112]⟩ : ByteArray) x4_2
                      replace p23 := eq_true p23
                      replace q23 := eq_true q23
                      try go_wp2_with (first | ((with_reducible refine gate_callee (f := 76) rfl ?_); refine goesL_ (some 58) rfl rfl Tryd.func76 (by kernel_rfl) rfl #[.int .u8 (bt (⟨#[75, 65, 66, 78, 82, 67, 80, 107, 97, 98, 110, 114, 99, 112]⟩ : ByteArray) x4_2)] rfl (by (try simp only [List.map_toArray, List.map_cons, List.map_nil]); first | done | rfl | (simp only [List.length_drop, List.length_take]; rfl)) ?_; (with_reducible refine (riverbankref03_Most.calls k2 (bt (⟨#[75, 65, 66, 78, 82, 67, 80, 107, 97, 98, 110, 114, 99, 112]⟩ : ByteArray) x4_2) t652 _ A24.out).mono ?_); rintro e w' ⟨rfl, ⟨nd, rfl⟩⟩; refine ⟨_, rfl, ?_⟩; have p29 : 0 ≤ (x4_2 : Int) := of_decide_eq_true (by first | (with_reducible assumption) | assumption); have q29 : x4_2 < (14 : Int) := of_decide_eq_true (by first | (with_reducible assumption) | assumption); have hx29 := bt_at (⟨#[75, 65, 66, 78, 82, 67, 80, 107, 97, 98, 110, 114, 99, 112]⟩ : ByteArray) x4_2; replace p29 := eq_true p29; replace q29 := eq_true q29) | (go_at_call 64; (with_reducible refine (riverbankref02_Kind.calls k2 (bt (⟨#[75, 65, 66, 78, 82, 67, 80, 107, 97, 98, 110, 114, 99, 112]⟩ : ByteArray) x4_2) t653 _ A30.out).mono ?_); rintro e w' ⟨rfl, ⟨nd, rfl⟩⟩))
                      go_roundg k2
                      case measure => have := HJ1.out; have := HK2.out; omega
                      case rel => exact ⟨(wrap64 (x4_2 + 1)), (by first | rfl | (simp; done) | (simp [*]; done)), H', ⟨by have := HJ1.out; have := HK2.out; omega⟩, ⟨by (with_reducible repeat (first | refine blk_drewN ?_ _ | refine blk_drew ?_ | refine blk_alloc ?_ _)); exact BK647.out⟩, ⟨by repeat (first | (with_reducible first | exact HB.out | apply below_alloc | apply pw_below_drewN | apply below_drew1 | refine below_set ?_ GE647.out) | exact HB.out)⟩⟩
                    · rw [if_neg c32] at H
                      have c32b0 : ((t649.length : Int) == 1) = false := beq_eq_false_iff_ne.mpr c32
                      have c32b1 : ((t649.length : Int) != 1) = true := bne_iff_ne.mpr c32
                      obtain rfl := Option.some.inj H
                      try go_wp2
                      have n0_ := Aside0.mk (blk_drew BK647.out)
                      have n1_ := Aside0.mk (below_drew1 HB.out)
                      clear BK647
                      clear HB
                      have BK647 := n0_
                      have HB := n1_
                      clear n0_ n1_
                      have p21 : 0 ≤ (x4_2 : Int) := of_decide_eq_true (by first | (with_reducible assumption) | assumption)
                      have q21 : x4_2 < (14 : Int) := of_decide_eq_true (by first | (with_reducible assumption) | assumption)
                      have hx21 := bt_at (⟨#[75, 65, 66, 78, 82, 67, 80, 107, 97, 98, 110, 114, 99, 112]⟩ : ByteArray) x4_2
                      replace p21 := eq_true p21
                      replace q21 := eq_true q21
                      refine start_ (n := 8) (S := fun w' => w'.cell? ⟨gb647, 0, none⟩ = some (.string a0_0) ∧ w'.cell? ⟨gb647, 1, none⟩ = some (.int .i64 a0_1) ∧ w'.cell? ⟨gb647, 2, none⟩ = some (.int .i64 a0_2) ∧ w'.cell? ⟨gb647, 3, none⟩ = some (.int .i64 a0_3)) (ds := []) #[false, false, false, false, false, false, false, false] (by kernel_rfl) rfl rfl ⟨(blk_cell BK647.out 0).trans rfl, (blk_cell BK647.out 1).trans rfl, (blk_cell BK647.out 2).trans rfl, (blk_cell BK647.out 3).trans rfl⟩ (fun hHeld => ?_); refine with_tabW riverbankref03_Check.tab7 riverbankref03_Check.bits7 (fun HT_ HW_ => ?_)
                      generalize wr.drew = w36 at BK647 HB hHeld ⊢
                      refine pure_ (i := 0) (N := some 47) (v := ?_) (a' := ?_) #[true, false, false, false, false, false, false, false] rfl rfl (any_of HT_.out (by kernel_rfl)) (fun _ _ _ h => h) (Or.inl ⟨by rfl, ?_⟩) ?_ ?_
                      rotate_left
                      · intro w'
                        go_simp
                        with_reducible rfl
                      rotate_left
                      · simp only [Act.put, List.setIfInBounds_toArray, List.set_cons_zero, List.set_cons_succ, i64_w, i32_w]
                        rfl
                      refine pure_ (i := 2) (N := some 49) (v := ?_) (a' := ?_) #[true, false, true, false, false, false, false, false] rfl rfl (any_of HT_.out (by kernel_rfl)) (fun _ _ _ h => h) (Or.inl ⟨by rfl, ?_⟩) ?_ ?_
                      rotate_left
                      · intro w'
                        go_simp
                        with_reducible rfl
                      rotate_left
                      · simp only [Act.put, List.setIfInBounds_toArray, List.set_cons_zero, List.set_cons_succ, i64_w, i32_w]
                        rfl
                      refine pure_ (i := 3) (N := some 50) (v := ?_) (a' := ?_) #[true, false, true, true, false, false, false, false] rfl rfl (any_of HT_.out (by kernel_rfl)) (fun _ _ _ h => h) (Or.inl ⟨by rfl, ?_⟩) ?_ ?_
                      rotate_left
                      · intro w'
                        go_simp
                        with_reducible rfl
                      rotate_left
                      · simp only [Act.put, List.setIfInBounds_toArray, List.set_cons_zero, List.set_cons_succ, i64_w, i32_w]
                        rfl
                      refine take_ (i := 1) (N := some 48) (v := ?_) (a' := ?_) #[true, true, true, true, false, false, false, false] rfl rfl (take_ofW HT_.out HW_.out (by kernel_rfl)) (fun _ _ _ h => h) (Or.inl ⟨by rfl, ?_⟩) hHeld ?_ ?_
                      rotate_left
                      · rintro w' ⟨s0, s1, s2, s3⟩
                        go_simp
                        with_reducible rfl
                      rotate_left
                      · simp only [Act.put, List.setIfInBounds_toArray, List.set_cons_zero, List.set_cons_succ, i64_w, i32_w]
                        rfl
                      refine take_ (i := 4) (N := some 51) (v := ?_) (a' := ?_) #[true, true, true, true, true, false, false, false] rfl rfl (take_ofW HT_.out HW_.out (by kernel_rfl)) (fun _ _ _ h => h) (Or.inl ⟨by rfl, ?_⟩) hHeld ?_ ?_
                      rotate_left
                      · rintro w' ⟨s0, s1, s2, s3⟩
                        go_simp
                        with_reducible rfl
                      rotate_left
                      · simp only [Act.put, List.setIfInBounds_toArray, List.set_cons_zero, List.set_cons_succ, i64_w, i32_w]
                        rfl
                      refine one_ (i := 5) (N := some 52) #[true, true, true, true, true, true, false, false] rfl rfl (one_of HT_.out (by kernel_rfl)) (by decide) (fun K hK => ?_)
                      refine goes_ Tryd.func57 (by kernel_rfl) rfl #[.string a0_0, .int .u8 (bt (⟨#[75, 65, 66, 78, 82, 67, 80, 107, 97, 98, 110, 114, 99, 112]⟩ : ByteArray) x4_2)] (by rfl) rfl rfl (by (try simp only [List.map_toArray, List.map_cons, List.map_nil]); first | done | rfl | (simp only [List.length_drop, List.length_take]; rfl)) ?_
                      with_reducible refine (riverbankref02_Find.calls k2 a0_0 (bt (⟨#[75, 65, 66, 78, 82, 67, 80, 107, 97, 98, 110, 114, 99, 112]⟩ : ByteArray) x4_2) t649 _ A22.out).mono ?_
                      rintro e w37 ⟨v650, rfl, ho0, hb⟩
                      refine ⟨_, rfl, ?_⟩
                      have n0_ := Aside0.mk (Kd.R_lower ho0 (below_size (by repeat (first | (with_reducible first | exact HB.out | apply below_alloc | apply pw_below_drewN | apply below_drew1 | refine below_set ?_ GE647.out) | exact HB.out))))
                      have n1_ := Aside0.mk (blk_below (g := gb647) (o := .cells #[.string a0_0, .int .i64 a0_1, .int .i64 a0_2, .int .i64 a0_3] 74 (0, 0)) (by (with_reducible repeat (first | refine blk_drewN ?_ _ | refine blk_drew ?_ | refine blk_alloc ?_ _)); exact BK647.out) hb)
                      have n2_ := Aside0.mk (below_step (by repeat (first | (with_reducible first | exact HB.out | apply below_alloc | apply pw_below_drewN | apply below_drew1 | refine below_set ?_ GE647.out) | exact HB.out)) hb)
                      clear BK647
                      clear HB
                      have HO651 := n0_
                      have BK647 := n1_
                      have HB := n2_
                      clear n0_ n1_ n2_
                      (try clear hb)
                      (try clear hb2)
                      (try clear hk)
                      (try clear hi)
                      (try clear ho0)
                      obtain ⟨Ao38, co38, eo38⟩ := Kd.R_slice HO651.out
                      (first | subst eo38 | (injection eo38 with f1_ f2_ f3_; have f4_ := f1_.symm; have f5_ := f3_.symm; clear f1_ f2_ f3_; subst f4_; subst f5_))
                      refine hK.out _ _ ⟨(blk_cell BK647.out 0).trans rfl, (blk_cell BK647.out 1).trans rfl, (blk_cell BK647.out 2).trans rfl, (blk_cell BK647.out 3).trans rfl⟩ (fun hHeld => ?_)
                      clear hK K
                      refine norm_ (a' := ?_) ?_ ?_
                      rotate_left
                      · show Act.put _ (some 52) _ = _
                        simp only [Act.put, List.setIfInBounds_toArray, List.set_cons_zero, List.set_cons_succ, i64_w, i32_w]
                        rfl
                      refine pure_ (i := 6) (N := some 53) (v := ?_) (a' := ?_) #[true, true, true, true, true, true, true, false] rfl rfl (any_of HT_.out (by kernel_rfl)) (fun _ _ _ h => h) (Or.inl ⟨by rfl, ?_⟩) ?_ ?_
                      rotate_left
                      · intro w'
                        go_simp
                        with_reducible rfl
                      rotate_left
                      · simp only [Act.put, List.setIfInBounds_toArray, List.set_cons_zero, List.set_cons_succ, i64_w, i32_w]
                        rfl
                      refine pure_ (i := 7) (N := some 5) (v := ?_) (a' := ?_) #[true, true, true, true, true, true, true, true] rfl rfl (any_of HT_.out (by kernel_rfl)) (fun _ _ _ h => h) (Or.inl ⟨by rfl, ?_⟩) ?_ ?_
                      rotate_left
                      · intro w'
                        go_simp
                        with_reducible rfl
                      rotate_left
                      · simp only [Act.put, List.setIfInBounds_toArray, List.set_cons_zero, List.set_cons_succ, i64_w, i32_w]
                        rfl
                      refine done_ (done_of HT_.out (by kernel_rfl)) ?_
                      have p23 : 0 ≤ (x4_2 : Int) := of_decide_eq_true (by first | (with_reducible assumption) | assumption)
                      have q23 : x4_2 < (14 : Int) := of_decide_eq_true (by first | (with_reducible assumption) | assumption)
                      have hx23 := bt_at (⟨#[75, 65, 66, 78, 82, 67, 80, 107, 97, 98, 110, 114, 99, 112]⟩ : ByteArray) x4_2
                      replace p23 := eq_true p23
                      replace q23 := eq_true q23
                      try go_wp2_with (first | ((with_reducible refine gate_callee (f := 76) rfl ?_); refine goesL_ (some 58) rfl rfl Tryd.func76 (by kernel_rfl) rfl #[.int .u8 (bt (⟨#[75, 65, 66, 78, 82, 67, 80, 107, 97, 98, 110, 114, 99, 112]⟩ : ByteArray) x4_2)] rfl (by (try simp only [List.map_toArray, List.map_cons, List.map_nil]); first | done | rfl | (simp only [List.length_drop, List.length_take]; rfl)) ?_; (with_reducible refine (riverbankref03_Most.calls k2 (bt (⟨#[75, 65, 66, 78, 82, 67, 80, 107, 97, 98, 110, 114, 99, 112]⟩ : ByteArray) x4_2) t652 _ A24.out).mono ?_); rintro e w' ⟨rfl, ⟨nd, rfl⟩⟩; refine ⟨_, rfl, ?_⟩; have p29 : 0 ≤ (x4_2 : Int) := of_decide_eq_true (by first | (with_reducible assumption) | assumption); have q29 : x4_2 < (14 : Int) := of_decide_eq_true (by first | (with_reducible assumption) | assumption); have hx29 := bt_at (⟨#[75, 65, 66, 78, 82, 67, 80, 107, 97, 98, 110, 114, 99, 112]⟩ : ByteArray) x4_2; replace p29 := eq_true p29; replace q29 := eq_true q29) | (go_at_call 64; (with_reducible refine (riverbankref02_Kind.calls k2 (bt (⟨#[75, 65, 66, 78, 82, 67, 80, 107, 97, 98, 110, 114, 99, 112]⟩ : ByteArray) x4_2) t653 _ A30.out).mono ?_); rintro e w' ⟨rfl, ⟨nd, rfl⟩⟩))
                      go_ret
                      exact ⟨by first | rfl | (simp [errW_none, errW_some] <;> rfl) | (simp [*, errW_none, errW_some] <;> rfl), by repeat (first | (with_reducible first | exact HB.out | apply below_alloc | apply pw_below_drewN | apply below_drew1 | refine below_set ?_ GE647.out) | exact HB.out)⟩
                  · rw [if_neg c31] at H
                    have c31b0 : (t653 == 75) = false := beq_eq_false_iff_ne.mpr c31
                    have c31b1 : (t653 != 75) = true := bne_iff_ne.mpr c31
                    have H' := Aside0.mk H
                    clear H
                    try go_wp2
                    have n0_ := Aside0.mk (blk_drew BK647.out)
                    have n1_ := Aside0.mk (below_drew1 HB.out)
                    clear BK647
                    clear HB
                    have BK647 := n0_
                    have HB := n1_
                    clear n0_ n1_
                    have p21 : 0 ≤ (x4_2 : Int) := of_decide_eq_true (by first | (with_reducible assumption) | assumption)
                    have q21 : x4_2 < (14 : Int) := of_decide_eq_true (by first | (with_reducible assumption) | assumption)
                    have hx21 := bt_at (⟨#[75, 65, 66, 78, 82, 67, 80, 107, 97, 98, 110, 114, 99, 112]⟩ : ByteArray) x4_2
                    replace p21 := eq_true p21
                    replace q21 := eq_true q21
                    refine start_ (n := 8) (S := fun w' => w'.cell? ⟨gb647, 0, none⟩ = some (.string a0_0) ∧ w'.cell? ⟨gb647, 1, none⟩ = some (.int .i64 a0_1) ∧ w'.cell? ⟨gb647, 2, none⟩ = some (.int .i64 a0_2) ∧ w'.cell? ⟨gb647, 3, none⟩ = some (.int .i64 a0_3)) (ds := []) #[false, false, false, false, false, false, false, false] (by kernel_rfl) rfl rfl ⟨(blk_cell BK647.out 0).trans rfl, (blk_cell BK647.out 1).trans rfl, (blk_cell BK647.out 2).trans rfl, (blk_cell BK647.out 3).trans rfl⟩ (fun hHeld => ?_); refine with_tabW riverbankref03_Check.tab7 riverbankref03_Check.bits7 (fun HT_ HW_ => ?_)
                    generalize wr.drew = w39 at BK647 HB hHeld ⊢
                    refine pure_ (i := 0) (N := some 47) (v := ?_) (a' := ?_) #[true, false, false, false, false, false, false, false] rfl rfl (any_of HT_.out (by kernel_rfl)) (fun _ _ _ h => h) (Or.inl ⟨by rfl, ?_⟩) ?_ ?_
                    rotate_left
                    · intro w'
                      go_simp
                      with_reducible rfl
                    rotate_left
                    · simp only [Act.put, List.setIfInBounds_toArray, List.set_cons_zero, List.set_cons_succ, i64_w, i32_w]
                      rfl
                    refine pure_ (i := 2) (N := some 49) (v := ?_) (a' := ?_) #[true, false, true, false, false, false, false, false] rfl rfl (any_of HT_.out (by kernel_rfl)) (fun _ _ _ h => h) (Or.inl ⟨by rfl, ?_⟩) ?_ ?_
                    rotate_left
                    · intro w'
                      go_simp
                      with_reducible rfl
                    rotate_left
                    · simp only [Act.put, List.setIfInBounds_toArray, List.set_cons_zero, List.set_cons_succ, i64_w, i32_w]
                      rfl
                    refine pure_ (i := 3) (N := some 50) (v := ?_) (a' := ?_) #[true, false, true, true, false, false, false, false] rfl rfl (any_of HT_.out (by kernel_rfl)) (fun _ _ _ h => h) (Or.inl ⟨by rfl, ?_⟩) ?_ ?_
                    rotate_left
                    · intro w'
                      go_simp
                      with_reducible rfl
                    rotate_left
                    · simp only [Act.put, List.setIfInBounds_toArray, List.set_cons_zero, List.set_cons_succ, i64_w, i32_w]
                      rfl
                    refine take_ (i := 1) (N := some 48) (v := ?_) (a' := ?_) #[true, true, true, true, false, false, false, false] rfl rfl (take_ofW HT_.out HW_.out (by kernel_rfl)) (fun _ _ _ h => h) (Or.inl ⟨by rfl, ?_⟩) hHeld ?_ ?_
                    rotate_left
                    · rintro w' ⟨s0, s1, s2, s3⟩
                      go_simp
                      with_reducible rfl
                    rotate_left
                    · simp only [Act.put, List.setIfInBounds_toArray, List.set_cons_zero, List.set_cons_succ, i64_w, i32_w]
                      rfl
                    refine take_ (i := 4) (N := some 51) (v := ?_) (a' := ?_) #[true, true, true, true, true, false, false, false] rfl rfl (take_ofW HT_.out HW_.out (by kernel_rfl)) (fun _ _ _ h => h) (Or.inl ⟨by rfl, ?_⟩) hHeld ?_ ?_
                    rotate_left
                    · rintro w' ⟨s0, s1, s2, s3⟩
                      go_simp
                      with_reducible rfl
                    rotate_left
                    · simp only [Act.put, List.setIfInBounds_toArray, List.set_cons_zero, List.set_cons_succ, i64_w, i32_w]
                      rfl
                    refine one_ (i := 5) (N := some 52) #[true, true, true, true, true, true, false, false] rfl rfl (one_of HT_.out (by kernel_rfl)) (by decide) (fun K hK => ?_)
                    refine goes_ Tryd.func57 (by kernel_rfl) rfl #[.string a0_0, .int .u8 (bt (⟨#[75, 65, 66, 78, 82, 67, 80, 107, 97, 98, 110, 114, 99, 112]⟩ : ByteArray) x4_2)] (by rfl) rfl rfl (by (try simp only [List.map_toArray, List.map_cons, List.map_nil]); first | done | rfl | (simp only [List.length_drop, List.length_take]; rfl)) ?_
                    with_reducible refine (riverbankref02_Find.calls k2 a0_0 (bt (⟨#[75, 65, 66, 78, 82, 67, 80, 107, 97, 98, 110, 114, 99, 112]⟩ : ByteArray) x4_2) t649 _ A22.out).mono ?_
                    rintro e w40 ⟨v650, rfl, ho0, hb⟩
                    refine ⟨_, rfl, ?_⟩
                    have n0_ := Aside0.mk (Kd.R_lower ho0 (below_size (by repeat (first | (with_reducible first | exact HB.out | apply below_alloc | apply pw_below_drewN | apply below_drew1 | refine below_set ?_ GE647.out) | exact HB.out))))
                    have n1_ := Aside0.mk (blk_below (g := gb647) (o := .cells #[.string a0_0, .int .i64 a0_1, .int .i64 a0_2, .int .i64 a0_3] 74 (0, 0)) (by (with_reducible repeat (first | refine blk_drewN ?_ _ | refine blk_drew ?_ | refine blk_alloc ?_ _)); exact BK647.out) hb)
                    have n2_ := Aside0.mk (below_step (by repeat (first | (with_reducible first | exact HB.out | apply below_alloc | apply pw_below_drewN | apply below_drew1 | refine below_set ?_ GE647.out) | exact HB.out)) hb)
                    clear BK647
                    clear HB
                    have HO651 := n0_
                    have BK647 := n1_
                    have HB := n2_
                    clear n0_ n1_ n2_
                    (try clear hb)
                    (try clear hb2)
                    (try clear hk)
                    (try clear hi)
                    (try clear ho0)
                    obtain ⟨Ao41, co41, eo41⟩ := Kd.R_slice HO651.out
                    (first | subst eo41 | (injection eo41 with f1_ f2_ f3_; have f4_ := f1_.symm; have f5_ := f3_.symm; clear f1_ f2_ f3_; subst f4_; subst f5_))
                    refine hK.out _ _ ⟨(blk_cell BK647.out 0).trans rfl, (blk_cell BK647.out 1).trans rfl, (blk_cell BK647.out 2).trans rfl, (blk_cell BK647.out 3).trans rfl⟩ (fun hHeld => ?_)
                    clear hK K
                    refine norm_ (a' := ?_) ?_ ?_
                    rotate_left
                    · show Act.put _ (some 52) _ = _
                      simp only [Act.put, List.setIfInBounds_toArray, List.set_cons_zero, List.set_cons_succ, i64_w, i32_w]
                      rfl
                    refine pure_ (i := 6) (N := some 53) (v := ?_) (a' := ?_) #[true, true, true, true, true, true, true, false] rfl rfl (any_of HT_.out (by kernel_rfl)) (fun _ _ _ h => h) (Or.inl ⟨by rfl, ?_⟩) ?_ ?_
                    rotate_left
                    · intro w'
                      go_simp
                      with_reducible rfl
                    rotate_left
                    · simp only [Act.put, List.setIfInBounds_toArray, List.set_cons_zero, List.set_cons_succ, i64_w, i32_w]
                      rfl
                    refine pure_ (i := 7) (N := some 5) (v := ?_) (a' := ?_) #[true, true, true, true, true, true, true, true] rfl rfl (any_of HT_.out (by kernel_rfl)) (fun _ _ _ h => h) (Or.inl ⟨by rfl, ?_⟩) ?_ ?_
                    rotate_left
                    · intro w'
                      go_simp
                      with_reducible rfl
                    rotate_left
                    · simp only [Act.put, List.setIfInBounds_toArray, List.set_cons_zero, List.set_cons_succ, i64_w, i32_w]
                      rfl
                    refine done_ (done_of HT_.out (by kernel_rfl)) ?_
                    have p23 : 0 ≤ (x4_2 : Int) := of_decide_eq_true (by first | (with_reducible assumption) | assumption)
                    have q23 : x4_2 < (14 : Int) := of_decide_eq_true (by first | (with_reducible assumption) | assumption)
                    have hx23 := bt_at (⟨#[75, 65, 66, 78, 82, 67, 80, 107, 97, 98, 110, 114, 99, 112]⟩ : ByteArray) x4_2
                    replace p23 := eq_true p23
                    replace q23 := eq_true q23
                    try go_wp2_with (first | ((with_reducible refine gate_callee (f := 76) rfl ?_); refine goesL_ (some 58) rfl rfl Tryd.func76 (by kernel_rfl) rfl #[.int .u8 (bt (⟨#[75, 65, 66, 78, 82, 67, 80, 107, 97, 98, 110, 114, 99, 112]⟩ : ByteArray) x4_2)] rfl (by (try simp only [List.map_toArray, List.map_cons, List.map_nil]); first | done | rfl | (simp only [List.length_drop, List.length_take]; rfl)) ?_; (with_reducible refine (riverbankref03_Most.calls k2 (bt (⟨#[75, 65, 66, 78, 82, 67, 80, 107, 97, 98, 110, 114, 99, 112]⟩ : ByteArray) x4_2) t652 _ A24.out).mono ?_); rintro e w' ⟨rfl, ⟨nd, rfl⟩⟩; refine ⟨_, rfl, ?_⟩; have p29 : 0 ≤ (x4_2 : Int) := of_decide_eq_true (by first | (with_reducible assumption) | assumption); have q29 : x4_2 < (14 : Int) := of_decide_eq_true (by first | (with_reducible assumption) | assumption); have hx29 := bt_at (⟨#[75, 65, 66, 78, 82, 67, 80, 107, 97, 98, 110, 114, 99, 112]⟩ : ByteArray) x4_2; replace p29 := eq_true p29; replace q29 := eq_true q29) | (go_at_call 64; (with_reducible refine (riverbankref02_Kind.calls k2 (bt (⟨#[75, 65, 66, 78, 82, 67, 80, 107, 97, 98, 110, 114, 99, 112]⟩ : ByteArray) x4_2) t653 _ A30.out).mono ?_); rintro e w' ⟨rfl, ⟨nd, rfl⟩⟩))
                    go_roundg k2
                    case measure => have := HJ1.out; have := HK2.out; omega
                    case rel => exact ⟨(wrap64 (x4_2 + 1)), (by first | rfl | (simp; done) | (simp [*]; done)), H', ⟨by have := HJ1.out; have := HK2.out; omega⟩, ⟨by (with_reducible repeat (first | refine blk_drewN ?_ _ | refine blk_drew ?_ | refine blk_alloc ?_ _)); exact BK647.out⟩, ⟨by repeat (first | (with_reducible first | exact HB.out | apply below_alloc | apply pw_below_drewN | apply below_drew1 | refine below_set ?_ GE647.out) | exact HB.out)⟩⟩
              · rw [if_neg c20] at H
                exact absurd H (by simp)
            · rw [if_neg c19] at H
              have c19b0 : decide (x4_2 < (14 : Int)) = false := decide_eq_false c19
              clear c19
              have H' := Aside0.mk H
              clear H
              go_wp2
              go_loopg [6] k2 (fun kq v6 w' => ∃ (x6_3 : Int), v6 = .int .i64 x6_3 ∧ Aside0 (riverbankref03_Check.l1 kq x6_3 a0_0 a0_1 a0_2 a0_3 = some r) ∧ Aside0 (kq ≤ k2) ∧ Aside0 (w'.heap[gb647]? = some (.cells #[.string a0_0, .int .i64 a0_1, .int .i64 a0_2, .int .i64 a0_3] 74 (0, 0))) ∧ Aside0 (Below w.heap.size w w'))
              case atStart => exact ⟨(0), (by first | rfl | (simp; done) | (simp [*]; done)), H', ⟨Nat.le_refl _⟩, ⟨by (with_reducible repeat (first | refine blk_drewN ?_ _ | refine blk_drew ?_ | refine blk_alloc ?_ _)); exact BK647.out⟩, ⟨by repeat (first | (with_reducible first | exact HB.out | apply below_alloc | apply pw_below_drewN | apply below_drew1 | refine below_set ?_ GE647.out) | exact HB.out)⟩⟩
              case round =>
                clear H'
                try clear c1
                try clear c2
                try clear p2
                try clear q2
                try clear hx2
                try clear c3
                try clear c5
                try clear c6
                try clear c6b0
                try clear p6
                try clear c7
                try clear c8
                try clear c8b0
                try clear c10
                try clear c10b0
                try clear c12
                try clear c12b0
                try clear c14
                try clear c14b0
                try clear c18
                try clear c19
                try clear c19b0
                try clear c20
                try clear c20b0
                try clear p21
                try clear q21
                try clear hx21
                try clear p23
                try clear q23
                try clear hx23
                try clear c25
                try clear c25b0
                try clear p29
                try clear q29
                try clear hx29
                try clear c31
                try clear c31b0
                try clear c31b1
                try clear c32
                try clear c32b0
                try clear c32b1
                try clear hcz11_0
                try clear hcz11_1
                try clear hcz11_2
                try clear hcz11_3
                try clear hcz13_0
                try clear hcz13_1
                try clear hcz13_2
                try clear hcz13_3
                try clear hcz15_0
                try clear hcz15_1
                try clear hcz15_2
                try clear hcz15_3
                try clear hcz16_0
                try clear hcz16_1
                try clear hcz16_2
                try clear hcz16_3
                try clear hcz17_0
                try clear hcz17_1
                try clear hcz17_2
                try clear hcz17_3
                try clear hcz7_0
                try clear hcz7_1
                try clear hcz7_2
                try clear hcz7_3
                try clear hcz9_0
                try clear hcz9_1
                try clear hcz9_2
                try clear hcz9_3
                try clear hfz11_0
                try clear hfz11_1
                try clear hfz11_2
                try clear hfz11_3
                try clear hfz13_0
                try clear hfz13_1
                try clear hfz13_2
                try clear hfz13_3
                try clear hfz15_0
                try clear hfz15_1
                try clear hfz15_2
                try clear hfz15_3
                try clear hfz16_0
                try clear hfz16_1
                try clear hfz16_2
                try clear hfz16_3
                try clear hfz17_0
                try clear hfz17_1
                try clear hfz17_2
                try clear hfz17_3
                try clear hfz7_0
                try clear hfz7_1
                try clear hfz7_2
                try clear hfz7_3
                try clear hfz9_0
                try clear hfz9_1
                try clear hfz9_2
                try clear hfz9_3
                try clear p2
                try clear p21
                try clear p23
                try clear p29
                try clear q21
                try clear q23
                try clear q29
                obtain ⟨x6_3, rfl, HA, HK3, BK647, HB⟩ := hrel
                cases gk with
                | zero => exact absurd HA.out (by simp [riverbankref03_Check.l1])
                | succ k3 =>
                  have H := HA.out
                  clear HA
                  simp only [riverbankref03_Check.l1] at H
                  by_cases c42 : x6_3 < 90
                  · rw [if_pos c42] at H
                    have c42b0 : decide (x6_3 < 90) = true := decide_eq_true c42
                    clear c42
                    by_cases c43 : 0 ≤ x6_3
                    · rw [if_pos c43] at H
                      have c43b0 : decide (0 ≤ x6_3) = true := decide_eq_true c43
                      clear c43
                      by_cases c44 : x6_3 < (a0_0.size : Int)
                      · rw [if_pos c44] at H
                        have c44b0 : decide (x6_3 < (a0_0.size : Int)) = true := decide_eq_true c44
                        clear c44
                        by_cases c46 : (bt a0_0 x6_3) = 46
                        · rw [if_pos c46] at H
                          have c46b0 : ((bt a0_0 x6_3) == 46) = true := beq_iff_eq.mpr c46
                          have c46b1 : ((bt a0_0 x6_3) != 46) = false := bne_eq_false_iff_eq.mpr c46
                          clear c46
                          have H' := Aside0.mk H
                          clear H
                          have hcz47_0 : wr.cell? ⟨gb647, 0, none⟩ = some (.string a0_0) := (blk_cell BK647.out 0).trans rfl
                          have hcz47_1 : wr.cell? ⟨gb647, 1, none⟩ = some (.int .i64 a0_1) := (blk_cell BK647.out 1).trans rfl
                          have hcz47_2 : wr.cell? ⟨gb647, 2, none⟩ = some (.int .i64 a0_2) := (blk_cell BK647.out 2).trans rfl
                          have hcz47_3 : wr.cell? ⟨gb647, 3, none⟩ = some (.int .i64 a0_3) := (blk_cell BK647.out 3).trans rfl
                          have hfz47_0 := blk_frozen BK647.out 0
                          have hfz47_1 := blk_frozen BK647.out 1
                          have hfz47_2 := blk_frozen BK647.out 2
                          have hfz47_3 := blk_frozen BK647.out 3
                          have p45 : 0 ≤ (x6_3 : Int) := of_decide_eq_true (by first | (with_reducible assumption) | assumption)
                          have q45 : x6_3 < (a0_0.size : Int) := of_decide_eq_true (by first | (with_reducible assumption) | assumption)
                          have hx45 := bt_at a0_0 x6_3
                          replace p45 := eq_true p45
                          replace q45 := eq_true q45
                          go_wp2
                          go_roundg k3
                          case measure => have := HJ1.out; have := HK2.out; have := HK3.out; omega
                          case rel => exact ⟨(wrap64 (x6_3 + 1)), (by first | rfl | (simp; done) | (simp [*]; done)), H', ⟨by have := HJ1.out; have := HK2.out; have := HK3.out; omega⟩, ⟨by (with_reducible repeat (first | refine blk_drewN ?_ _ | refine blk_drew ?_ | refine blk_alloc ?_ _)); exact BK647.out⟩, ⟨by repeat (first | (with_reducible first | exact HB.out | apply below_alloc | apply pw_below_drewN | apply below_drew1 | refine below_set ?_ GE647.out) | exact HB.out)⟩⟩
                        · rw [if_neg c46] at H
                          have c46b0 : ((bt a0_0 x6_3) == 46) = false := beq_eq_false_iff_ne.mpr c46
                          have c46b1 : ((bt a0_0 x6_3) != 46) = true := bne_iff_ne.mpr c46
                          replace H := Option.bind_eq_some_iff.mp H
                          obtain ⟨t654, A490, H⟩ := H
                          replace H : (if t654 = true then (riverbankref03_Check.l1 k3 (wrap64 (x6_3 + 1)) a0_0 a0_1 a0_2 a0_3) else (some 2)) = some r := H
                          have A49 := Aside0.mk A490
                          clear A490
                          by_cases c50 : t654 = true
                          · subst c50
                            have H1 : (riverbankref03_Check.l1 k3 (wrap64 (x6_3 + 1)) a0_0 a0_1 a0_2 a0_3) = some r := by rw [if_pos rfl] at H; exact H
                            clear H
                            have H := H1
                            clear H1
                            have H' := Aside0.mk H
                            clear H
                            have hcz51_0 : wr.cell? ⟨gb647, 0, none⟩ = some (.string a0_0) := (blk_cell BK647.out 0).trans rfl
                            have hcz51_1 : wr.cell? ⟨gb647, 1, none⟩ = some (.int .i64 a0_1) := (blk_cell BK647.out 1).trans rfl
                            have hcz51_2 : wr.cell? ⟨gb647, 2, none⟩ = some (.int .i64 a0_2) := (blk_cell BK647.out 2).trans rfl
                            have hcz51_3 : wr.cell? ⟨gb647, 3, none⟩ = some (.int .i64 a0_3) := (blk_cell BK647.out 3).trans rfl
                            have hfz51_0 := blk_frozen BK647.out 0
                            have hfz51_1 := blk_frozen BK647.out 1
                            have hfz51_2 := blk_frozen BK647.out 2
                            have hfz51_3 := blk_frozen BK647.out 3
                            have p45 : 0 ≤ (x6_3 : Int) := of_decide_eq_true (by first | (with_reducible assumption) | assumption)
                            have q45 : x6_3 < (a0_0.size : Int) := of_decide_eq_true (by first | (with_reducible assumption) | assumption)
                            have hx45 := bt_at a0_0 x6_3
                            replace p45 := eq_true p45
                            replace q45 := eq_true q45
                            have p48 : 0 ≤ (x6_3 : Int) := of_decide_eq_true (by first | (with_reducible assumption) | assumption)
                            have q48 : x6_3 < (a0_0.size : Int) := of_decide_eq_true (by first | (with_reducible assumption) | assumption)
                            have hx48 := bt_at a0_0 x6_3
                            replace p48 := eq_true p48
                            replace q48 := eq_true q48
                            go_wp2_with (first | (go_at_call 72; (with_reducible refine (riverbankref03_May.calls k3 (bt a0_0 x6_3) x6_3 true _ A49.out).mono ?_); rintro e w' ⟨rfl, ⟨nd, rfl⟩⟩))
                            go_roundg k3
                            case measure => have := HJ1.out; have := HK2.out; have := HK3.out; omega
                            case rel => exact ⟨(wrap64 (x6_3 + 1)), (by first | rfl | (simp; done) | (simp [*]; done)), H', ⟨by have := HJ1.out; have := HK2.out; have := HK3.out; omega⟩, ⟨by (with_reducible repeat (first | refine blk_drewN ?_ _ | refine blk_drew ?_ | refine blk_alloc ?_ _)); exact BK647.out⟩, ⟨by repeat (first | (with_reducible first | exact HB.out | apply below_alloc | apply pw_below_drewN | apply below_drew1 | refine below_set ?_ GE647.out) | exact HB.out)⟩⟩
                          · replace c50 := Bool.eq_false_iff.mpr c50
                            subst c50
                            have H1 : (some 2) = some r := by rw [if_neg (show ¬ (false = true) by decide)] at H; exact H
                            clear H
                            have H := H1
                            clear H1
                            obtain rfl := Option.some.inj H
                            have hcz52_0 : wr.cell? ⟨gb647, 0, none⟩ = some (.string a0_0) := (blk_cell BK647.out 0).trans rfl
                            have hcz52_1 : wr.cell? ⟨gb647, 1, none⟩ = some (.int .i64 a0_1) := (blk_cell BK647.out 1).trans rfl
                            have hcz52_2 : wr.cell? ⟨gb647, 2, none⟩ = some (.int .i64 a0_2) := (blk_cell BK647.out 2).trans rfl
                            have hcz52_3 : wr.cell? ⟨gb647, 3, none⟩ = some (.int .i64 a0_3) := (blk_cell BK647.out 3).trans rfl
                            have hfz52_0 := blk_frozen BK647.out 0
                            have hfz52_1 := blk_frozen BK647.out 1
                            have hfz52_2 := blk_frozen BK647.out 2
                            have hfz52_3 := blk_frozen BK647.out 3
                            have p45 : 0 ≤ (x6_3 : Int) := of_decide_eq_true (by first | (with_reducible assumption) | assumption)
                            have q45 : x6_3 < (a0_0.size : Int) := of_decide_eq_true (by first | (with_reducible assumption) | assumption)
                            have hx45 := bt_at a0_0 x6_3
                            replace p45 := eq_true p45
                            replace q45 := eq_true q45
                            have p48 : 0 ≤ (x6_3 : Int) := of_decide_eq_true (by first | (with_reducible assumption) | assumption)
                            have q48 : x6_3 < (a0_0.size : Int) := of_decide_eq_true (by first | (with_reducible assumption) | assumption)
                            have hx48 := bt_at a0_0 x6_3
                            replace p48 := eq_true p48
                            replace q48 := eq_true q48
                            go_wp2_with (first | (go_at_call 72; (with_reducible refine (riverbankref03_May.calls k3 (bt a0_0 x6_3) x6_3 false _ A49.out).mono ?_); rintro e w' ⟨rfl, ⟨nd, rfl⟩⟩))
                            go_ret
                            exact ⟨by first | rfl | (simp [errW_none, errW_some] <;> rfl) | (simp [*, errW_none, errW_some] <;> rfl), by repeat (first | (with_reducible first | exact HB.out | apply below_alloc | apply pw_below_drewN | apply below_drew1 | refine below_set ?_ GE647.out) | exact HB.out)⟩
                      · rw [if_neg c44] at H
                        exact absurd H (by simp)
                    · rw [if_neg c43] at H
                      exact absurd H (by simp)
                  · rw [if_neg c42] at H
                    have c42b0 : decide (x6_3 < 90) = false := decide_eq_false c42
                    clear c42
                    obtain rfl := Option.some.inj H
                    go_wp2
                    go_ret
                    exact ⟨by first | rfl | (simp [errW_none, errW_some] <;> rfl) | (simp [*, errW_none, errW_some] <;> rfl), by repeat (first | (with_reducible first | exact HB.out | apply below_alloc | apply pw_below_drewN | apply below_drew1 | refine below_set ?_ GE647.out) | exact HB.out)⟩

end Go.Proofs.YtkbimiimgcklaaaDoor.Print
