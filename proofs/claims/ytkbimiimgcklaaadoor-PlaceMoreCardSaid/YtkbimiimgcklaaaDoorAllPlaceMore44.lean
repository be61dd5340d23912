/- Merged by a program of this session (wip/gprint/merge.py): what this claim needs of this session's texts, each part as it was. -/
import Derived.Test.YtkbimiimgcklaaaDoorAllPlaceMore7
import Derived.Test.YtkbimiimgcklaaaDoorAllPlaceMore14
import Derived.Test.YtkbimiimgcklaaaDoorAllPlaceMore8
import Derived.Test.YtkbimiimgcklaaaDoorAllPlaceMore13
import Derived.Test.YtkbimiimgcklaaaDoorAllPlaceMore9
import Derived.Test.YtkbimiimgcklaaaDoorAllPlaceMore41
import Derived.Test.YtkbimiimgcklaaaDoorAllPlaceMore42
import Derived.Test.YtkbimiimgcklaaaDoorAllPlaceMore43
namespace Go.Proofs.YtkbimiimgcklaaaDoor.Print
end Go.Proofs.YtkbimiimgcklaaaDoor.Print

-- of YtkbimiimgcklaaaDoorPrint52
-- Written by a program of this session (wip/gprint/gprint.py) over the kit's print; the parts marked GIVEN by hand.
namespace Go.Proofs.YtkbimiimgcklaaaDoor.Print
open Go.RowKit Go.Proofs.YtkbimiimgcklaaaDoorW.PrintWords Go.Proofs.YtkbimiimgcklaaaDoorW.PrintLast Go.Proofs.YtkbimiimgcklaaaDoorW.PrintMore
attribute [local go_sem] max2_int min2_int max_two min_two max_three min_three max_four min_four   -- for this text's walks alone
set_option linter.unusedVariables false
set_option linter.unusedSimpArgs false

/-! ### riverbanklaw03_PlaceMore: function 21 -/
mutual
def riverbanklaw03_PlaceMore.j0 : Nat → Int → Int → Bool → ByteArray → Int → Int → Int → Option (Bool)
  | 0, _, _, _, _, _, _, _ => none
  | k + 1, x1, x2, x29, x667000, x667001, x667002, x667003 => if x29 = true then ((riverbanklaw03_live.f).bind fun t669 => (some t669)) else (if 0 ≤ x1 then (if x1 < (x667000.size : Int) then (if (bt x667000 x1) = 46 then ((riverbankref02_Find.f k x667000 x2).bind fun t670 => ((place_Most.f x2).bind fun t673 => (riverbanklaw03_PlaceMore.j1 k x1 x2 (decide ((t670.length : Int) < t673)) x667000 x667001 x667002 x667003))) else (riverbanklaw03_PlaceMore.j1 k x1 x2 true x667000 x667001 x667002 x667003)) else (none)) else (none))
def riverbanklaw03_PlaceMore.j1 : Nat → Int → Int → Bool → ByteArray → Int → Int → Int → Option (Bool)
  | 0, _, _, _, _, _, _, _ => none
  | k + 1, x1, x2, x45, x667000, x667001, x667002, x667003 => if x45 = true then ((riverbanklaw03_live.f).bind fun t674 => (some t674)) else ((riverbankref02_Put.f k x667000 x1 x2).bind fun t676 => ((place_Check.f k t676 x667001 x667002 x667003).bind fun t677 => (if t677 = 3 then ((riverbanklaw03_live.f).bind fun t678 => (some t678)) else (some false))))
end
def riverbanklaw03_PlaceMore.f (k : Nat) (a0_0 : ByteArray) (a0_1 : Int) (a0_2 : Int) (a0_3 : Int) (a1 : Int) (a2 : Int) : Option (Bool) := if (a0_0.size : Int) > 200 then (riverbanklaw03_PlaceMore.j0 k a1 a2 true a0_0 a0_1 a0_2 a0_3) else ((place_Check.f k a0_0 a0_1 a0_2 a0_3).bind fun t667 => (if t667 = 0 then (if a1 < 0 then (riverbanklaw03_PlaceMore.j0 k a1 a2 true a0_0 a0_1 a0_2 a0_3) else (if a1 > 89 then (riverbanklaw03_PlaceMore.j0 k a1 a2 true a0_0 a0_1 a0_2 a0_3) else ((riverbankref02_Side.f k a2).bind fun t668 => (riverbanklaw03_PlaceMore.j0 k a1 a2 (decide (t668 < 0)) a0_0 a0_1 a0_2 a0_3)))) else (riverbanklaw03_PlaceMore.j0 k a1 a2 true a0_0 a0_1 a0_2 a0_3)))
theorem riverbanklaw03_PlaceMore.mono_l : ∀ k, (∀ y0 y1 y2 y3 y4 y5 y6, LeO (riverbanklaw03_PlaceMore.j0 k y0 y1 y2 y3 y4 y5 y6) (riverbanklaw03_PlaceMore.j0 (k + 1) y0 y1 y2 y3 y4 y5 y6)) ∧ (∀ y0 y1 y2 y3 y4 y5 y6, LeO (riverbanklaw03_PlaceMore.j1 k y0 y1 y2 y3 y4 y5 y6) (riverbanklaw03_PlaceMore.j1 (k + 1) y0 y1 y2 y3 y4 y5 y6))
  | 0 => ⟨fun _ _ _ _ _ _ _ r h => by simp [riverbanklaw03_PlaceMore.j0] at h, fun _ _ _ _ _ _ _ r h => by simp [riverbanklaw03_PlaceMore.j1] at h⟩
  | k + 1 => by
    obtain ⟨ih0, ih1⟩ := riverbanklaw03_PlaceMore.mono_l k
    refine ⟨?_, ?_⟩
    · intro y0 y1 y2 y3 y4 y5 y6
      unfold riverbanklaw03_PlaceMore.j0
      repeat' first
      | (with_reducible exact ih0 _ _ _ _ _ _ _)
      | (with_reducible exact ih1 _ _ _ _ _ _ _)
      | (with_reducible exact place_Check.mono _ _ _ _ _)
      | (with_reducible exact riverbankref02_Find.mono _ _ _)
      | (with_reducible exact riverbankref02_Put.mono _ _ _ _)
      | (with_reducible exact riverbankref02_Side.mono _ _)
      | (with_reducible exact LeO.refl _)
      | (with_reducible exact LeO.none _)
      | (with_reducible refine LeO.ite ?_ ?_)
      | (with_reducible refine LeO.bind ?_ (fun _ => ?_))
      | exact ih0 _ _ _ _ _ _ _
      | exact ih1 _ _ _ _ _ _ _
      | exact place_Check.mono _ _ _ _ _
      | exact riverbankref02_Find.mono _ _ _
      | exact riverbankref02_Put.mono _ _ _ _
      | exact riverbankref02_Side.mono _ _
      | exact LeO.none _
      | refine LeO.ite ?_ ?_
      | refine LeO.bind ?_ (fun _ => ?_)
    · intro y0 y1 y2 y3 y4 y5 y6
      unfold riverbanklaw03_PlaceMore.j1
      repeat' first
      | (with_reducible exact ih0 _ _ _ _ _ _ _)
      | (with_reducible exact ih1 _ _ _ _ _ _ _)
      | (with_reducible exact place_Check.mono _ _ _ _ _)
      | (with_reducible exact riverbankref02_Find.mono _ _ _)
      | (with_reducible exact riverbankref02_Put.mono _ _ _ _)
      | (with_reducible exact riverbankref02_Side.mono _ _)
      | (with_reducible exact LeO.refl _)
      | (with_reducible exact LeO.none _)
      | (with_reducible refine LeO.ite ?_ ?_)
      | (with_reducible refine LeO.bind ?_ (fun _ => ?_))
      | exact ih0 _ _ _ _ _ _ _
      | exact ih1 _ _ _ _ _ _ _
      | exact place_Check.mono _ _ _ _ _
      | exact riverbankref02_Find.mono _ _ _
      | exact riverbankref02_Put.mono _ _ _ _
      | exact riverbankref02_Side.mono _ _
      | exact LeO.none _
      | refine LeO.ite ?_ ?_
      | refine LeO.bind ?_ (fun _ => ?_)
theorem riverbanklaw03_PlaceMore.mono : ∀ a0 a1 a2 a3 a4 a5 k, LeO (riverbanklaw03_PlaceMore.f k a0 a1 a2 a3 a4 a5) (riverbanklaw03_PlaceMore.f (k + 1) a0 a1 a2 a3 a4 a5) := by
  intro a0 a1 a2 a3 a4 a5 k
  obtain ⟨ih0, ih1⟩ := riverbanklaw03_PlaceMore.mono_l k
  unfold riverbanklaw03_PlaceMore.f
  repeat' first
      | (with_reducible exact ih0 _ _ _ _ _ _ _)
      | (with_reducible exact ih1 _ _ _ _ _ _ _)
      | (with_reducible exact place_Check.mono _ _ _ _ _)
      | (with_reducible exact riverbankref02_Find.mono _ _ _)
      | (with_reducible exact riverbankref02_Put.mono _ _ _ _)
      | (with_reducible exact riverbankref02_Side.mono _ _)
      | (with_reducible exact LeO.refl _)
      | (with_reducible exact LeO.none _)
      | (with_reducible refine LeO.ite ?_ ?_)
      | (with_reducible refine LeO.bind ?_ (fun _ => ?_))
      | exact ih0 _ _ _ _ _ _ _
      | exact ih1 _ _ _ _ _ _ _
      | exact place_Check.mono _ _ _ _ _
      | exact riverbankref02_Find.mono _ _ _
      | exact riverbankref02_Put.mono _ _ _ _
      | exact riverbankref02_Side.mono _ _
      | exact LeO.none _
      | refine LeO.ite ?_ ?_
      | refine LeO.bind ?_ (fun _ => ?_)
set_option maxHeartbeats 8000000 in
set_option maxRecDepth 100000 in
theorem riverbanklaw03_PlaceMore.calls (k : Nat) (a0_0 : ByteArray) (a0_1 : Int) (a0_2 : Int) (a0_3 : Int) (a1 : Int) (a2 : Int) (r : Bool) (w : World) (hT : TabHere w) (h : riverbanklaw03_PlaceMore.f k a0_0 a0_1 a0_2 a0_3 a1 a2 = some r) :
    Calls Tryd.prog 21 #[.agg #[.string a0_0, .int .i64 a0_1, .int .i64 a0_2, .int .i64 a0_3], .int .i64 a1, .int .u8 a2] w fun e w' => e = .returned (.bool r) ∧ Below w.heap.size w w' := by
  have HT := Aside0.mk hT
  clear hT
  have hu74 := Tryd.underlying74
  have HB := Aside0.mk (Below.refl w.heap.size w)
  have H : (if (a0_0.size : Int) > 200 then (riverbanklaw03_PlaceMore.j0 k a1 a2 true a0_0 a0_1 a0_2 a0_3) else ((place_Check.f k a0_0 a0_1 a0_2 a0_3).bind fun t667 => (if t667 = 0 then (if a1 < 0 then (riverbanklaw03_PlaceMore.j0 k a1 a2 true a0_0 a0_1 a0_2 a0_3) else (if a1 > 89 then (riverbanklaw03_PlaceMore.j0 k a1 a2 true a0_0 a0_1 a0_2 a0_3) else ((riverbankref02_Side.f k a2).bind fun t668 => (riverbanklaw03_PlaceMore.j0 k a1 a2 (decide (t668 < 0)) a0_0 a0_1 a0_2 a0_3)))) else (riverbanklaw03_PlaceMore.j0 k a1 a2 true a0_0 a0_1 a0_2 a0_3)))) = some r := h
  clear h
  have HC4 := Aside0.mk H
  clear H
  go_enter Tryd.func21, Tryd.ntmps21
  go_upto_region 1 with (first | ((with_reducible refine gate_dst (N := 3) rfl ?_); (try (refine gate_guard (by rfl) ?_; dsimp only)); refine box_event ?hg (N := 3) ?hd (cs := #[.string a0_0, .int .i64 a0_1, .int .i64 a0_2, .int .i64 a0_3]) (t := 74) ?hr ?_; (case hd => rfl); (case hg => rfl); (case hr => first | (go_simp; done) | (go_simp; rfl)); intro gb666 hg w5 hbox hb; have n0_ := Aside0.mk (below_step (by repeat (first | (with_reducible first | exact HB.out | apply below_alloc | apply pw_below_drewN | apply below_drew1) | exact HB.out)) hb); have n1_ := Aside0.mk (hbox); have n2_ := Aside0.mk ((by rw [hg]; exact (below_size (by repeat (first | (with_reducible first | exact HB.out | apply below_alloc | apply pw_below_drewN | apply below_drew1) | exact HB.out))) : w.heap.size ≤ gb666)); have n3_ := Aside0.mk ((by rw [hg]; exact (below_size (by repeat (first | (with_reducible first | exact HB.out | apply below_alloc | apply pw_below_drewN | apply below_drew1) | exact HB.out))) : w.heap.size ≤ gb666)); clear HB; have HB := n0_; have BK666 := n1_; have GW666 := n2_; have GE666 := n3_; clear n0_ n1_ n2_ n3_; clear hb hbox hg))
  (try simp only [Act.put, List.setIfInBounds_toArray, List.set_cons_zero, List.set_cons_succ])
  go_cut [29] (fun v29 wc => ∃ (kq : Nat) (x29_3 : Bool), v29 = .bool x29_3 ∧ Aside0 (riverbanklaw03_PlaceMore.j0 kq a1 a2 x29_3 a0_0 a0_1 a0_2 a0_3 = some r) ∧ Aside0 (kq ≤ k) ∧ Aside0 (wc.heap[gb666]? = some (.cells #[.string a0_0, .int .i64 a0_1, .int .i64 a0_2, .int .i64 a0_3] 74 (0, 0))) ∧ Aside0 (Below w.heap.size w wc))
  case first =>
    have H := HC4.out
    clear HC4
    by_cases c6 : (a0_0.size : Int) > 200
    · rw [if_pos c6] at H
      have c6b0 : decide (200 < (a0_0.size : Int)) = true := decide_eq_true c6
      have c6b1 : decide (200 < a0_0.size) = true := decide_eq_true (by omega)
      clear c6
      (first | rw [c6b0] | (simp only [i64_w, i32_w]; rw [c6b0]) | skip)
      have H' := Aside0.mk H
      clear H
      have hcz7_0 : w5.cell? ⟨gb666, 0, none⟩ = some (.string a0_0) := (blk_cell BK666.out 0).trans rfl
      have hcz7_1 : w5.cell? ⟨gb666, 1, none⟩ = some (.int .i64 a0_1) := (blk_cell BK666.out 1).trans rfl
      have hcz7_2 : w5.cell? ⟨gb666, 2, none⟩ = some (.int .i64 a0_2) := (blk_cell BK666.out 2).trans rfl
      have hcz7_3 : w5.cell? ⟨gb666, 3, none⟩ = some (.int .i64 a0_3) := (blk_cell BK666.out 3).trans rfl
      have hfz7_0 := blk_frozen BK666.out 0
      have hfz7_1 := blk_frozen BK666.out 1
      have hfz7_2 := blk_frozen BK666.out 2
      have hfz7_3 := blk_frozen BK666.out 3
      go_wp2
      go_meet
      case rel => exact ⟨_, (true), (by first | rfl | (simp; done) | (simp [*]; done)), H', ⟨by first | omega | exact Nat.le_refl _⟩, ⟨by (with_reducible repeat (first | refine blk_drewN ?_ _ | refine blk_drew ?_ | refine blk_alloc ?_ _)); exact BK666.out⟩, ⟨by repeat (first | (with_reducible first | exact HB.out | apply below_alloc | apply pw_below_drewN | apply below_drew1 | refine below_set ?_ GE666.out) | exact HB.out)⟩⟩
    · rw [if_neg c6] at H
      have c6b0 : decide (200 < (a0_0.size : Int)) = false := decide_eq_false c6
      have c6b1 : decide (200 < a0_0.size) = false := decide_eq_false (by omega)
      clear c6
      (first | rw [c6b0] | (simp only [i64_w, i32_w]; rw [c6b0]) | skip)
      replace H := Option.bind_eq_some_iff.mp H
      obtain ⟨t667, A80, H⟩ := H
      replace H : (if t667 = 0 then (if a1 < 0 then (riverbanklaw03_PlaceMore.j0 k a1 a2 true a0_0 a0_1 a0_2 a0_3) else (if a1 > 89 then (riverbanklaw03_PlaceMore.j0 k a1 a2 true a0_0 a0_1 a0_2 a0_3) else ((riverbankref02_Side.f k a2).bind fun t668 => (riverbanklaw03_PlaceMore.j0 k a1 a2 (decide (t668 < 0)) a0_0 a0_1 a0_2 a0_3)))) else (riverbanklaw03_PlaceMore.j0 k a1 a2 true a0_0 a0_1 a0_2 a0_3)) = some r := H
      have A8 := Aside0.mk A80
      clear A80
      by_cases c9 : t667 = 0
      · rw [if_pos c9] at H
        have c9b0 : (t667 == 0) = true := beq_iff_eq.mpr c9
        have c9b1 : (t667 != 0) = false := bne_eq_false_iff_eq.mpr c9
        clear c9
        by_cases c10 : a1 < 0
        · rw [if_pos c10] at H
          have c10b0 : decide (a1 < 0) = true := decide_eq_true c10
          clear c10
          have H' := Aside0.mk H
          clear H
          have hcz11_0 : w5.cell? ⟨gb666, 0, none⟩ = some (.string a0_0) := (blk_cell BK666.out 0).trans rfl
          have hcz11_1 : w5.cell? ⟨gb666, 1, none⟩ = some (.int .i64 a0_1) := (blk_cell BK666.out 1).trans rfl
          have hcz11_2 : w5.cell? ⟨gb666, 2, none⟩ = some (.int .i64 a0_2) := (blk_cell BK666.out 2).trans rfl
          have hcz11_3 : w5.cell? ⟨gb666, 3, none⟩ = some (.int .i64 a0_3) := (blk_cell BK666.out 3).trans rfl
          have hfz11_0 := blk_frozen BK666.out 0
          have hfz11_1 := blk_frozen BK666.out 1
          have hfz11_2 := blk_frozen BK666.out 2
          have hfz11_3 := blk_frozen BK666.out 3
          go_wp2_with (first | (go_at_call 82; (with_reducible refine (place_Check.calls k a0_0 a0_1 a0_2 a0_3 t667 _ A8.out).mono ?_); rintro e w12 ⟨rfl, hb⟩; have n0_ := Aside0.mk (blk_below (g := gb666) (o := .cells #[.string a0_0, .int .i64 a0_1, .int .i64 a0_2, .int .i64 a0_3] 74 (0, 0)) (by (with_reducible repeat (first | refine blk_drewN ?_ _ | refine blk_drew ?_ | refine blk_alloc ?_ _)); exact BK666.out) hb); have n1_ := Aside0.mk (below_step (by repeat (first | (with_reducible first | exact HB.out | apply below_alloc | apply pw_below_drewN | apply below_drew1 | refine below_set ?_ GE666.out) | exact HB.out)) hb); clear BK666; clear HB; have BK666 := n0_; have HB := n1_; clear n0_ n1_; (try clear hb); (try clear hb2); (try clear hk); (try clear hi)))
          go_meet
          case rel => exact ⟨_, (true), (by first | rfl | (simp; done) | (simp [*]; done)), H', ⟨by first | omega | exact Nat.le_refl _⟩, ⟨by (with_reducible repeat (first | refine blk_drewN ?_ _ | refine blk_drew ?_ | refine blk_alloc ?_ _)); exact BK666.out⟩, ⟨by repeat (first | (with_reducible first | exact HB.out | apply below_alloc | apply pw_below_drewN | apply below_drew1 | refine below_set ?_ GE666.out) | exact HB.out)⟩⟩
        · rw [if_neg c10] at H
          have c10b0 : decide (a1 < 0) = false := decide_eq_false c10
          clear c10
          by_cases c13 : a1 > 89
          · rw [if_pos c13] at H
            have c13b0 : decide (89 < a1) = true := decide_eq_true c13
            clear c13
            have H' := Aside0.mk H
            clear H
            have hcz14_0 : w5.cell? ⟨gb666, 0, none⟩ = some (.string a0_0) := (blk_cell BK666.out 0).trans rfl
            have hcz14_1 : w5.cell? ⟨gb666, 1, none⟩ = some (.int .i64 a0_1) := (blk_cell BK666.out 1).trans rfl
            have hcz14_2 : w5.cell? ⟨gb666, 2, none⟩ = some (.int .i64 a0_2) := (blk_cell BK666.out 2).trans rfl
            have hcz14_3 : w5.cell? ⟨gb666, 3, none⟩ = some (.int .i64 a0_3) := (blk_cell BK666.out 3).trans rfl
            have hfz14_0 := blk_frozen BK666.out 0
            have hfz14_1 := blk_frozen BK666.out 1
            have hfz14_2 := blk_frozen BK666.out 2
            have hfz14_3 := blk_frozen BK666.out 3
            go_wp2_with (first | (go_at_call 82; (with_reducible refine (place_Check.calls k a0_0 a0_1 a0_2 a0_3 t667 _ A8.out).mono ?_); rintro e w15 ⟨rfl, hb⟩; have n0_ := Aside0.mk (blk_below (g := gb666) (o := .cells #[.string a0_0, .int .i64 a0_1, .int .i64 a0_2, .int .i64 a0_3] 74 (0, 0)) (by (with_reducible repeat (first | refine blk_drewN ?_ _ | refine blk_drew ?_ | refine blk_alloc ?_ _)); exact BK666.out) hb); have n1_ := Aside0.mk (below_step (by repeat (first | (with_reducible first | exact HB.out | apply below_alloc | apply pw_below_drewN | apply below_drew1 | refine below_set ?_ GE666.out) | exact HB.out)) hb); clear BK666; clear HB; have BK666 := n0_; have HB := n1_; clear n0_ n1_; (try clear hb); (try clear hb2); (try clear hk); (try clear hi)))
            go_meet
            case rel => exact ⟨_, (true), (by first | rfl | (simp; done) | (simp [*]; done)), H', ⟨by first | omega | exact Nat.le_refl _⟩, ⟨by (with_reducible repeat (first | refine blk_drewN ?_ _ | refine blk_drew ?_ | refine blk_alloc ?_ _)); exact BK666.out⟩, ⟨by repeat (first | (with_reducible first | exact HB.out | apply below_alloc | apply pw_below_drewN | apply below_drew1 | refine below_set ?_ GE666.out) | exact HB.out)⟩⟩
          · rw [if_neg c13] at H
            have c13b0 : decide (89 < a1) = false := decide_eq_false c13
            clear c13
            replace H := Option.bind_eq_some_iff.mp H
            obtain ⟨t668, A160, H⟩ := H
            replace H : (riverbanklaw03_PlaceMore.j0 k a1 a2 (decide (t668 < 0)) a0_0 a0_1 a0_2 a0_3) = some r := H
            have A16 := Aside0.mk A160
            clear A160
            have H' := Aside0.mk H
            clear H
            have hcz17_0 : w5.cell? ⟨gb666, 0, none⟩ = some (.string a0_0) := (blk_cell BK666.out 0).trans rfl
            have hcz17_1 : w5.cell? ⟨gb666, 1, none⟩ = some (.int .i64 a0_1) := (blk_cell BK666.out 1).trans rfl
            have hcz17_2 : w5.cell? ⟨gb666, 2, none⟩ = some (.int .i64 a0_2) := (blk_cell BK666.out 2).trans rfl
            have hcz17_3 : w5.cell? ⟨gb666, 3, none⟩ = some (.int .i64 a0_3) := (blk_cell BK666.out 3).trans rfl
            have hfz17_0 := blk_frozen BK666.out 0
            have hfz17_1 := blk_frozen BK666.out 1
            have hfz17_2 := blk_frozen BK666.out 2
            have hfz17_3 := blk_frozen BK666.out 3
            go_wp2_with (first | (go_at_call 82; (with_reducible refine (place_Check.calls k a0_0 a0_1 a0_2 a0_3 t667 _ A8.out).mono ?_); rintro e w18 ⟨rfl, hb⟩; have n0_ := Aside0.mk (blk_below (g := gb666) (o := .cells #[.string a0_0, .int .i64 a0_1, .int .i64 a0_2, .int .i64 a0_3] 74 (0, 0)) (by (with_reducible repeat (first | refine blk_drewN ?_ _ | refine blk_drew ?_ | refine blk_alloc ?_ _)); exact BK666.out) hb); have n1_ := Aside0.mk (below_step (by repeat (first | (with_reducible first | exact HB.out | apply below_alloc | apply pw_below_drewN | apply below_drew1 | refine below_set ?_ GE666.out) | exact HB.out)) hb); clear BK666; clear HB; have BK666 := n0_; have HB := n1_; clear n0_ n1_; (try clear hb); (try clear hb2); (try clear hk); (try clear hi)) | (go_at_call 49; (with_reducible refine (riverbankref02_Side.calls k a2 t668 _ A16.out).mono ?_); rintro e w' ⟨rfl, ⟨nd, rfl⟩⟩))
            go_meet
            case rel => exact ⟨_, (decide (t668 < 0)), (by first | rfl | (simp; done) | (simp [*]; done)), H', ⟨by first | omega | exact Nat.le_refl _⟩, ⟨by (with_reducible repeat (first | refine blk_drewN ?_ _ | refine blk_drew ?_ | refine blk_alloc ?_ _)); exact BK666.out⟩, ⟨by repeat (first | (with_reducible first | exact HB.out | apply below_alloc | apply pw_below_drewN | apply below_drew1 | refine below_set ?_ GE666.out) | exact HB.out)⟩⟩
      · rw [if_neg c9] at H
        have c9b0 : (t667 == 0) = false := beq_eq_false_iff_ne.mpr c9
        have c9b1 : (t667 != 0) = true := bne_iff_ne.mpr c9
        have H' := Aside0.mk H
        clear H
        have hcz19_0 : w5.cell? ⟨gb666, 0, none⟩ = some (.string a0_0) := (blk_cell BK666.out 0).trans rfl
        have hcz19_1 : w5.cell? ⟨gb666, 1, none⟩ = some (.int .i64 a0_1) := (blk_cell BK666.out 1).trans rfl
        have hcz19_2 : w5.cell? ⟨gb666, 2, none⟩ = some (.int .i64 a0_2) := (blk_cell BK666.out 2).trans rfl
        have hcz19_3 : w5.cell? ⟨gb666, 3, none⟩ = some (.int .i64 a0_3) := (blk_cell BK666.out 3).trans rfl
        have hfz19_0 := blk_frozen BK666.out 0
        have hfz19_1 := blk_frozen BK666.out 1
        have hfz19_2 := blk_frozen BK666.out 2
        have hfz19_3 := blk_frozen BK666.out 3
        go_wp2_with (first | (go_at_call 82; (with_reducible refine (place_Check.calls k a0_0 a0_1 a0_2 a0_3 t667 _ A8.out).mono ?_); rintro e w20 ⟨rfl, hb⟩; have n0_ := Aside0.mk (blk_below (g := gb666) (o := .cells #[.string a0_0, .int .i64 a0_1, .int .i64 a0_2, .int .i64 a0_3] 74 (0, 0)) (by (with_reducible repeat (first | refine blk_drewN ?_ _ | refine blk_drew ?_ | refine blk_alloc ?_ _)); exact BK666.out) hb); have n1_ := Aside0.mk (below_step (by repeat (first | (with_reducible first | exact HB.out | apply below_alloc | apply pw_below_drewN | apply below_drew1 | refine below_set ?_ GE666.out) | exact HB.out)) hb); clear BK666; clear HB; have BK666 := n0_; have HB := n1_; clear n0_ n1_; (try clear hb); (try clear hb2); (try clear hk); (try clear hi)))
        go_meet
        case rel => exact ⟨_, (true), (by first | rfl | (simp; done) | (simp [*]; done)), H', ⟨by first | omega | exact Nat.le_refl _⟩, ⟨by (with_reducible repeat (first | refine blk_drewN ?_ _ | refine blk_drew ?_ | refine blk_alloc ?_ _)); exact BK666.out⟩, ⟨by repeat (first | (with_reducible first | exact HB.out | apply below_alloc | apply pw_below_drewN | apply below_drew1 | refine below_set ?_ GE666.out) | exact HB.out)⟩⟩
  case rest =>
    clear HC4
    try clear c1
    try clear c2
    try clear p2
    try clear c6
    try clear c6b0
    try clear c6b1
    try clear c9
    try clear c9b0
    try clear c9b1
    try clear c10
    try clear c10b0
    try clear c13
    try clear c13b0
    try clear hcz11_0
    try clear hcz11_1
    try clear hcz11_2
    try clear hcz11_3
    try clear hcz14_0
    try clear hcz14_1
    try clear hcz14_2
    try clear hcz14_3
    try clear hcz17_0
    try clear hcz17_1
    try clear hcz17_2
    try clear hcz17_3
    try clear hcz19_0
    try clear hcz19_1
    try clear hcz19_2
    try clear hcz19_3
    try clear hcz7_0
    try clear hcz7_1
    try clear hcz7_2
    try clear hcz7_3
    try clear hfz11_0
    try clear hfz11_1
    try clear hfz11_2
    try clear hfz11_3
    try clear hfz14_0
    try clear hfz14_1
    try clear hfz14_2
    try clear hfz14_3
    try clear hfz17_0
    try clear hfz17_1
    try clear hfz17_2
    try clear hfz17_3
    try clear hfz19_0
    try clear hfz19_1
    try clear hfz19_2
    try clear hfz19_3
    try clear hfz7_0
    try clear hfz7_1
    try clear hfz7_2
    try clear hfz7_3
    obtain ⟨kq, x29_3, rfl, HA, HJ3, BK666, HB⟩ := hcut
    cases kq with
    | zero => exact absurd HA.out (by simp [riverbanklaw03_PlaceMore.j0])
    | succ kj3 =>
      have H := HA.out
      clear HA
      simp only [riverbanklaw03_PlaceMore.j0] at H
      by_cases c21 : x29_3 = true
      · subst c21
        have H1 : ((riverbanklaw03_live.f).bind fun t669 => (some t669)) = some r := by rw [if_pos rfl] at H; exact H
        clear H
        have H := H1
        clear H1
        replace H := Option.bind_eq_some_iff.mp H
        obtain ⟨t669, A220, H⟩ := H
        replace H : (some t669) = some r := H
        have A22 := Aside0.mk A220
        clear A220
        obtain rfl := Option.some.inj H
        go_wp2_with (first | ((with_reducible refine gate_callee (f := 81) rfl ?_); refine goesL_ (some 30) rfl rfl Tryd.func81 (by kernel_rfl) rfl #[] rfl (by (try simp only [List.map_toArray, List.map_cons, List.map_nil]); first | done | rfl | (simp only [List.length_drop, List.length_take]; rfl)) ?_; (with_reducible refine (riverbanklaw03_live.calls  t669 _ (tab_of HT.out (by repeat (first | (with_reducible first | exact HB.out | apply below_alloc | apply pw_below_drewN | apply below_drew1 | refine below_set ?_ GE666.out) | exact HB.out))) A22.out).mono ?_); rintro e w23 ⟨rfl, hb⟩; refine ⟨_, rfl, ?_⟩; have n0_ := Aside0.mk (blk_below (g := gb666) (o := .cells #[.string a0_0, .int .i64 a0_1, .int .i64 a0_2, .int .i64 a0_3] 74 (0, 0)) (by (with_reducible repeat (first | refine blk_drewN ?_ _ | refine blk_drew ?_ | refine blk_alloc ?_ _)); exact BK666.out) hb); have n1_ := Aside0.mk (below_step (by repeat (first | (with_reducible first | exact HB.out | apply below_alloc | apply pw_below_drewN | apply below_drew1 | refine below_set ?_ GE666.out) | exact HB.out)) hb); clear BK666; clear HB; have BK666 := n0_; have HB := n1_; clear n0_ n1_; (try clear hb); (try clear hb2); (try clear hk); (try clear hi)))
        go_ret
        exact ⟨by first | rfl | (simp [errW_none, errW_some] <;> rfl) | (simp [*, errW_none, errW_some] <;> rfl), by repeat (first | (with_reducible first | exact HB.out | apply below_alloc | apply pw_below_drewN | apply below_drew1 | refine below_set ?_ GE666.out) | exact HB.out)⟩
      · replace c21 := Bool.eq_false_iff.mpr c21
        subst c21
        have H1 : (if 0 ≤ a1 then (if a1 < (a0_0.size : Int) then (if (bt a0_0 a1) = 46 then ((riverbankref02_Find.f kj3 a0_0 a2).bind fun t670 => ((place_Most.f a2).bind fun t673 => (riverbanklaw03_PlaceMore.j1 kj3 a1 a2 (decide ((t670.length : Int) < t673)) a0_0 a0_1 a0_2 a0_3))) else (riverbanklaw03_PlaceMore.j1 kj3 a1 a2 true a0_0 a0_1 a0_2 a0_3)) else (none)) else (none)) = some r := by rw [if_neg (show ¬ (false = true) by decide)] at H; exact H
        clear H
        have H := H1
        clear H1
        have HC24 := Aside0.mk H
        clear H
        go_upto_region 3 with (fail)
        go_cut [45] (fun v45 wc => ∃ (kq : Nat) (x45_23 : Bool), v45 = .bool x45_23 ∧ Aside0 (riverbanklaw03_PlaceMore.j1 kq a1 a2 x45_23 a0_0 a0_1 a0_2 a0_3 = some r) ∧ Aside0 (kq ≤ kj3) ∧ Aside0 (wc.heap[gb666]? = some (.cells #[.string a0_0, .int .i64 a0_1, .int .i64 a0_2, .int .i64 a0_3] 74 (0, 0))) ∧ Aside0 (Below w.heap.size w wc))
        case first =>
          have H := HC24.out
          clear HC24
          by_cases c25 : 0 ≤ a1
          · rw [if_pos c25] at H
            have c25b0 : decide (0 ≤ a1) = true := decide_eq_true c25
            clear c25
            (first | rw [c25b0] | (simp only [i64_w, i32_w]; rw [c25b0]) | skip)
            by_cases c26 : a1 < (a0_0.size : Int)
            · rw [if_pos c26] at H
              have c26b0 : decide (a1 < (a0_0.size : Int)) = true := decide_eq_true c26
              clear c26
              by_cases c28 : (bt a0_0 a1) = 46
              · rw [if_pos c28] at H
                have c28b0 : ((bt a0_0 a1) == 46) = true := beq_iff_eq.mpr c28
                have c28b1 : ((bt a0_0 a1) != 46) = false := bne_eq_false_iff_eq.mpr c28
                clear c28
                replace H := Option.bind_eq_some_iff.mp H
                obtain ⟨t670, A290, H⟩ := H
                replace H : ((place_Most.f a2).bind fun t673 => (riverbanklaw03_PlaceMore.j1 kj3 a1 a2 (decide ((t670.length : Int) < t673)) a0_0 a0_1 a0_2 a0_3)) = some r := H
                have A29 := Aside0.mk A290
                clear A290
                replace H := Option.bind_eq_some_iff.mp H
                obtain ⟨t673, A300, H⟩ := H
                replace H : (riverbanklaw03_PlaceMore.j1 kj3 a1 a2 (decide ((t670.length : Int) < t673)) a0_0 a0_1 a0_2 a0_3) = some r := H
                have A30 := Aside0.mk A300
                clear A300
                have H' := Aside0.mk H
                clear H
                have hcz31_0 : wc.cell? ⟨gb666, 0, none⟩ = some (.string a0_0) := (blk_cell BK666.out 0).trans rfl
                have hcz31_1 : wc.cell? ⟨gb666, 1, none⟩ = some (.int .i64 a0_1) := (blk_cell BK666.out 1).trans rfl
                have hcz31_2 : wc.cell? ⟨gb666, 2, none⟩ = some (.int .i64 a0_2) := (blk_cell BK666.out 2).trans rfl
                have hcz31_3 : wc.cell? ⟨gb666, 3, none⟩ = some (.int .i64 a0_3) := (blk_cell BK666.out 3).trans rfl
                have hfz31_0 := blk_frozen BK666.out 0
                have hfz31_1 := blk_frozen BK666.out 1
                have hfz31_2 := blk_frozen BK666.out 2
                have hfz31_3 := blk_frozen BK666.out 3
                have p27 : 0 ≤ (a1 : Int) := of_decide_eq_true (by first | (with_reducible assumption) | assumption)
                have q27 : a1 < (a0_0.size : Int) := of_decide_eq_true (by first | (with_reducible assumption) | assumption)
                have hx27 := bt_at a0_0 a1
                replace p27 := eq_true p27
                replace q27 := eq_true q27
                go_wp2_with (first | (go_at_call 57; (with_reducible refine (riverbankref02_Find.calls kj3 a0_0 a2 t670 _ A29.out).mono ?_); rintro e w32 ⟨v671, rfl, ho0, hb⟩; have n0_ := Aside0.mk (Kd.R_lower ho0 (below_size (by repeat (first | (with_reducible first | exact HB.out | apply below_alloc | apply pw_below_drewN | apply below_drew1 | refine below_set ?_ GE666.out) | exact HB.out)))); have n1_ := Aside0.mk (blk_below (g := gb666) (o := .cells #[.string a0_0, .int .i64 a0_1, .int .i64 a0_2, .int .i64 a0_3] 74 (0, 0)) (by (with_reducible repeat (first | refine blk_drewN ?_ _ | refine blk_drew ?_ | refine blk_alloc ?_ _)); exact BK666.out) hb); have n2_ := Aside0.mk (below_step (by repeat (first | (with_reducible first | exact HB.out | apply below_alloc | apply pw_below_drewN | apply below_drew1 | refine below_set ?_ GE666.out) | exact HB.out)) hb); clear BK666; clear HB; have HO672 := n0_; have BK666 := n1_; have HB := n2_; clear n0_ n1_ n2_; (try clear hb); (try clear hb2); (try clear hk); (try clear hi); (try clear ho0); obtain ⟨Ao33, co33, eo33⟩ := Kd.R_slice HO672.out; subst eo33) | (go_at_call 75; (with_reducible refine (place_Most.calls a2 t673 _ A30.out).mono ?_); rintro e w' ⟨rfl, ⟨nd, rfl⟩⟩))
                go_meet
                case rel => exact ⟨_, (decide ((t670.length : Int) < t673)), (by first | rfl | (simp; done) | (simp [*]; done)), H', ⟨by have := HJ3.out; first | omega | exact Nat.le_refl _⟩, ⟨by (with_reducible repeat (first | refine blk_drewN ?_ _ | refine blk_drew ?_ | refine blk_alloc ?_ _)); exact BK666.out⟩, ⟨by repeat (first | (with_reducible first | exact HB.out | apply below_alloc | apply pw_below_drewN | apply below_drew1 | refine below_set ?_ GE666.out) | exact HB.out)⟩⟩
              · rw [if_neg c28] at H
                have c28b0 : ((bt a0_0 a1) == 46) = false := beq_eq_false_iff_ne.mpr c28
                have c28b1 : ((bt a0_0 a1) != 46) = true := bne_iff_ne.mpr c28
                have H' := Aside0.mk H
                clear H
                have hcz34_0 : wc.cell? ⟨gb666, 0, none⟩ = some (.string a0_0) := (blk_cell BK666.out 0).trans rfl
                have hcz34_1 : wc.cell? ⟨gb666, 1, none⟩ = some (.int .i64 a0_1) := (blk_cell BK666.out 1).trans rfl
                have hcz34_2 : wc.cell? ⟨gb666, 2, none⟩ = some (.int .i64 a0_2) := (blk_cell BK666.out 2).trans rfl
                have hcz34_3 : wc.cell? ⟨gb666, 3, none⟩ = some (.int .i64 a0_3) := (blk_cell BK666.out 3).trans rfl
                have hfz34_0 := blk_frozen BK666.out 0
                have hfz34_1 := blk_frozen BK666.out 1
                have hfz34_2 := blk_frozen BK666.out 2
                have hfz34_3 := blk_frozen BK666.out 3
                have p27 : 0 ≤ (a1 : Int) := of_decide_eq_true (by first | (with_reducible assumption) | assumption)
                have q27 : a1 < (a0_0.size : Int) := of_decide_eq_true (by first | (with_reducible assumption) | assumption)
                have hx27 := bt_at a0_0 a1
                replace p27 := eq_true p27
                replace q27 := eq_true q27
                go_wp2
                go_meet
                case rel => exact ⟨_, (true), (by first | rfl | (simp; done) | (simp [*]; done)), H', ⟨by have := HJ3.out; first | omega | exact Nat.le_refl _⟩, ⟨by (with_reducible repeat (first | refine blk_drewN ?_ _ | refine blk_drew ?_ | refine blk_alloc ?_ _)); exact BK666.out⟩, ⟨by repeat (first | (with_reducible first | exact HB.out | apply below_alloc | apply pw_below_drewN | apply below_drew1 | refine below_set ?_ GE666.out) | exact HB.out)⟩⟩
            · rw [if_neg c26] at H
              exact absurd H (by simp)
          · rw [if_neg c25] at H
            exact absurd H (by simp)
        case rest =>
          clear HC24
          try clear c1
          try clear c2
          try clear p2
          try clear q2
          try clear hx2
          try clear c6
          try clear c6b0
          try clear c6b1
          try clear c8
          try clear c9
          try clear c9b0
          try clear c9b1
          try clear c10
          try clear c10b0
          try clear c13
          try clear c13b0
          try clear c21
          try clear c25
          try clear c25b0
          try clear c26
          try clear c26b0
          try clear p27
          try clear q27
          try clear hx27
          try clear c28
          try clear c28b0
          try clear c28b1
          try clear hcz11_0
          try clear hcz11_1
          try clear hcz11_2
          try clear hcz11_3
          try clear hcz14_0
          try clear hcz14_1
          try clear hcz14_2
          try clear hcz14_3
          try clear hcz17_0
          try clear hcz17_1
          try clear hcz17_2
          try clear hcz17_3
          try clear hcz19_0
          try clear hcz19_1
          try clear hcz19_2
          try clear hcz19_3
          try clear hcz31_0
          try clear hcz31_1
          try clear hcz31_2
          try clear hcz31_3
          try clear hcz34_0
          try clear hcz34_1
          try clear hcz34_2
          try clear hcz34_3
          try clear hcz7_0
          try clear hcz7_1
          try clear hcz7_2
          try clear hcz7_3
          try clear hfz11_0
          try clear hfz11_1
          try clear hfz11_2
          try clear hfz11_3
          try clear hfz14_0
          try clear hfz14_1
          try clear hfz14_2
          try clear hfz14_3
          try clear hfz17_0
          try clear hfz17_1
          try clear hfz17_2
          try clear hfz17_3
          try clear hfz19_0
          try clear hfz19_1
          try clear hfz19_2
          try clear hfz19_3
          try clear hfz31_0
          try clear hfz31_1
          try clear hfz31_2
          try clear hfz31_3
          try clear hfz34_0
          try clear hfz34_1
          try clear hfz34_2
          try clear hfz34_3
          try clear hfz7_0
          try clear hfz7_1
          try clear hfz7_2
          try clear hfz7_3
          try clear p2
          try clear p27
          try clear q27
          obtain ⟨kq, x45_23, rfl, HA, HJ23, BK666, HB⟩ := hcut
          cases kq with
          | zero => exact absurd HA.out (by simp [riverbanklaw03_PlaceMore.j1])
          | succ kj23 =>
            have H := HA.out
            clear HA
            simp only [riverbanklaw03_PlaceMore.j1] at H
            by_cases c35 : x45_23 = true
            · subst c35
              have H1 : ((riverbanklaw03_live.f).bind fun t674 => (some t674)) = some r := by rw [if_pos rfl] at H; exact H
              clear H
              have H := H1
              clear H1
              replace H := Option.bind_eq_some_iff.mp H
              obtain ⟨t674, A360, H⟩ := H
              replace H : (some t674) = some r := H
              have A36 := Aside0.mk A360
              clear A360
              obtain rfl := Option.some.inj H
              go_wp2_with (first | ((with_reducible refine gate_callee (f := 81) rfl ?_); refine goesL_ (some 46) rfl rfl Tryd.func81 (by kernel_rfl) rfl #[] rfl (by (try simp only [List.map_toArray, List.map_cons, List.map_nil]); first | done | rfl | (simp only [List.length_drop, List.length_take]; rfl)) ?_; (with_reducible refine (riverbanklaw03_live.calls  t674 _ (tab_of HT.out (by repeat (first | (with_reducible first | exact HB.out | apply below_alloc | apply pw_below_drewN | apply below_drew1 | refine below_set ?_ GE666.out) | exact HB.out))) A36.out).mono ?_); rintro e w37 ⟨rfl, hb⟩; refine ⟨_, rfl, ?_⟩; have n0_ := Aside0.mk (blk_below (g := gb666) (o := .cells #[.string a0_0, .int .i64 a0_1, .int .i64 a0_2, .int .i64 a0_3] 74 (0, 0)) (by (with_reducible repeat (first | refine blk_drewN ?_ _ | refine blk_drew ?_ | refine blk_alloc ?_ _)); exact BK666.out) hb); have n1_ := Aside0.mk (below_step (by repeat (first | (with_reducible first | exact HB.out | apply below_alloc | apply pw_below_drewN | apply below_drew1 | refine below_set ?_ GE666.out) | exact HB.out)) hb); clear BK666; clear HB; have BK666 := n0_; have HB := n1_; clear n0_ n1_; (try clear hb); (try clear hb2); (try clear hk); (try clear hi)))
              go_ret
              exact ⟨by first | rfl | (simp [errW_none, errW_some] <;> rfl) | (simp [*, errW_none, errW_some] <;> rfl), by repeat (first | (with_reducible first | exact HB.out | apply below_alloc | apply pw_below_drewN | apply below_drew1 | refine below_set ?_ GE666.out) | exact HB.out)⟩
            · replace c35 := Bool.eq_false_iff.mpr c35
              subst c35
              have H1 : ((riverbankref02_Put.f kj23 a0_0 a1 a2).bind fun t676 => ((place_Check.f kj23 t676 a0_1 a0_2 a0_3).bind fun t677 => (if t677 = 3 then ((riverbanklaw03_live.f).bind fun t678 => (some t678)) else (some false)))) = some r := by rw [if_neg (show ¬ (false = true) by decide)] at H; exact H
              clear H
              have H := H1
              clear H1
              replace H := Option.bind_eq_some_iff.mp H
              obtain ⟨t676, A380, H⟩ := H
              replace H : ((place_Check.f kj23 t676 a0_1 a0_2 a0_3).bind fun t677 => (if t677 = 3 then ((riverbanklaw03_live.f).bind fun t678 => (some t678)) else (some false))) = some r := H
              have A38 := Aside0.mk A380
              clear A380
              replace H := Option.bind_eq_some_iff.mp H
              obtain ⟨t677, A390, H⟩ := H
              replace H : (if t677 = 3 then ((riverbanklaw03_live.f).bind fun t678 => (some t678)) else (some false)) = some r := H
              have A39 := Aside0.mk A390
              clear A390
              by_cases c40 : t677 = 3
              · rw [if_pos c40] at H
                have c40b0 : (t677 == 3) = true := beq_iff_eq.mpr c40
                have c40b1 : (t677 != 3) = false := bne_eq_false_iff_eq.mpr c40
                clear c40
                replace H := Option.bind_eq_some_iff.mp H
                obtain ⟨t678, A410, H⟩ := H
                replace H : (some t678) = some r := H
                have A41 := Aside0.mk A410
                clear A410
                obtain rfl := Option.some.inj H
                have hcz42_0 : wc.cell? ⟨gb666, 0, none⟩ = some (.string a0_0) := (blk_cell BK666.out 0).trans rfl
                have hcz42_1 : wc.cell? ⟨gb666, 1, none⟩ = some (.int .i64 a0_1) := (blk_cell BK666.out 1).trans rfl
                have hcz42_2 : wc.cell? ⟨gb666, 2, none⟩ = some (.int .i64 a0_2) := (blk_cell BK666.out 2).trans rfl
                have hcz42_3 : wc.cell? ⟨gb666, 3, none⟩ = some (.int .i64 a0_3) := (blk_cell BK666.out 3).trans rfl
                have hfz42_0 := blk_frozen BK666.out 0
                have hfz42_1 := blk_frozen BK666.out 1
                have hfz42_2 := blk_frozen BK666.out 2
                have hfz42_3 := blk_frozen BK666.out 3
                go_wp2_with (first | ((with_reducible refine gate_dst (N := 7) rfl ?_); (try (refine gate_guard (by rfl) ?_; dsimp only)); refine box_event ?hg (N := 7) ?hd (cs := #[.string (⟨#[]⟩ : ByteArray), .int .i64 0, .int .i64 0, .int .i64 0]) (t := 74) ?hr ?_; (case hd => rfl); (case hg => rfl); (case hr => first | (go_simp; done) | (go_simp; rfl)); intro gb675 hg w43 hbox hb; have n0_ := Aside0.mk (blk_below (g := gb666) (o := .cells #[.string a0_0, .int .i64 a0_1, .int .i64 a0_2, .int .i64 a0_3] 74 (0, 0)) (by (with_reducible repeat (first | refine blk_drewN ?_ _ | refine blk_drew ?_ | refine blk_alloc ?_ _)); exact BK666.out) hb); have n1_ := Aside0.mk (below_step (by repeat (first | (with_reducible first | exact HB.out | apply below_alloc | apply pw_below_drewN | apply below_drew1 | refine below_set ?_ GE666.out) | exact HB.out)) hb); have n2_ := Aside0.mk (hbox); have n3_ := Aside0.mk ((by rw [hg]; exact (below_size (by repeat (first | (with_reducible first | exact HB.out | apply below_alloc | apply pw_below_drewN | apply below_drew1 | refine below_set ?_ GE666.out) | exact HB.out))) : w.heap.size ≤ gb675)); have n4_ := Aside0.mk ((by rw [hg]; exact (below_size (by repeat (first | (with_reducible first | exact HB.out | apply below_alloc | apply pw_below_drewN | apply below_drew1 | refine below_set ?_ GE666.out) | exact HB.out))) : w.heap.size ≤ gb675)); have n5_ := Aside0.mk ((by rw [hg]; exact Nat.ne_of_lt (blk_lt (g := gb666) (o := .cells #[.string a0_0, .int .i64 a0_1, .int .i64 a0_2, .int .i64 a0_3] 74 (0, 0)) (by (with_reducible repeat (first | refine blk_drewN ?_ _ | refine blk_drew ?_ | refine blk_alloc ?_ _)); exact BK666.out)) : gb666 ≠ gb675)); have n6_ := Aside0.mk ((by rw [hg]; exact Nat.ne_of_gt (blk_lt (g := gb666) (o := .cells #[.string a0_0, .int .i64 a0_1, .int .i64 a0_2, .int .i64 a0_3] 74 (0, 0)) (by (with_reducible repeat (first | refine blk_drewN ?_ _ | refine blk_drew ?_ | refine blk_alloc ?_ _)); exact BK666.out)) : gb675 ≠ gb666)); clear BK666; clear HB; have BK666 := n0_; have HB := n1_; have BK675 := n2_; have GW675 := n3_; have GE675 := n4_; have NB666_675 := n5_; have NB675_666 := n6_; clear n0_ n1_ n2_ n3_ n4_ n5_ n6_; clear hb hbox hg; have hnb44 := NB675_666.out; have hnc44 := NB666_675.out; have hcz45_0 : w43.cell? ⟨gb675, 0, none⟩ = some (.string (⟨#[]⟩ : ByteArray)) := (blk_cell BK675.out 0).trans rfl; have hcz45_1 : w43.cell? ⟨gb675, 1, none⟩ = some (.int .i64 0) := (blk_cell BK675.out 1).trans rfl; have hcz45_2 : w43.cell? ⟨gb675, 2, none⟩ = some (.int .i64 0) := (blk_cell BK675.out 2).trans rfl; have hcz45_3 : w43.cell? ⟨gb675, 3, none⟩ = some (.int .i64 0) := (blk_cell BK675.out 3).trans rfl; have hfz45_0 := blk_frozen BK675.out 0; have hfz45_1 := blk_frozen BK675.out 1; have hfz45_2 := blk_frozen BK675.out 2; have hfz45_3 := blk_frozen BK675.out 3; have hcz46_0 : w43.cell? ⟨gb666, 0, none⟩ = some (.string a0_0) := (blk_cell BK666.out 0).trans rfl; have hcz46_1 : w43.cell? ⟨gb666, 1, none⟩ = some (.int .i64 a0_1) := (blk_cell BK666.out 1).trans rfl; have hcz46_2 : w43.cell? ⟨gb666, 2, none⟩ = some (.int .i64 a0_2) := (blk_cell BK666.out 2).trans rfl; have hcz46_3 : w43.cell? ⟨gb666, 3, none⟩ = some (.int .i64 a0_3) := (blk_cell BK666.out 3).trans rfl; have hfz46_0 := blk_frozen BK666.out 0; have hfz46_1 := blk_frozen BK666.out 1; have hfz46_2 := blk_frozen BK666.out 2; have hfz46_3 := blk_frozen BK666.out 3) | ((with_reducible refine gate_callee (f := 55) rfl ?_); refine goesL_ (some 52) rfl rfl Tryd.func55 (by kernel_rfl) rfl #[.string a0_0, .int .i64 a1, .int .u8 a2] rfl (by (try simp only [List.map_toArray, List.map_cons, List.map_nil]); first | done | rfl | (simp only [List.length_drop, List.length_take]; rfl)) ?_; (with_reducible refine (riverbankref02_Put.calls kj23 a0_0 a1 a2 t676 _ A38.out).mono ?_); rintro e w47 ⟨rfl, hb⟩; refine ⟨_, rfl, ?_⟩; have n0_ := Aside0.mk (blk_below (g := gb666) (o := .cells #[.string a0_0, .int .i64 a0_1, .int .i64 a0_2, .int .i64 a0_3] 74 (0, 0)) (by (with_reducible repeat (first | refine blk_drewN ?_ _ | refine blk_drew ?_ | refine blk_alloc ?_ _)); refine blk_far ?_ NB666_675.out _; (with_reducible repeat (first | refine blk_drewN ?_ _ | refine blk_drew ?_ | refine blk_alloc ?_ _)); refine blk_far ?_ NB666_675.out _; (with_reducible repeat (first | refine blk_drewN ?_ _ | refine blk_drew ?_ | refine blk_alloc ?_ _)); refine blk_far ?_ NB666_675.out _; (with_reducible repeat (first | refine blk_drewN ?_ _ | refine blk_drew ?_ | refine blk_alloc ?_ _)); refine blk_far ?_ NB666_675.out _; (with_reducible repeat (first | refine blk_drewN ?_ _ | refine blk_drew ?_ | refine blk_alloc ?_ _)); exact BK666.out) hb); have n1_ := Aside0.mk (blk_below (g := gb675) (o := .cells #[.string a0_0, .int .i64 a0_1, .int .i64 a0_2, .int .i64 a0_3] 74 (0, 0)) (by (with_reducible repeat (first | refine blk_drewN ?_ _ | refine blk_drew ?_ | refine blk_alloc ?_ _)); refine blk_put (cs := #[.string a0_0, .int .i64 a0_1, .int .i64 a0_2, .int .i64 0]) ?_ 3 _ rfl; (with_reducible repeat (first | refine blk_drewN ?_ _ | refine blk_drew ?_ | refine blk_alloc ?_ _)); refine blk_put (cs := #[.string a0_0, .int .i64 a0_1, .int .i64 0, .int .i64 0]) ?_ 2 _ rfl; (with_reducible repeat (first | refine blk_drewN ?_ _ | refine blk_drew ?_ | refine blk_alloc ?_ _)); refine blk_put (cs := #[.string a0_0, .int .i64 0, .int .i64 0, .int .i64 0]) ?_ 1 _ rfl; (with_reducible repeat (first | refine blk_drewN ?_ _ | refine blk_drew ?_ | refine blk_alloc ?_ _)); refine blk_put (cs := #[.string (⟨#[]⟩ : ByteArray), .int .i64 0, .int .i64 0, .int .i64 0]) ?_ 0 _ rfl; (with_reducible repeat (first | refine blk_drewN ?_ _ | refine blk_drew ?_ | refine blk_alloc ?_ _)); exact BK675.out) hb); have n2_ := Aside0.mk (below_step (by repeat (first | (with_reducible first | exact HB.out | apply below_alloc | apply pw_below_drewN | apply below_drew1 | refine below_set ?_ GE666.out | refine below_set ?_ GE675.out) | exact HB.out)) hb); clear BK666; clear BK675; clear HB; have BK666 := n0_; have BK675 := n1_; have HB := n2_; clear n0_ n1_ n2_; (try clear hb); (try clear hb2); (try clear hk); (try clear hi); have hcz48_0 : w47.cell? ⟨gb675, 0, none⟩ = some (.string a0_0) := (blk_cell BK675.out 0).trans rfl; have hcz48_1 : w47.cell? ⟨gb675, 1, none⟩ = some (.int .i64 a0_1) := (blk_cell BK675.out 1).trans rfl; have hcz48_2 : w47.cell? ⟨gb675, 2, none⟩ = some (.int .i64 a0_2) := (blk_cell BK675.out 2).trans rfl; have hcz48_3 : w47.cell? ⟨gb675, 3, none⟩ = some (.int .i64 a0_3) := (blk_cell BK675.out 3).trans rfl; have hfz48_0 := blk_frozen BK675.out 0; have hfz48_1 := blk_frozen BK675.out 1; have hfz48_2 := blk_frozen BK675.out 2; have hfz48_3 := blk_frozen BK675.out 3) | ((with_reducible refine gate_callee (f := 82) rfl ?_); refine goesL_ (some 55) rfl rfl Tryd.func82 (by kernel_rfl) rfl #[.agg #[.string t676, .int .i64 a0_1, .int .i64 a0_2, .int .i64 a0_3]] rfl (by (try simp only [List.map_toArray, List.map_cons, List.map_nil]); first | done | rfl | (simp only [List.length_drop, List.length_take]; rfl)) ?_; (with_reducible refine (place_Check.calls kj23 t676 a0_1 a0_2 a0_3 t677 _ A39.out).mono ?_); rintro e w49 ⟨rfl, hb⟩; refine ⟨_, rfl, ?_⟩; have n0_ := Aside0.mk (blk_below (g := gb666) (o := .cells #[.string a0_0, .int .i64 a0_1, .int .i64 a0_2, .int .i64 a0_3] 74 (0, 0)) (by (with_reducible repeat (first | refine blk_drewN ?_ _ | refine blk_drew ?_ | refine blk_alloc ?_ _)); refine blk_far ?_ NB666_675.out _; (with_reducible repeat (first | refine blk_drewN ?_ _ | refine blk_drew ?_ | refine blk_alloc ?_ _)); exact BK666.out) hb); have n1_ := Aside0.mk (blk_below (g := gb675) (o := .cells #[.string t676, .int .i64 a0_1, .int .i64 a0_2, .int .i64 a0_3] 74 (0, 0)) (by (with_reducible repeat (first | refine blk_drewN ?_ _ | refine blk_drew ?_ | refine blk_alloc ?_ _)); refine blk_put (cs := #[.string a0_0, .int .i64 a0_1, .int .i64 a0_2, .int .i64 a0_3]) ?_ 0 _ rfl; (with_reducible repeat (first | refine blk_drewN ?_ _ | refine blk_drew ?_ | refine blk_alloc ?_ _)); exact BK675.out) hb); have n2_ := Aside0.mk (below_step (by repeat (first | (with_reducible first | exact HB.out | apply below_alloc | apply pw_below_drewN | apply below_drew1 | refine below_set ?_ GE666.out | refine below_set ?_ GE675.out) | exact HB.out)) hb); clear BK666; clear BK675; clear HB; have BK666 := n0_; have BK675 := n1_; have HB := n2_; clear n0_ n1_ n2_; (try clear hb); (try clear hb2); (try clear hk); (try clear hi)) | (go_at_call 81; (with_reducible refine (riverbanklaw03_live.calls  t678 _ (tab_of HT.out (by repeat (first | (with_reducible first | exact HB.out | apply below_alloc | apply pw_below_drewN | apply below_drew1 | refine below_set ?_ GE666.out | refine below_set ?_ GE675.out) | exact HB.out))) A41.out).mono ?_); rintro e w50 ⟨rfl, hb⟩; have n0_ := Aside0.mk (blk_below (g := gb666) (o := .cells #[.string a0_0, .int .i64 a0_1, .int .i64 a0_2, .int .i64 a0_3] 74 (0, 0)) (by (with_reducible repeat (first | refine blk_drewN ?_ _ | refine blk_drew ?_ | refine blk_alloc ?_ _)); exact BK666.out) hb); have n1_ := Aside0.mk (blk_below (g := gb675) (o := .cells #[.string t676, .int .i64 a0_1, .int .i64 a0_2, .int .i64 a0_3] 74 (0, 0)) (by (with_reducible repeat (first | refine blk_drewN ?_ _ | refine blk_drew ?_ | refine blk_alloc ?_ _)); exact BK675.out) hb); have n2_ := Aside0.mk (below_step (by repeat (first | (with_reducible first | exact HB.out | apply below_alloc | apply pw_below_drewN | apply below_drew1 | refine below_set ?_ GE666.out | refine below_set ?_ GE675.out) | exact HB.out)) hb); clear BK666; clear BK675; clear HB; have BK666 := n0_; have BK675 := n1_; have HB := n2_; clear n0_ n1_ n2_; (try clear hb); (try clear hb2); (try clear hk); (try clear hi)))
                go_ret
                exact ⟨by first | rfl | (simp [errW_none, errW_some] <;> rfl) | (simp [*, errW_none, errW_some] <;> rfl), by repeat (first | (with_reducible first | exact HB.out | apply below_alloc | apply pw_below_drewN | apply below_drew1 | refine below_set ?_ GE666.out | refine below_set ?_ GE675.out) | exact HB.out)⟩
              · rw [if_neg c40] at H
                have c40b0 : (t677 == 3) = false := beq_eq_false_iff_ne.mpr c40
                have c40b1 : (t677 != 3) = true := bne_iff_ne.mpr c40
                obtain rfl := Option.some.inj H
                have hcz51_0 : wc.cell? ⟨gb666, 0, none⟩ = some (.string a0_0) := (blk_cell BK666.out 0).trans rfl
                have hcz51_1 : wc.cell? ⟨gb666, 1, none⟩ = some (.int .i64 a0_1) := (blk_cell BK666.out 1).trans rfl
                have hcz51_2 : wc.cell? ⟨gb666, 2, none⟩ = some (.int .i64 a0_2) := (blk_cell BK666.out 2).trans rfl
                have hcz51_3 : wc.cell? ⟨gb666, 3, none⟩ = some (.int .i64 a0_3) := (blk_cell BK666.out 3).trans rfl
                have hfz51_0 := blk_frozen BK666.out 0
                have hfz51_1 := blk_frozen BK666.out 1
                have hfz51_2 := blk_frozen BK666.out 2
                have hfz51_3 := blk_frozen BK666.out 3
                go_wp2_with (first | ((with_reducible refine gate_dst (N := 7) rfl ?_); (try (refine gate_guard (by rfl) ?_; dsimp only)); refine box_event ?hg (N := 7) ?hd (cs := #[.string (⟨#[]⟩ : ByteArray), .int .i64 0, .int .i64 0, .int .i64 0]) (t := 74) ?hr ?_; (case hd => rfl); (case hg => rfl); (case hr => first | (go_simp; done) | (go_simp; rfl)); intro gb675 hg w52 hbox hb; have n0_ := Aside0.mk (blk_below (g := gb666) (o := .cells #[.string a0_0, .int .i64 a0_1, .int .i64 a0_2, .int .i64 a0_3] 74 (0, 0)) (by (with_reducible repeat (first | refine blk_drewN ?_ _ | refine blk_drew ?_ | refine blk_alloc ?_ _)); exact BK666.out) hb); have n1_ := Aside0.mk (below_step (by repeat (first | (with_reducible first | exact HB.out | apply below_alloc | apply pw_below_drewN | apply below_drew1 | refine below_set ?_ GE666.out) | exact HB.out)) hb); have n2_ := Aside0.mk (hbox); have n3_ := Aside0.mk ((by rw [hg]; exact (below_size (by repeat (first | (with_reducible first | exact HB.out | apply below_alloc | apply pw_below_drewN | apply below_drew1 | refine below_set ?_ GE666.out) | exact HB.out))) : w.heap.size ≤ gb675)); have n4_ := Aside0.mk ((by rw [hg]; exact (below_size (by repeat (first | (with_reducible first | exact HB.out | apply below_alloc | apply pw_below_drewN | apply below_drew1 | refine below_set ?_ GE666.out) | exact HB.out))) : w.heap.size ≤ gb675)); have n5_ := Aside0.mk ((by rw [hg]; exact Nat.ne_of_lt (blk_lt (g := gb666) (o := .cells #[.string a0_0, .int .i64 a0_1, .int .i64 a0_2, .int .i64 a0_3] 74 (0, 0)) (by (with_reducible repeat (first | refine blk_drewN ?_ _ | refine blk_drew ?_ | refine blk_alloc ?_ _)); exact BK666.out)) : gb666 ≠ gb675)); have n6_ := Aside0.mk ((by rw [hg]; exact Nat.ne_of_gt (blk_lt (g := gb666) (o := .cells #[.string a0_0, .int .i64 a0_1, .int .i64 a0_2, .int .i64 a0_3] 74 (0, 0)) (by (with_reducible repeat (first | refine blk_drewN ?_ _ | refine blk_drew ?_ | refine blk_alloc ?_ _)); exact BK666.out)) : gb675 ≠ gb666)); clear BK666; clear HB; have BK666 := n0_; have HB := n1_; have BK675 := n2_; have GW675 := n3_; have GE675 := n4_; have NB666_675 := n5_; have NB675_666 := n6_; clear n0_ n1_ n2_ n3_ n4_ n5_ n6_; clear hb hbox hg; have hnb53 := NB675_666.out; have hnc53 := NB666_675.out; have hcz54_0 : w52.cell? ⟨gb675, 0, none⟩ = some (.string (⟨#[]⟩ : ByteArray)) := (blk_cell BK675.out 0).trans rfl; have hcz54_1 : w52.cell? ⟨gb675, 1, none⟩ = some (.int .i64 0) := (blk_cell BK675.out 1).trans rfl; have hcz54_2 : w52.cell? ⟨gb675, 2, none⟩ = some (.int .i64 0) := (blk_cell BK675.out 2).trans rfl; have hcz54_3 : w52.cell? ⟨gb675, 3, none⟩ = some (.int .i64 0) := (blk_cell BK675.out 3).trans rfl; have hfz54_0 := blk_frozen BK675.out 0; have hfz54_1 := blk_frozen BK675.out 1; have hfz54_2 := blk_frozen BK675.out 2; have hfz54_3 := blk_frozen BK675.out 3; have hcz55_0 : w52.cell? ⟨gb666, 0, none⟩ = some (.string a0_0) := (blk_cell BK666.out 0).trans rfl; have hcz55_1 : w52.cell? ⟨gb666, 1, none⟩ = some (.int .i64 a0_1) := (blk_cell BK666.out 1).trans rfl; have hcz55_2 : w52.cell? ⟨gb666, 2, none⟩ = some (.int .i64 a0_2) := (blk_cell BK666.out 2).trans rfl; have hcz55_3 : w52.cell? ⟨gb666, 3, none⟩ = some (.int .i64 a0_3) := (blk_cell BK666.out 3).trans rfl; have hfz55_0 := blk_frozen BK666.out 0; have hfz55_1 := blk_frozen BK666.out 1; have hfz55_2 := blk_frozen BK666.out 2; have hfz55_3 := blk_frozen BK666.out 3) | ((with_reducible refine gate_callee (f := 55) rfl ?_); refine goesL_ (some 52) rfl rfl Tryd.func55 (by kernel_rfl) rfl #[.string a0_0, .int .i64 a1, .int .u8 a2] rfl (by (try simp only [List.map_toArray, List.map_cons, List.map_nil]); first | done | rfl | (simp only [List.length_drop, List.length_take]; rfl)) ?_; (with_reducible refine (riverbankref02_Put.calls kj23 a0_0 a1 a2 t676 _ A38.out).mono ?_); rintro e w56 ⟨rfl, hb⟩; refine ⟨_, rfl, ?_⟩; have n0_ := Aside0.mk (blk_below (g := gb666) (o := .cells #[.string a0_0, .int .i64 a0_1, .int .i64 a0_2, .int .i64 a0_3] 74 (0, 0)) (by (with_reducible repeat (first | refine blk_drewN ?_ _ | refine blk_drew ?_ | refine blk_alloc ?_ _)); refine blk_far ?_ NB666_675.out _; (with_reducible repeat (first | refine blk_drewN ?_ _ | refine blk_drew ?_ | refine blk_alloc ?_ _)); refine blk_far ?_ NB666_675.out _; (with_reducible repeat (first | refine blk_drewN ?_ _ | refine blk_drew ?_ | refine blk_alloc ?_ _)); refine blk_far ?_ NB666_675.out _; (with_reducible repeat (first | refine blk_drewN ?_ _ | refine blk_drew ?_ | refine blk_alloc ?_ _)); refine blk_far ?_ NB666_675.out _; (with_reducible repeat (first | refine blk_drewN ?_ _ | refine blk_drew ?_ | refine blk_alloc ?_ _)); exact BK666.out) hb); have n1_ := Aside0.mk (blk_below (g := gb675) (o := .cells #[.string a0_0, .int .i64 a0_1, .int .i64 a0_2, .int .i64 a0_3] 74 (0, 0)) (by (with_reducible repeat (first | refine blk_drewN ?_ _ | refine blk_drew ?_ | refine blk_alloc ?_ _)); refine blk_put (cs := #[.string a0_0, .int .i64 a0_1, .int .i64 a0_2, .int .i64 0]) ?_ 3 _ rfl; (with_reducible repeat (first | refine blk_drewN ?_ _ | refine blk_drew ?_ | refine blk_alloc ?_ _)); refine blk_put (cs := #[.string a0_0, .int .i64 a0_1, .int .i64 0, .int .i64 0]) ?_ 2 _ rfl; (with_reducible repeat (first | refine blk_drewN ?_ _ | refine blk_drew ?_ | refine blk_alloc ?_ _)); refine blk_put (cs := #[.string a0_0, .int .i64 0, .int .i64 0, .int .i64 0]) ?_ 1 _ rfl; (with_reducible repeat (first | refine blk_drewN ?_ _ | refine blk_drew ?_ | refine blk_alloc ?_ _)); refine blk_put (cs := #[.string (⟨#[]⟩ : ByteArray), .int .i64 0, .int .i64 0, .int .i64 0]) ?_ 0 _ rfl; (with_reducible repeat (first | refine blk_drewN ?_ _ | refine blk_drew ?_ | refine blk_alloc ?_ _)); exact BK675.out) hb); have n2_ := Aside0.mk (below_step (by repeat (first | (with_reducible first | exact HB.out | apply below_alloc | apply pw_below_drewN | apply below_drew1 | refine below_set ?_ GE666.out | refine below_set ?_ GE675.out) | exact HB.out)) hb); clear BK666; clear BK675; clear HB; have BK666 := n0_; have BK675 := n1_; have HB := n2_; clear n0_ n1_ n2_; (try clear hb); (try clear hb2); (try clear hk); (try clear hi); have hcz57_0 : w56.cell? ⟨gb675, 0, none⟩ = some (.string a0_0) := (blk_cell BK675.out 0).trans rfl; have hcz57_1 : w56.cell? ⟨gb675, 1, none⟩ = some (.int .i64 a0_1) := (blk_cell BK675.out 1).trans rfl; have hcz57_2 : w56.cell? ⟨gb675, 2, none⟩ = some (.int .i64 a0_2) := (blk_cell BK675.out 2).trans rfl; have hcz57_3 : w56.cell? ⟨gb675, 3, none⟩ = some (.int .i64 a0_3) := (blk_cell BK675.out 3).trans rfl; have hfz57_0 := blk_frozen BK675.out 0; have hfz57_1 := blk_frozen BK675.out 1; have hfz57_2 := blk_frozen BK675.out 2; have hfz57_3 := blk_frozen BK675.out 3) | ((with_reducible refine gate_callee (f := 82) rfl ?_); refine goesL_ (some 55) rfl rfl Tryd.func82 (by kernel_rfl) rfl #[.agg #[.string t676, .int .i64 a0_1, .int .i64 a0_2, .int .i64 a0_3]] rfl (by (try simp only [List.map_toArray, List.map_cons, List.map_nil]); first | done | rfl | (simp only [List.length_drop, List.length_take]; rfl)) ?_; (with_reducible refine (place_Check.calls kj23 t676 a0_1 a0_2 a0_3 t677 _ A39.out).mono ?_); rintro e w58 ⟨rfl, hb⟩; refine ⟨_, rfl, ?_⟩; have n0_ := Aside0.mk (blk_below (g := gb666) (o := .cells #[.string a0_0, .int .i64 a0_1, .int .i64 a0_2, .int .i64 a0_3] 74 (0, 0)) (by (with_reducible repeat (first | refine blk_drewN ?_ _ | refine blk_drew ?_ | refine blk_alloc ?_ _)); refine blk_far ?_ NB666_675.out _; (with_reducible repeat (first | refine blk_drewN ?_ _ | refine blk_drew ?_ | refine blk_alloc ?_ _)); exact BK666.out) hb); have n1_ := Aside0.mk (blk_below (g := gb675) (o := .cells #[.string t676, .int .i64 a0_1, .int .i64 a0_2, .int .i64 a0_3] 74 (0, 0)) (by (with_reducible repeat (first | refine blk_drewN ?_ _ | refine blk_drew ?_ | refine blk_alloc ?_ _)); refine blk_put (cs := #[.string a0_0, .int .i64 a0_1, .int .i64 a0_2, .int .i64 a0_3]) ?_ 0 _ rfl; (with_reducible repeat (first | refine blk_drewN ?_ _ | refine blk_drew ?_ | refine blk_alloc ?_ _)); exact BK675.out) hb); have n2_ := Aside0.mk (below_step (by repeat (first | (with_reducible first | exact HB.out | apply below_alloc | apply pw_below_drewN | apply below_drew1 | refine below_set ?_ GE666.out | refine below_set ?_ GE675.out) | exact HB.out)) hb); clear BK666; clear BK675; clear HB; have BK666 := n0_; have BK675 := n1_; have HB := n2_; clear n0_ n1_ n2_; (try clear hb); (try clear hb2); (try clear hk); (try clear hi)))
                go_ret
                exact ⟨by first | rfl | (simp [errW_none, errW_some] <;> rfl) | (simp [*, errW_none, errW_some] <;> rfl), by repeat (first | (with_reducible first | exact HB.out | apply below_alloc | apply pw_below_drewN | apply below_drew1 | refine below_set ?_ GE666.out | refine below_set ?_ GE675.out) | exact HB.out)⟩

end Go.Proofs.YtkbimiimgcklaaaDoor.Print
