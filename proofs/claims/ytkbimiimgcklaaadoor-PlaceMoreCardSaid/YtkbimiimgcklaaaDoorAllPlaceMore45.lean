/- Merged by a program of this session (wip/gprint/merge.py): what this claim needs of this session's texts, each part as it was. -/
import Derived.Test.YtkbimiimgcklaaaDoorAllPlaceMore7
import Derived.Test.YtkbimiimgcklaaaDoorAllPlaceMore14
import Derived.Test.YtkbimiimgcklaaaDoorAllPlaceMore8
import Derived.Test.YtkbimiimgcklaaaDoorAllPlaceMore13
import Derived.Test.YtkbimiimgcklaaaDoorAllPlaceMore9
import Derived.Test.YtkbimiimgcklaaaDoorAllPlaceMore38
import Derived.Test.YtkbimiimgcklaaaDoorAllPlaceMore41
import Derived.Test.YtkbimiimgcklaaaDoorAllPlaceMore42
import Derived.Test.YtkbimiimgcklaaaDoorAllPlaceMore43
namespace Go.Proofs.YtkbimiimgcklaaaDoor.Print
end Go.Proofs.YtkbimiimgcklaaaDoor.Print

-- of YtkbimiimgcklaaaDoorPrint51
-- Written by a program of this session (wip/gprint/gprint.py) over the kit's print; the parts marked GIVEN by hand.
namespace Go.Proofs.YtkbimiimgcklaaaDoor.Print
open Go.RowKit Go.Proofs.YtkbimiimgcklaaaDoorW.PrintWords Go.Proofs.YtkbimiimgcklaaaDoorW.PrintLast Go.Proofs.YtkbimiimgcklaaaDoorW.PrintMore
attribute [local go_sem] max2_int min2_int max_two min_two max_three min_three max_four min_four   -- for this text's walks alone
set_option linter.unusedVariables false
set_option linter.unusedSimpArgs false

/-! ### riverbanklaw03_PlaceFewer: function 20 -/
def riverbanklaw03_PlaceFewer.j0 : Nat → Int → Bool → ByteArray → Int → Int → Int → Option (Bool)
  | 0, _, _, _, _, _, _ => none
  | k + 1, x1, x22, x657000, x657001, x657002, x657003 => if x22 = true then ((riverbanklaw03_live.f).bind fun t658 => (some t658)) else ((riverbankref02_Put.f k x657000 x1 46).bind fun t660 => (if 0 ≤ x1 then (if x1 < (x657000.size : Int) then ((riverbankref02_Kind.f k (bt x657000 x1)).bind fun t661 => (if t661 = 75 then ((place_Check.f k t660 x657001 x657002 x657003).bind fun t662 => (if t662 = 3 then ((riverbanklaw03_live.f).bind fun t663 => (some t663)) else (some false))) else ((place_Check.f k t660 x657001 x657002 x657003).bind fun t664 => (if t664 = 0 then ((riverbanklaw03_live.f).bind fun t665 => (some t665)) else (some false))))) else (none)) else (none)))
def riverbanklaw03_PlaceFewer.f (k : Nat) (a0_0 : ByteArray) (a0_1 : Int) (a0_2 : Int) (a0_3 : Int) (a1 : Int) : Option (Bool) := if (a0_0.size : Int) > 200 then (riverbanklaw03_PlaceFewer.j0 k a1 true a0_0 a0_1 a0_2 a0_3) else ((place_Check.f k a0_0 a0_1 a0_2 a0_3).bind fun t657 => (if t657 = 0 then (if a1 < 0 then (riverbanklaw03_PlaceFewer.j0 k a1 true a0_0 a0_1 a0_2 a0_3) else (riverbanklaw03_PlaceFewer.j0 k a1 (decide (a1 > 89)) a0_0 a0_1 a0_2 a0_3)) else (riverbanklaw03_PlaceFewer.j0 k a1 true a0_0 a0_1 a0_2 a0_3)))
theorem riverbanklaw03_PlaceFewer.mono_l : ∀ k, (∀ y0 y1 y2 y3 y4 y5, LeO (riverbanklaw03_PlaceFewer.j0 k y0 y1 y2 y3 y4 y5) (riverbanklaw03_PlaceFewer.j0 (k + 1) y0 y1 y2 y3 y4 y5))
  | 0 => fun _ _ _ _ _ _ r h => by simp [riverbanklaw03_PlaceFewer.j0] at h
  | k + 1 => by
    have ih0 := riverbanklaw03_PlaceFewer.mono_l k
    · intro y0 y1 y2 y3 y4 y5
      unfold riverbanklaw03_PlaceFewer.j0
      repeat' first
      | (with_reducible exact ih0 _ _ _ _ _ _)
      | (with_reducible exact place_Check.mono _ _ _ _ _)
      | (with_reducible exact riverbankref02_Kind.mono _ _)
      | (with_reducible exact riverbankref02_Put.mono _ _ _ _)
      | (with_reducible exact LeO.refl _)
      | (with_reducible exact LeO.none _)
      | (with_reducible refine LeO.ite ?_ ?_)
      | (with_reducible refine LeO.bind ?_ (fun _ => ?_))
      | exact ih0 _ _ _ _ _ _
      | exact place_Check.mono _ _ _ _ _
      | exact riverbankref02_Kind.mono _ _
      | exact riverbankref02_Put.mono _ _ _ _
      | exact LeO.none _
      | refine LeO.ite ?_ ?_
      | refine LeO.bind ?_ (fun _ => ?_)
theorem riverbanklaw03_PlaceFewer.mono : ∀ a0 a1 a2 a3 a4 k, LeO (riverbanklaw03_PlaceFewer.f k a0 a1 a2 a3 a4) (riverbanklaw03_PlaceFewer.f (k + 1) a0 a1 a2 a3 a4) := by
  intro a0 a1 a2 a3 a4 k
  have ih0 := riverbanklaw03_PlaceFewer.mono_l k
  unfold riverbanklaw03_PlaceFewer.f
  repeat' first
      | (with_reducible exact ih0 _ _ _ _ _ _)
      | (with_reducible exact place_Check.mono _ _ _ _ _)
      | (with_reducible exact riverbankref02_Kind.mono _ _)
      | (with_reducible exact riverbankref02_Put.mono _ _ _ _)
      | (with_reducible exact LeO.refl _)
      | (with_reducible exact LeO.none _)
      | (with_reducible refine LeO.ite ?_ ?_)
      | (with_reducible refine LeO.bind ?_ (fun _ => ?_))
      | exact ih0 _ _ _ _ _ _
      | exact place_Check.mono _ _ _ _ _
      | exact riverbankref02_Kind.mono _ _
      | exact riverbankref02_Put.mono _ _ _ _
      | exact LeO.none _
      | refine LeO.ite ?_ ?_
      | refine LeO.bind ?_ (fun _ => ?_)
set_option maxHeartbeats 8000000 in
set_option maxRecDepth 100000 in
theorem riverbanklaw03_PlaceFewer.calls (k : Nat) (a0_0 : ByteArray) (a0_1 : Int) (a0_2 : Int) (a0_3 : Int) (a1 : Int) (r : Bool) (w : World) (hT : TabHere w) (h : riverbanklaw03_PlaceFewer.f k a0_0 a0_1 a0_2 a0_3 a1 = some r) :
    Calls Tryd.prog 20 #[.agg #[.string a0_0, .int .i64 a0_1, .int .i64 a0_2, .int .i64 a0_3], .int .i64 a1] w fun e w' => e = .returned (.bool r) ∧ Below w.heap.size w w' := by
  have HT := Aside0.mk hT
  clear hT
  have hu74 := Tryd.underlying74
  have HB := Aside0.mk (Below.refl w.heap.size w)
  have H : (if (a0_0.size : Int) > 200 then (riverbanklaw03_PlaceFewer.j0 k a1 true a0_0 a0_1 a0_2 a0_3) else ((place_Check.f k a0_0 a0_1 a0_2 a0_3).bind fun t657 => (if t657 = 0 then (if a1 < 0 then (riverbanklaw03_PlaceFewer.j0 k a1 true a0_0 a0_1 a0_2 a0_3) else (riverbanklaw03_PlaceFewer.j0 k a1 (decide (a1 > 89)) a0_0 a0_1 a0_2 a0_3)) else (riverbanklaw03_PlaceFewer.j0 k a1 true a0_0 a0_1 a0_2 a0_3)))) = some r := h
  clear h
  have HC3 := Aside0.mk H
  clear H
  go_enter Tryd.func20, Tryd.ntmps20
  go_upto_region 1 with (first | ((with_reducible refine gate_dst (N := 2) rfl ?_); refine box_event ?hg (N := 2) ?hd (cs := #[.string a0_0, .int .i64 a0_1, .int .i64 a0_2, .int .i64 a0_3]) (t := 74) ?hr ?_; (case hd => rfl); (case hg => rfl); (case hr => first | (go_simp; done) | (go_simp; rfl)); intro gb656 hg w4 hbox hb; have n0_ := Aside0.mk (below_step (by repeat (first | (with_reducible first | exact HB.out | apply below_alloc | apply pw_below_drewN | apply below_drew1) | exact HB.out)) hb); have n1_ := Aside0.mk (hbox); have n2_ := Aside0.mk ((by rw [hg]; exact (below_size (by repeat (first | (with_reducible first | exact HB.out | apply below_alloc | apply pw_below_drewN | apply below_drew1) | exact HB.out))) : w.heap.size ≤ gb656)); have n3_ := Aside0.mk ((by rw [hg]; exact (below_size (by repeat (first | (with_reducible first | exact HB.out | apply below_alloc | apply pw_below_drewN | apply below_drew1) | exact HB.out))) : w.heap.size ≤ gb656)); clear HB; have HB := n0_; have BK656 := n1_; have GW656 := n2_; have GE656 := n3_; clear n0_ n1_ n2_ n3_; clear hb hbox hg))
  (try simp only [Act.put, List.setIfInBounds_toArray, List.set_cons_zero, List.set_cons_succ])
  go_cut [22] (fun v22 wc => ∃ (kq : Nat) (x22_2 : Bool), v22 = .bool x22_2 ∧ Aside0 (riverbanklaw03_PlaceFewer.j0 kq a1 x22_2 a0_0 a0_1 a0_2 a0_3 = some r) ∧ Aside0 (kq ≤ k) ∧ Aside0 (wc.heap[gb656]? = some (.cells #[.string a0_0, .int .i64 a0_1, .int .i64 a0_2, .int .i64 a0_3] 74 (0, 0))) ∧ Aside0 (Below w.heap.size w wc))
  case first =>
    have H := HC3.out
    clear HC3
    by_cases c5 : (a0_0.size : Int) > 200
    · rw [if_pos c5] at H
      have c5b0 : decide (200 < (a0_0.size : Int)) = true := decide_eq_true c5
      have c5b1 : decide (200 < a0_0.size) = true := decide_eq_true (by omega)
      clear c5
      (first | rw [c5b0] | (simp only [i64_w, i32_w]; rw [c5b0]) | skip)
      have H' := Aside0.mk H
      clear H
      have hcz6_0 : w4.cell? ⟨gb656, 0, none⟩ = some (.string a0_0) := (blk_cell BK656.out 0).trans rfl
      have hcz6_1 : w4.cell? ⟨gb656, 1, none⟩ = some (.int .i64 a0_1) := (blk_cell BK656.out 1).trans rfl
      have hcz6_2 : w4.cell? ⟨gb656, 2, none⟩ = some (.int .i64 a0_2) := (blk_cell BK656.out 2).trans rfl
      have hcz6_3 : w4.cell? ⟨gb656, 3, none⟩ = some (.int .i64 a0_3) := (blk_cell BK656.out 3).trans rfl
      have hfz6_0 := blk_frozen BK656.out 0
      have hfz6_1 := blk_frozen BK656.out 1
      have hfz6_2 := blk_frozen BK656.out 2
      have hfz6_3 := blk_frozen BK656.out 3
      go_wp2
      go_meet
      case rel => exact ⟨_, (true), (by first | rfl | (simp; done) | (simp [*]; done)), H', ⟨by first | omega | exact Nat.le_refl _⟩, ⟨by (with_reducible repeat (first | refine blk_drewN ?_ _ | refine blk_drew ?_ | refine blk_alloc ?_ _)); exact BK656.out⟩, ⟨by repeat (first | (with_reducible first | exact HB.out | apply below_alloc | apply pw_below_drewN | apply below_drew1 | refine below_set ?_ GE656.out) | exact HB.out)⟩⟩
    · rw [if_neg c5] at H
      have c5b0 : decide (200 < (a0_0.size : Int)) = false := decide_eq_false c5
      have c5b1 : decide (200 < a0_0.size) = false := decide_eq_false (by omega)
      clear c5
      (first | rw [c5b0] | (simp only [i64_w, i32_w]; rw [c5b0]) | skip)
      replace H := Option.bind_eq_some_iff.mp H
      obtain ⟨t657, A70, H⟩ := H
      replace H : (if t657 = 0 then (if a1 < 0 then (riverbanklaw03_PlaceFewer.j0 k a1 true a0_0 a0_1 a0_2 a0_3) else (riverbanklaw03_PlaceFewer.j0 k a1 (decide (a1 > 89)) a0_0 a0_1 a0_2 a0_3)) else (riverbanklaw03_PlaceFewer.j0 k a1 true a0_0 a0_1 a0_2 a0_3)) = some r := H
      have A7 := Aside0.mk A70
      clear A70
      by_cases c8 : t657 = 0
      · rw [if_pos c8] at H
        have c8b0 : (t657 == 0) = true := beq_iff_eq.mpr c8
        have c8b1 : (t657 != 0) = false := bne_eq_false_iff_eq.mpr c8
        clear c8
        by_cases c9 : a1 < 0
        · rw [if_pos c9] at H
          have c9b0 : decide (a1 < 0) = true := decide_eq_true c9
          clear c9
          have H' := Aside0.mk H
          clear H
          have hcz10_0 : w4.cell? ⟨gb656, 0, none⟩ = some (.string a0_0) := (blk_cell BK656.out 0).trans rfl
          have hcz10_1 : w4.cell? ⟨gb656, 1, none⟩ = some (.int .i64 a0_1) := (blk_cell BK656.out 1).trans rfl
          have hcz10_2 : w4.cell? ⟨gb656, 2, none⟩ = some (.int .i64 a0_2) := (blk_cell BK656.out 2).trans rfl
          have hcz10_3 : w4.cell? ⟨gb656, 3, none⟩ = some (.int .i64 a0_3) := (blk_cell BK656.out 3).trans rfl
          have hfz10_0 := blk_frozen BK656.out 0
          have hfz10_1 := blk_frozen BK656.out 1
          have hfz10_2 := blk_frozen BK656.out 2
          have hfz10_3 := blk_frozen BK656.out 3
          go_wp2_with (first | (go_at_call 82; (with_reducible refine (place_Check.calls k a0_0 a0_1 a0_2 a0_3 t657 _ A7.out).mono ?_); rintro e w11 ⟨rfl, hb⟩; have n0_ := Aside0.mk (blk_below (g := gb656) (o := .cells #[.string a0_0, .int .i64 a0_1, .int .i64 a0_2, .int .i64 a0_3] 74 (0, 0)) (by (with_reducible repeat (first | refine blk_drewN ?_ _ | refine blk_drew ?_ | refine blk_alloc ?_ _)); exact BK656.out) hb); have n1_ := Aside0.mk (below_step (by repeat (first | (with_reducible first | exact HB.out | apply below_alloc | apply pw_below_drewN | apply below_drew1 | refine below_set ?_ GE656.out) | exact HB.out)) hb); clear BK656; clear HB; have BK656 := n0_; have HB := n1_; clear n0_ n1_; (try clear hb); (try clear hb2); (try clear hk); (try clear hi)))
          go_meet
          case rel => exact ⟨_, (true), (by first | rfl | (simp; done) | (simp [*]; done)), H', ⟨by first | omega | exact Nat.le_refl _⟩, ⟨by (with_reducible repeat (first | refine blk_drewN ?_ _ | refine blk_drew ?_ | refine blk_alloc ?_ _)); exact BK656.out⟩, ⟨by repeat (first | (with_reducible first | exact HB.out | apply below_alloc | apply pw_below_drewN | apply below_drew1 | refine below_set ?_ GE656.out) | exact HB.out)⟩⟩
        · rw [if_neg c9] at H
          have c9b0 : decide (a1 < 0) = false := decide_eq_false c9
          clear c9
          have H' := Aside0.mk H
          clear H
          have hcz12_0 : w4.cell? ⟨gb656, 0, none⟩ = some (.string a0_0) := (blk_cell BK656.out 0).trans rfl
          have hcz12_1 : w4.cell? ⟨gb656, 1, none⟩ = some (.int .i64 a0_1) := (blk_cell BK656.out 1).trans rfl
          have hcz12_2 : w4.cell? ⟨gb656, 2, none⟩ = some (.int .i64 a0_2) := (blk_cell BK656.out 2).trans rfl
          have hcz12_3 : w4.cell? ⟨gb656, 3, none⟩ = some (.int .i64 a0_3) := (blk_cell BK656.out 3).trans rfl
          have hfz12_0 := blk_frozen BK656.out 0
          have hfz12_1 := blk_frozen BK656.out 1
          have hfz12_2 := blk_frozen BK656.out 2
          have hfz12_3 := blk_frozen BK656.out 3
          go_wp2_with (first | (go_at_call 82; (with_reducible refine (place_Check.calls k a0_0 a0_1 a0_2 a0_3 t657 _ A7.out).mono ?_); rintro e w13 ⟨rfl, hb⟩; have n0_ := Aside0.mk (blk_below (g := gb656) (o := .cells #[.string a0_0, .int .i64 a0_1, .int .i64 a0_2, .int .i64 a0_3] 74 (0, 0)) (by (with_reducible repeat (first | refine blk_drewN ?_ _ | refine blk_drew ?_ | refine blk_alloc ?_ _)); exact BK656.out) hb); have n1_ := Aside0.mk (below_step (by repeat (first | (with_reducible first | exact HB.out | apply below_alloc | apply pw_below_drewN | apply below_drew1 | refine below_set ?_ GE656.out) | exact HB.out)) hb); clear BK656; clear HB; have BK656 := n0_; have HB := n1_; clear n0_ n1_; (try clear hb); (try clear hb2); (try clear hk); (try clear hi)))
          go_meet
          case rel => exact ⟨_, (decide (a1 > 89)), (by first | rfl | (simp; done) | (simp [*]; done)), H', ⟨by first | omega | exact Nat.le_refl _⟩, ⟨by (with_reducible repeat (first | refine blk_drewN ?_ _ | refine blk_drew ?_ | refine blk_alloc ?_ _)); exact BK656.out⟩, ⟨by repeat (first | (with_reducible first | exact HB.out | apply below_alloc | apply pw_below_drewN | apply below_drew1 | refine below_set ?_ GE656.out) | exact HB.out)⟩⟩
      · rw [if_neg c8] at H
        have c8b0 : (t657 == 0) = false := beq_eq_false_iff_ne.mpr c8
        have c8b1 : (t657 != 0) = true := bne_iff_ne.mpr c8
        have H' := Aside0.mk H
        clear H
        have hcz14_0 : w4.cell? ⟨gb656, 0, none⟩ = some (.string a0_0) := (blk_cell BK656.out 0).trans rfl
        have hcz14_1 : w4.cell? ⟨gb656, 1, none⟩ = some (.int .i64 a0_1) := (blk_cell BK656.out 1).trans rfl
        have hcz14_2 : w4.cell? ⟨gb656, 2, none⟩ = some (.int .i64 a0_2) := (blk_cell BK656.out 2).trans rfl
        have hcz14_3 : w4.cell? ⟨gb656, 3, none⟩ = some (.int .i64 a0_3) := (blk_cell BK656.out 3).trans rfl
        have hfz14_0 := blk_frozen BK656.out 0
        have hfz14_1 := blk_frozen BK656.out 1
        have hfz14_2 := blk_frozen BK656.out 2
        have hfz14_3 := blk_frozen BK656.out 3
        go_wp2_with (first | (go_at_call 82; (with_reducible refine (place_Check.calls k a0_0 a0_1 a0_2 a0_3 t657 _ A7.out).mono ?_); rintro e w15 ⟨rfl, hb⟩; have n0_ := Aside0.mk (blk_below (g := gb656) (o := .cells #[.string a0_0, .int .i64 a0_1, .int .i64 a0_2, .int .i64 a0_3] 74 (0, 0)) (by (with_reducible repeat (first | refine blk_drewN ?_ _ | refine blk_drew ?_ | refine blk_alloc ?_ _)); exact BK656.out) hb); have n1_ := Aside0.mk (below_step (by repeat (first | (with_reducible first | exact HB.out | apply below_alloc | apply pw_below_drewN | apply below_drew1 | refine below_set ?_ GE656.out) | exact HB.out)) hb); clear BK656; clear HB; have BK656 := n0_; have HB := n1_; clear n0_ n1_; (try clear hb); (try clear hb2); (try clear hk); (try clear hi)))
        go_meet
        case rel => exact ⟨_, (true), (by first | rfl | (simp; done) | (simp [*]; done)), H', ⟨by first | omega | exact Nat.le_refl _⟩, ⟨by (with_reducible repeat (first | refine blk_drewN ?_ _ | refine blk_drew ?_ | refine blk_alloc ?_ _)); exact BK656.out⟩, ⟨by repeat (first | (with_reducible first | exact HB.out | apply below_alloc | apply pw_below_drewN | apply below_drew1 | refine below_set ?_ GE656.out) | exact HB.out)⟩⟩
  case rest =>
    clear HC3
    try clear c2
    try clear p2
    try clear c5
    try clear c5b0
    try clear c5b1
    try clear c8
    try clear c8b0
    try clear c8b1
    try clear c9
    try clear c9b0
    try clear hcz10_0
    try clear hcz10_1
    try clear hcz10_2
    try clear hcz10_3
    try clear hcz12_0
    try clear hcz12_1
    try clear hcz12_2
    try clear hcz12_3
    try clear hcz14_0
    try clear hcz14_1
    try clear hcz14_2
    try clear hcz14_3
    try clear hcz6_0
    try clear hcz6_1
    try clear hcz6_2
    try clear hcz6_3
    try clear hfz10_0
    try clear hfz10_1
    try clear hfz10_2
    try clear hfz10_3
    try clear hfz12_0
    try clear hfz12_1
    try clear hfz12_2
    try clear hfz12_3
    try clear hfz14_0
    try clear hfz14_1
    try clear hfz14_2
    try clear hfz14_3
    try clear hfz6_0
    try clear hfz6_1
    try clear hfz6_2
    try clear hfz6_3
    obtain ⟨kq, x22_2, rfl, HA, HJ2, BK656, HB⟩ := hcut
    cases kq with
    | zero => exact absurd HA.out (by simp [riverbanklaw03_PlaceFewer.j0])
    | succ kj2 =>
      have H := HA.out
      clear HA
      simp only [riverbanklaw03_PlaceFewer.j0] at H
      by_cases c16 : x22_2 = true
      · subst c16
        have H1 : ((riverbanklaw03_live.f).bind fun t658 => (some t658)) = some r := by rw [if_pos rfl] at H; exact H
        clear H
        have H := H1
        clear H1
        replace H := Option.bind_eq_some_iff.mp H
        obtain ⟨t658, A170, H⟩ := H
        replace H : (some t658) = some r := H
        have A17 := Aside0.mk A170
        clear A170
        obtain rfl := Option.some.inj H
        go_wp2_with (first | ((with_reducible refine gate_callee (f := 81) rfl ?_); refine goesL_ (some 23) rfl rfl Tryd.func81 (by kernel_rfl) rfl #[] rfl (by (try simp only [List.map_toArray, List.map_cons, List.map_nil]); first | done | rfl | (simp only [List.length_drop, List.length_take]; rfl)) ?_; (with_reducible refine (riverbanklaw03_live.calls  t658 _ (tab_of HT.out (by repeat (first | (with_reducible first | exact HB.out | apply below_alloc | apply pw_below_drewN | apply below_drew1 | refine below_set ?_ GE656.out) | exact HB.out))) A17.out).mono ?_); rintro e w18 ⟨rfl, hb⟩; refine ⟨_, rfl, ?_⟩; have n0_ := Aside0.mk (blk_below (g := gb656) (o := .cells #[.string a0_0, .int .i64 a0_1, .int .i64 a0_2, .int .i64 a0_3] 74 (0, 0)) (by (with_reducible repeat (first | refine blk_drewN ?_ _ | refine blk_drew ?_ | refine blk_alloc ?_ _)); exact BK656.out) hb); have n1_ := Aside0.mk (below_step (by repeat (first | (with_reducible first | exact HB.out | apply below_alloc | apply pw_below_drewN | apply below_drew1 | refine below_set ?_ GE656.out) | exact HB.out)) hb); clear BK656; clear HB; have BK656 := n0_; have HB := n1_; clear n0_ n1_; (try clear hb); (try clear hb2); (try clear hk); (try clear hi)))
        go_ret
        exact ⟨by first | rfl | (simp [errW_none, errW_some] <;> rfl) | (simp [*, errW_none, errW_some] <;> rfl), by repeat (first | (with_reducible first | exact HB.out | apply below_alloc | apply pw_below_drewN | apply below_drew1 | refine below_set ?_ GE656.out) | exact HB.out)⟩
      · replace c16 := Bool.eq_false_iff.mpr c16
        subst c16
        have H1 : ((riverbankref02_Put.f kj2 a0_0 a1 46).bind fun t660 => (if 0 ≤ a1 then (if a1 < (a0_0.size : Int) then ((riverbankref02_Kind.f kj2 (bt a0_0 a1)).bind fun t661 => (if t661 = 75 then ((place_Check.f kj2 t660 a0_1 a0_2 a0_3).bind fun t662 => (if t662 = 3 then ((riverbanklaw03_live.f).bind fun t663 => (some t663)) else (some false))) else ((place_Check.f kj2 t660 a0_1 a0_2 a0_3).bind fun t664 => (if t664 = 0 then ((riverbanklaw03_live.f).bind fun t665 => (some t665)) else (some false))))) else (none)) else (none))) = some r := by rw [if_neg (show ¬ (false = true) by decide)] at H; exact H
        clear H
        have H := H1
        clear H1
        replace H := Option.bind_eq_some_iff.mp H
        obtain ⟨t660, A190, H⟩ := H
        replace H : (if 0 ≤ a1 then (if a1 < (a0_0.size : Int) then ((riverbankref02_Kind.f kj2 (bt a0_0 a1)).bind fun t661 => (if t661 = 75 then ((place_Check.f kj2 t660 a0_1 a0_2 a0_3).bind fun t662 => (if t662 = 3 then ((riverbanklaw03_live.f).bind fun t663 => (some t663)) else (some false))) else ((place_Check.f kj2 t660 a0_1 a0_2 a0_3).bind fun t664 => (if t664 = 0 then ((riverbanklaw03_live.f).bind fun t665 => (some t665)) else (some false))))) else (none)) else (none)) = some r := H
        have A19 := Aside0.mk A190
        clear A190
        by_cases c20 : 0 ≤ a1
        · rw [if_pos c20] at H
          have c20b0 : decide (0 ≤ a1) = true := decide_eq_true c20
          clear c20
          by_cases c21 : a1 < (a0_0.size : Int)
          · rw [if_pos c21] at H
            have c21b0 : decide (a1 < (a0_0.size : Int)) = true := decide_eq_true c21
            clear c21
            replace H := Option.bind_eq_some_iff.mp H
            obtain ⟨t661, A230, H⟩ := H
            replace H : (if t661 = 75 then ((place_Check.f kj2 t660 a0_1 a0_2 a0_3).bind fun t662 => (if t662 = 3 then ((riverbanklaw03_live.f).bind fun t663 => (some t663)) else (some false))) else ((place_Check.f kj2 t660 a0_1 a0_2 a0_3).bind fun t664 => (if t664 = 0 then ((riverbanklaw03_live.f).bind fun t665 => (some t665)) else (some false)))) = some r := H
            have A23 := Aside0.mk A230
            clear A230
            by_cases c24 : t661 = 75
            · rw [if_pos c24] at H
              have c24b0 : (t661 == 75) = true := beq_iff_eq.mpr c24
              have c24b1 : (t661 != 75) = false := bne_eq_false_iff_eq.mpr c24
              clear c24
              replace H := Option.bind_eq_some_iff.mp H
              obtain ⟨t662, A250, H⟩ := H
              replace H : (if t662 = 3 then ((riverbanklaw03_live.f).bind fun t663 => (some t663)) else (some false)) = some r := H
              have A25 := Aside0.mk A250
              clear A250
              by_cases c26 : t662 = 3
              · rw [if_pos c26] at H
                have c26b0 : (t662 == 3) = true := beq_iff_eq.mpr c26
                have c26b1 : (t662 != 3) = false := bne_eq_false_iff_eq.mpr c26
                clear c26
                replace H := Option.bind_eq_some_iff.mp H
                obtain ⟨t663, A270, H⟩ := H
                replace H : (some t663) = some r := H
                have A27 := Aside0.mk A270
                clear A270
                obtain rfl := Option.some.inj H
                have hcz28_0 : wc.cell? ⟨gb656, 0, none⟩ = some (.string a0_0) := (blk_cell BK656.out 0).trans rfl
                have hcz28_1 : wc.cell? ⟨gb656, 1, none⟩ = some (.int .i64 a0_1) := (blk_cell BK656.out 1).trans rfl
                have hcz28_2 : wc.cell? ⟨gb656, 2, none⟩ = some (.int .i64 a0_2) := (blk_cell BK656.out 2).trans rfl
                have hcz28_3 : wc.cell? ⟨gb656, 3, none⟩ = some (.int .i64 a0_3) := (blk_cell BK656.out 3).trans rfl
                have hfz28_0 := blk_frozen BK656.out 0
                have hfz28_1 := blk_frozen BK656.out 1
                have hfz28_2 := blk_frozen BK656.out 2
                have hfz28_3 := blk_frozen BK656.out 3
                go_wp2_with (first | ((with_reducible refine gate_dst (N := 5) rfl ?_); refine box_event ?hg (N := 5) ?hd (cs := #[.string (⟨#[]⟩ : ByteArray), .int .i64 0, .int .i64 0, .int .i64 0]) (t := 74) ?hr ?_; (case hd => rfl); (case hg => rfl); (case hr => first | (go_simp; done) | (go_simp; rfl)); intro gb659 hg w29 hbox hb; have n0_ := Aside0.mk (blk_below (g := gb656) (o := .cells #[.string a0_0, .int .i64 a0_1, .int .i64 a0_2, .int .i64 a0_3] 74 (0, 0)) (by (with_reducible repeat (first | refine blk_drewN ?_ _ | refine blk_drew ?_ | refine blk_alloc ?_ _)); exact BK656.out) hb); have n1_ := Aside0.mk (below_step (by repeat (first | (with_reducible first | exact HB.out | apply below_alloc | apply pw_below_drewN | apply below_drew1 | refine below_set ?_ GE656.out) | exact HB.out)) hb); have n2_ := Aside0.mk (hbox); have n3_ := Aside0.mk ((by rw [hg]; exact (below_size (by repeat (first | (with_reducible first | exact HB.out | apply below_alloc | apply pw_below_drewN | apply below_drew1 | refine below_set ?_ GE656.out) | exact HB.out))) : w.heap.size ≤ gb659)); have n4_ := Aside0.mk ((by rw [hg]; exact (below_size (by repeat (first | (with_reducible first | exact HB.out | apply below_alloc | apply pw_below_drewN | apply below_drew1 | refine below_set ?_ GE656.out) | exact HB.out))) : w.heap.size ≤ gb659)); have n5_ := Aside0.mk ((by rw [hg]; exact Nat.ne_of_lt (blk_lt (g := gb656) (o := .cells #[.string a0_0, .int .i64 a0_1, .int .i64 a0_2, .int .i64 a0_3] 74 (0, 0)) (by (with_reducible repeat (first | refine blk_drewN ?_ _ | refine blk_drew ?_ | refine blk_alloc ?_ _)); exact BK656.out)) : gb656 ≠ gb659)); have n6_ := Aside0.mk ((by rw [hg]; exact Nat.ne_of_gt (blk_lt (g := gb656) (o := .cells #[.string a0_0, .int .i64 a0_1, .int .i64 a0_2, .int .i64 a0_3] 74 (0, 0)) (by (with_reducible repeat (first | refine blk_drewN ?_ _ | refine blk_drew ?_ | refine blk_alloc ?_ _)); exact BK656.out)) : gb659 ≠ gb656)); clear BK656; clear HB; have BK656 := n0_; have HB := n1_; have BK659 := n2_; have GW659 := n3_; have GE659 := n4_; have NB656_659 := n5_; have NB659_656 := n6_; clear n0_ n1_ n2_ n3_ n4_ n5_ n6_; clear hb hbox hg; have hnb30 := NB659_656.out; have hnc30 := NB656_659.out; have hcz31_0 : w29.cell? ⟨gb659, 0, none⟩ = some (.string (⟨#[]⟩ : ByteArray)) := (blk_cell BK659.out 0).trans rfl; have hcz31_1 : w29.cell? ⟨gb659, 1, none⟩ = some (.int .i64 0) := (blk_cell BK659.out 1).trans rfl; have hcz31_2 : w29.cell? ⟨gb659, 2, none⟩ = some (.int .i64 0) := (blk_cell BK659.out 2).trans rfl; have hcz31_3 : w29.cell? ⟨gb659, 3, none⟩ = some (.int .i64 0) := (blk_cell BK659.out 3).trans rfl; have hfz31_0 := blk_frozen BK659.out 0; have hfz31_1 := blk_frozen BK659.out 1; have hfz31_2 := blk_frozen BK659.out 2; have hfz31_3 := blk_frozen BK659.out 3; have hcz32_0 : w29.cell? ⟨gb656, 0, none⟩ = some (.string a0_0) := (blk_cell BK656.out 0).trans rfl; have hcz32_1 : w29.cell? ⟨gb656, 1, none⟩ = some (.int .i64 a0_1) := (blk_cell BK656.out 1).trans rfl; have hcz32_2 : w29.cell? ⟨gb656, 2, none⟩ = some (.int .i64 a0_2) := (blk_cell BK656.out 2).trans rfl; have hcz32_3 : w29.cell? ⟨gb656, 3, none⟩ = some (.int .i64 a0_3) := (blk_cell BK656.out 3).trans rfl; have hfz32_0 := blk_frozen BK656.out 0; have hfz32_1 := blk_frozen BK656.out 1; have hfz32_2 := blk_frozen BK656.out 2; have hfz32_3 := blk_frozen BK656.out 3) | ((with_reducible refine gate_callee (f := 55) rfl ?_); refine goesL_ (some 28) rfl rfl Tryd.func55 (by kernel_rfl) rfl #[.string a0_0, .int .i64 a1, .int .u8 46] rfl (by (try simp only [List.map_toArray, List.map_cons, List.map_nil]); first | done | rfl | (simp only [List.length_drop, List.length_take]; rfl)) ?_; (with_reducible refine (riverbankref02_Put.calls kj2 a0_0 a1 46 t660 _ A19.out).mono ?_); rintro e w33 ⟨rfl, hb⟩; refine ⟨_, rfl, ?_⟩; have n0_ := Aside0.mk (blk_below (g := gb656) (o := .cells #[.string a0_0, .int .i64 a0_1, .int .i64 a0_2, .int .i64 a0_3] 74 (0, 0)) (by (with_reducible repeat (first | refine blk_drewN ?_ _ | refine blk_drew ?_ | refine blk_alloc ?_ _)); refine blk_far ?_ NB656_659.out _; (with_reducible repeat (first | refine blk_drewN ?_ _ | refine blk_drew ?_ | refine blk_alloc ?_ _)); refine blk_far ?_ NB656_659.out _; (with_reducible repeat (first | refine blk_drewN ?_ _ | refine blk_drew ?_ | refine blk_alloc ?_ _)); refine blk_far ?_ NB656_659.out _; (with_reducible repeat (first | refine blk_drewN ?_ _ | refine blk_drew ?_ | refine blk_alloc ?_ _)); refine blk_far ?_ NB656_659.out _; (with_reducible repeat (first | refine blk_drewN ?_ _ | refine blk_drew ?_ | refine blk_alloc ?_ _)); exact BK656.out) hb); have n1_ := Aside0.mk (blk_below (g := gb659) (o := .cells #[.string a0_0, .int .i64 a0_1, .int .i64 a0_2, .int .i64 a0_3] 74 (0, 0)) (by (with_reducible repeat (first | refine blk_drewN ?_ _ | refine blk_drew ?_ | refine blk_alloc ?_ _)); refine blk_put (cs := #[.string a0_0, .int .i64 a0_1, .int .i64 a0_2, .int .i64 0]) ?_ 3 _ rfl; (with_reducible repeat (first | refine blk_drewN ?_ _ | refine blk_drew ?_ | refine blk_alloc ?_ _)); refine blk_put (cs := #[.string a0_0, .int .i64 a0_1, .int .i64 0, .int .i64 0]) ?_ 2 _ rfl; (with_reducible repeat (first | refine blk_drewN ?_ _ | refine blk_drew ?_ | refine blk_alloc ?_ _)); refine blk_put (cs := #[.string a0_0, .int .i64 0, .int .i64 0, .int .i64 0]) ?_ 1 _ rfl; (with_reducible repeat (first | refine blk_drewN ?_ _ | refine blk_drew ?_ | refine blk_alloc ?_ _)); refine blk_put (cs := #[.string (⟨#[]⟩ : ByteArray), .int .i64 0, .int .i64 0, .int .i64 0]) ?_ 0 _ rfl; (with_reducible repeat (first | refine blk_drewN ?_ _ | refine blk_drew ?_ | refine blk_alloc ?_ _)); exact BK659.out) hb); have n2_ := Aside0.mk (below_step (by repeat (first | (with_reducible first | exact HB.out | apply below_alloc | apply pw_below_drewN | apply below_drew1 | refine below_set ?_ GE656.out | refine below_set ?_ GE659.out) | exact HB.out)) hb); clear BK656; clear BK659; clear HB; have BK656 := n0_; have BK659 := n1_; have HB := n2_; clear n0_ n1_ n2_; (try clear hb); (try clear hb2); (try clear hk); (try clear hi); have hcz34_0 : w33.cell? ⟨gb659, 0, none⟩ = some (.string a0_0) := (blk_cell BK659.out 0).trans rfl; have hcz34_1 : w33.cell? ⟨gb659, 1, none⟩ = some (.int .i64 a0_1) := (blk_cell BK659.out 1).trans rfl; have hcz34_2 : w33.cell? ⟨gb659, 2, none⟩ = some (.int .i64 a0_2) := (blk_cell BK659.out 2).trans rfl; have hcz34_3 : w33.cell? ⟨gb659, 3, none⟩ = some (.int .i64 a0_3) := (blk_cell BK659.out 3).trans rfl; have hfz34_0 := blk_frozen BK659.out 0; have hfz34_1 := blk_frozen BK659.out 1; have hfz34_2 := blk_frozen BK659.out 2; have hfz34_3 := blk_frozen BK659.out 3; have hcz35_0 : w33.cell? ⟨gb656, 0, none⟩ = some (.string a0_0) := (blk_cell BK656.out 0).trans rfl; have hcz35_1 : w33.cell? ⟨gb656, 1, none⟩ = some (.int .i64 a0_1) := (blk_cell BK656.out 1).trans rfl; have hcz35_2 : w33.cell? ⟨gb656, 2, none⟩ = some (.int .i64 a0_2) := (blk_cell BK656.out 2).trans rfl; have hcz35_3 : w33.cell? ⟨gb656, 3, none⟩ = some (.int .i64 a0_3) := (blk_cell BK656.out 3).trans rfl; have hfz35_0 := blk_frozen BK656.out 0; have hfz35_1 := blk_frozen BK656.out 1; have hfz35_2 := blk_frozen BK656.out 2; have hfz35_3 := blk_frozen BK656.out 3; have p22 : 0 ≤ (a1 : Int) := of_decide_eq_true (by first | (with_reducible assumption) | assumption); have q22 : a1 < (a0_0.size : Int) := of_decide_eq_true (by first | (with_reducible assumption) | assumption); have hx22 := bt_at a0_0 a1; replace p22 := eq_true p22; replace q22 := eq_true q22) | ((with_reducible refine gate_callee (f := 64) rfl ?_); refine goesL_ (some 34) rfl rfl Tryd.func64 (by kernel_rfl) rfl #[.int .u8 (bt a0_0 a1)] rfl (by (try simp only [List.map_toArray, List.map_cons, List.map_nil]); first | done | rfl | (simp only [List.length_drop, List.length_take]; rfl)) ?_; (with_reducible refine (riverbankref02_Kind.calls kj2 (bt a0_0 a1) t661 _ A23.out).mono ?_); rintro e w' ⟨rfl, ⟨nd, rfl⟩⟩; refine ⟨_, rfl, ?_⟩) | ((with_reducible refine gate_callee (f := 82) rfl ?_); refine goesL_ (some 37) rfl rfl Tryd.func82 (by kernel_rfl) rfl #[.agg #[.string t660, .int .i64 a0_1, .int .i64 a0_2, .int .i64 a0_3]] rfl (by (try simp only [List.map_toArray, List.map_cons, List.map_nil]); first | done | rfl | (simp only [List.length_drop, List.length_take]; rfl)) ?_; (with_reducible refine (place_Check.calls kj2 t660 a0_1 a0_2 a0_3 t662 _ A25.out).mono ?_); rintro e w36 ⟨rfl, hb⟩; refine ⟨_, rfl, ?_⟩; have n0_ := Aside0.mk (blk_below (g := gb656) (o := .cells #[.string a0_0, .int .i64 a0_1, .int .i64 a0_2, .int .i64 a0_3] 74 (0, 0)) (by (with_reducible repeat (first | refine blk_drewN ?_ _ | refine blk_drew ?_ | refine blk_alloc ?_ _)); refine blk_far ?_ NB656_659.out _; (with_reducible repeat (first | refine blk_drewN ?_ _ | refine blk_drew ?_ | refine blk_alloc ?_ _)); exact BK656.out) hb); have n1_ := Aside0.mk (blk_below (g := gb659) (o := .cells #[.string t660, .int .i64 a0_1, .int .i64 a0_2, .int .i64 a0_3] 74 (0, 0)) (by (with_reducible repeat (first | refine blk_drewN ?_ _ | refine blk_drew ?_ | refine blk_alloc ?_ _)); refine blk_put (cs := #[.string a0_0, .int .i64 a0_1, .int .i64 a0_2, .int .i64 a0_3]) ?_ 0 _ rfl; (with_reducible repeat (first | refine blk_drewN ?_ _ | refine blk_drew ?_ | refine blk_alloc ?_ _)); exact BK659.out) hb); have n2_ := Aside0.mk (below_step (by repeat (first | (with_reducible first | exact HB.out | apply below_alloc | apply pw_below_drewN | apply below_drew1 | refine below_set ?_ GE656.out | refine below_set ?_ GE659.out) | exact HB.out)) hb); clear BK656; clear BK659; clear HB; have BK656 := n0_; have BK659 := n1_; have HB := n2_; clear n0_ n1_ n2_; (try clear hb); (try clear hb2); (try clear hk); (try clear hi)) | (go_at_call 81; (with_reducible refine (riverbanklaw03_live.calls  t663 _ (tab_of HT.out (by repeat (first | (with_reducible first | exact HB.out | apply below_alloc | apply pw_below_drewN | apply below_drew1 | refine below_set ?_ GE656.out | refine below_set ?_ GE659.out) | exact HB.out))) A27.out).mono ?_); rintro e w37 ⟨rfl, hb⟩; have n0_ := Aside0.mk (blk_below (g := gb656) (o := .cells #[.string a0_0, .int .i64 a0_1, .int .i64 a0_2, .int .i64 a0_3] 74 (0, 0)) (by (with_reducible repeat (first | refine blk_drewN ?_ _ | refine blk_drew ?_ | refine blk_alloc ?_ _)); exact BK656.out) hb); have n1_ := Aside0.mk (blk_below (g := gb659) (o := .cells #[.string t660, .int .i64 a0_1, .int .i64 a0_2, .int .i64 a0_3] 74 (0, 0)) (by (with_reducible repeat (first | refine blk_drewN ?_ _ | refine blk_drew ?_ | refine blk_alloc ?_ _)); exact BK659.out) hb); have n2_ := Aside0.mk (below_step (by repeat (first | (with_reducible first | exact HB.out | apply below_alloc | apply pw_below_drewN | apply below_drew1 | refine below_set ?_ GE656.out | refine below_set ?_ GE659.out) | exact HB.out)) hb); clear BK656; clear BK659; clear HB; have BK656 := n0_; have BK659 := n1_; have HB := n2_; clear n0_ n1_ n2_; (try clear hb); (try clear hb2); (try clear hk); (try clear hi)))
                go_ret
                exact ⟨by first | rfl | (simp [errW_none, errW_some] <;> rfl) | (simp [*, errW_none, errW_some] <;> rfl), by repeat (first | (with_reducible first | exact HB.out | apply below_alloc | apply pw_below_drewN | apply below_drew1 | refine below_set ?_ GE656.out | refine below_set ?_ GE659.out) | exact HB.out)⟩
              · rw [if_neg c26] at H
                have c26b0 : (t662 == 3) = false := beq_eq_false_iff_ne.mpr c26
                have c26b1 : (t662 != 3) = true := bne_iff_ne.mpr c26
                obtain rfl := Option.some.inj H
                have hcz38_0 : wc.cell? ⟨gb656, 0, none⟩ = some (.string a0_0) := (blk_cell BK656.out 0).trans rfl
                have hcz38_1 : wc.cell? ⟨gb656, 1, none⟩ = some (.int .i64 a0_1) := (blk_cell BK656.out 1).trans rfl
                have hcz38_2 : wc.cell? ⟨gb656, 2, none⟩ = some (.int .i64 a0_2) := (blk_cell BK656.out 2).trans rfl
                have hcz38_3 : wc.cell? ⟨gb656, 3, none⟩ = some (.int .i64 a0_3) := (blk_cell BK656.out 3).trans rfl
                have hfz38_0 := blk_frozen BK656.out 0
                have hfz38_1 := blk_frozen BK656.out 1
                have hfz38_2 := blk_frozen BK656.out 2
                have hfz38_3 := blk_frozen BK656.out 3
                go_wp2_with (first | ((with_reducible refine gate_dst (N := 5) rfl ?_); refine box_event ?hg (N := 5) ?hd (cs := #[.string (⟨#[]⟩ : ByteArray), .int .i64 0, .int .i64 0, .int .i64 0]) (t := 74) ?hr ?_; (case hd => rfl); (case hg => rfl); (case hr => first | (go_simp; done) | (go_simp; rfl)); intro gb659 hg w39 hbox hb; have n0_ := Aside0.mk (blk_below (g := gb656) (o := .cells #[.string a0_0, .int .i64 a0_1, .int .i64 a0_2, .int .i64 a0_3] 74 (0, 0)) (by (with_reducible repeat (first | refine blk_drewN ?_ _ | refine blk_drew ?_ | refine blk_alloc ?_ _)); exact BK656.out) hb); have n1_ := Aside0.mk (below_step (by repeat (first | (with_reducible first | exact HB.out | apply below_alloc | apply pw_below_drewN | apply below_drew1 | refine below_set ?_ GE656.out) | exact HB.out)) hb); have n2_ := Aside0.mk (hbox); have n3_ := Aside0.mk ((by rw [hg]; exact (below_size (by repeat (first | (with_reducible first | exact HB.out | apply below_alloc | apply pw_below_drewN | apply below_drew1 | refine below_set ?_ GE656.out) | exact HB.out))) : w.heap.size ≤ gb659)); have n4_ := Aside0.mk ((by rw [hg]; exact (below_size (by repeat (first | (with_reducible first | exact HB.out | apply below_alloc | apply pw_below_drewN | apply below_drew1 | refine below_set ?_ GE656.out) | exact HB.out))) : w.heap.size ≤ gb659)); have n5_ := Aside0.mk ((by rw [hg]; exact Nat.ne_of_lt (blk_lt (g := gb656) (o := .cells #[.string a0_0, .int .i64 a0_1, .int .i64 a0_2, .int .i64 a0_3] 74 (0, 0)) (by (with_reducible repeat (first | refine blk_drewN ?_ _ | refine blk_drew ?_ | refine blk_alloc ?_ _)); exact BK656.out)) : gb656 ≠ gb659)); have n6_ := Aside0.mk ((by rw [hg]; exact Nat.ne_of_gt (blk_lt (g := gb656) (o := .cells #[.string a0_0, .int .i64 a0_1, .int .i64 a0_2, .int .i64 a0_3] 74 (0, 0)) (by (with_reducible repeat (first | refine blk_drewN ?_ _ | refine blk_drew ?_ | refine blk_alloc ?_ _)); exact BK656.out)) : gb659 ≠ gb656)); clear BK656; clear HB; have BK656 := n0_; have HB := n1_; have BK659 := n2_; have GW659 := n3_; have GE659 := n4_; have NB656_659 := n5_; have NB659_656 := n6_; clear n0_ n1_ n2_ n3_ n4_ n5_ n6_; clear hb hbox hg; have hnb40 := NB659_656.out; have hnc40 := NB656_659.out; have hcz41_0 : w39.cell? ⟨gb659, 0, none⟩ = some (.string (⟨#[]⟩ : ByteArray)) := (blk_cell BK659.out 0).trans rfl; have hcz41_1 : w39.cell? ⟨gb659, 1, none⟩ = some (.int .i64 0) := (blk_cell BK659.out 1).trans rfl; have hcz41_2 : w39.cell? ⟨gb659, 2, none⟩ = some (.int .i64 0) := (blk_cell BK659.out 2).trans rfl; have hcz41_3 : w39.cell? ⟨gb659, 3, none⟩ = some (.int .i64 0) := (blk_cell BK659.out 3).trans rfl; have hfz41_0 := blk_frozen BK659.out 0; have hfz41_1 := blk_frozen BK659.out 1; have hfz41_2 := blk_frozen BK659.out 2; have hfz41_3 := blk_frozen BK659.out 3; have hcz42_0 : w39.cell? ⟨gb656, 0, none⟩ = some (.string a0_0) := (blk_cell BK656.out 0).trans rfl; have hcz42_1 : w39.cell? ⟨gb656, 1, none⟩ = some (.int .i64 a0_1) := (blk_cell BK656.out 1).trans rfl; have hcz42_2 : w39.cell? ⟨gb656, 2, none⟩ = some (.int .i64 a0_2) := (blk_cell BK656.out 2).trans rfl; have hcz42_3 : w39.cell? ⟨gb656, 3, none⟩ = some (.int .i64 a0_3) := (blk_cell BK656.out 3).trans rfl; have hfz42_0 := blk_frozen BK656.out 0; have hfz42_1 := blk_frozen BK656.out 1; have hfz42_2 := blk_frozen BK656.out 2; have hfz42_3 := blk_frozen BK656.out 3) | ((with_reducible refine gate_callee (f := 55) rfl ?_); refine goesL_ (some 28) rfl rfl Tryd.func55 (by kernel_rfl) rfl #[.string a0_0, .int .i64 a1, .int .u8 46] rfl (by (try simp only [List.map_toArray, List.map_cons, List.map_nil]); first | done | rfl | (simp only [List.length_drop, List.length_take]; rfl)) ?_; (with_reducible refine (riverbankref02_Put.calls kj2 a0_0 a1 46 t660 _ A19.out).mono ?_); rintro e w43 ⟨rfl, hb⟩; refine ⟨_, rfl, ?_⟩; have n0_ := Aside0.mk (blk_below (g := gb656) (o := .cells #[.string a0_0, .int .i64 a0_1, .int .i64 a0_2, .int .i64 a0_3] 74 (0, 0)) (by (with_reducible repeat (first | refine blk_drewN ?_ _ | refine blk_drew ?_ | refine blk_alloc ?_ _)); refine blk_far ?_ NB656_659.out _; (with_reducible repeat (first | refine blk_drewN ?_ _ | refine blk_drew ?_ | refine blk_alloc ?_ _)); refine blk_far ?_ NB656_659.out _; (with_reducible repeat (first | refine blk_drewN ?_ _ | refine blk_drew ?_ | refine blk_alloc ?_ _)); refine blk_far ?_ NB656_659.out _; (with_reducible repeat (first | refine blk_drewN ?_ _ | refine blk_drew ?_ | refine blk_alloc ?_ _)); refine blk_far ?_ NB656_659.out _; (with_reducible repeat (first | refine blk_drewN ?_ _ | refine blk_drew ?_ | refine blk_alloc ?_ _)); exact BK656.out) hb); have n1_ := Aside0.mk (blk_below (g := gb659) (o := .cells #[.string a0_0, .int .i64 a0_1, .int .i64 a0_2, .int .i64 a0_3] 74 (0, 0)) (by (with_reducible repeat (first | refine blk_drewN ?_ _ | refine blk_drew ?_ | refine blk_alloc ?_ _)); refine blk_put (cs := #[.string a0_0, .int .i64 a0_1, .int .i64 a0_2, .int .i64 0]) ?_ 3 _ rfl; (with_reducible repeat (first | refine blk_drewN ?_ _ | refine blk_drew ?_ | refine blk_alloc ?_ _)); refine blk_put (cs := #[.string a0_0, .int .i64 a0_1, .int .i64 0, .int .i64 0]) ?_ 2 _ rfl; (with_reducible repeat (first | refine blk_drewN ?_ _ | refine blk_drew ?_ | refine blk_alloc ?_ _)); refine blk_put (cs := #[.string a0_0, .int .i64 0, .int .i64 0, .int .i64 0]) ?_ 1 _ rfl; (with_reducible repeat (first | refine blk_drewN ?_ _ | refine blk_drew ?_ | refine blk_alloc ?_ _)); refine blk_put (cs := #[.string (⟨#[]⟩ : ByteArray), .int .i64 0, .int .i64 0, .int .i64 0]) ?_ 0 _ rfl; (with_reducible repeat (first | refine blk_drewN ?_ _ | refine blk_drew ?_ | refine blk_alloc ?_ _)); exact BK659.out) hb); have n2_ := Aside0.mk (below_step (by repeat (first | (with_reducible first | exact HB.out | apply below_alloc | apply pw_below_drewN | apply below_drew1 | refine below_set ?_ GE656.out | refine below_set ?_ GE659.out) | exact HB.out)) hb); clear BK656; clear BK659; clear HB; have BK656 := n0_; have BK659 := n1_; have HB := n2_; clear n0_ n1_ n2_; (try clear hb); (try clear hb2); (try clear hk); (try clear hi); have hcz44_0 : w43.cell? ⟨gb659, 0, none⟩ = some (.string a0_0) := (blk_cell BK659.out 0).trans rfl; have hcz44_1 : w43.cell? ⟨gb659, 1, none⟩ = some (.int .i64 a0_1) := (blk_cell BK659.out 1).trans rfl; have hcz44_2 : w43.cell? ⟨gb659, 2, none⟩ = some (.int .i64 a0_2) := (blk_cell BK659.out 2).trans rfl; have hcz44_3 : w43.cell? ⟨gb659, 3, none⟩ = some (.int .i64 a0_3) := (blk_cell BK659.out 3).trans rfl; have hfz44_0 := blk_frozen BK659.out 0; have hfz44_1 := blk_frozen BK659.out 1; have hfz44_2 := blk_frozen BK659.out 2; have hfz44_3 := blk_frozen BK659.out 3; have hcz45_0 : w43.cell? ⟨gb656, 0, none⟩ = some (.string a0_0) := (blk_cell BK656.out 0).trans rfl; have hcz45_1 : w43.cell? ⟨gb656, 1, none⟩ = some (.int .i64 a0_1) := (blk_cell BK656.out 1).trans rfl; have hcz45_2 : w43.cell? ⟨gb656, 2, none⟩ = some (.int .i64 a0_2) := (blk_cell BK656.out 2).trans rfl; have hcz45_3 : w43.cell? ⟨gb656, 3, none⟩ = some (.int .i64 a0_3) := (blk_cell BK656.out 3).trans rfl; have hfz45_0 := blk_frozen BK656.out 0; have hfz45_1 := blk_frozen BK656.out 1; have hfz45_2 := blk_frozen BK656.out 2; have hfz45_3 := blk_frozen BK656.out 3; have p22 : 0 ≤ (a1 : Int) := of_decide_eq_true (by first | (with_reducible assumption) | assumption); have q22 : a1 < (a0_0.size : Int) := of_decide_eq_true (by first | (with_reducible assumption) | assumption); have hx22 := bt_at a0_0 a1; replace p22 := eq_true p22; replace q22 := eq_true q22) | ((with_reducible refine gate_callee (f := 64) rfl ?_); refine goesL_ (some 34) rfl rfl Tryd.func64 (by kernel_rfl) rfl #[.int .u8 (bt a0_0 a1)] rfl (by (try simp only [List.map_toArray, List.map_cons, List.map_nil]); first | done | rfl | (simp only [List.length_drop, List.length_take]; rfl)) ?_; (with_reducible refine (riverbankref02_Kind.calls kj2 (bt a0_0 a1) t661 _ A23.out).mono ?_); rintro e w' ⟨rfl, ⟨nd, rfl⟩⟩; refine ⟨_, rfl, ?_⟩) | ((with_reducible refine gate_callee (f := 82) rfl ?_); refine goesL_ (some 37) rfl rfl Tryd.func82 (by kernel_rfl) rfl #[.agg #[.string t660, .int .i64 a0_1, .int .i64 a0_2, .int .i64 a0_3]] rfl (by (try simp only [List.map_toArray, List.map_cons, List.map_nil]); first | done | rfl | (simp only [List.length_drop, List.length_take]; rfl)) ?_; (with_reducible refine (place_Check.calls kj2 t660 a0_1 a0_2 a0_3 t662 _ A25.out).mono ?_); rintro e w46 ⟨rfl, hb⟩; refine ⟨_, rfl, ?_⟩; have n0_ := Aside0.mk (blk_below (g := gb656) (o := .cells #[.string a0_0, .int .i64 a0_1, .int .i64 a0_2, .int .i64 a0_3] 74 (0, 0)) (by (with_reducible repeat (first | refine blk_drewN ?_ _ | refine blk_drew ?_ | refine blk_alloc ?_ _)); refine blk_far ?_ NB656_659.out _; (with_reducible repeat (first | refine blk_drewN ?_ _ | refine blk_drew ?_ | refine blk_alloc ?_ _)); exact BK656.out) hb); have n1_ := Aside0.mk (blk_below (g := gb659) (o := .cells #[.string t660, .int .i64 a0_1, .int .i64 a0_2, .int .i64 a0_3] 74 (0, 0)) (by (with_reducible repeat (first | refine blk_drewN ?_ _ | refine blk_drew ?_ | refine blk_alloc ?_ _)); refine blk_put (cs := #[.string a0_0, .int .i64 a0_1, .int .i64 a0_2, .int .i64 a0_3]) ?_ 0 _ rfl; (with_reducible repeat (first | refine blk_drewN ?_ _ | refine blk_drew ?_ | refine blk_alloc ?_ _)); exact BK659.out) hb); have n2_ := Aside0.mk (below_step (by repeat (first | (with_reducible first | exact HB.out | apply below_alloc | apply pw_below_drewN | apply below_drew1 | refine below_set ?_ GE656.out | refine below_set ?_ GE659.out) | exact HB.out)) hb); clear BK656; clear BK659; clear HB; have BK656 := n0_; have BK659 := n1_; have HB := n2_; clear n0_ n1_ n2_; (try clear hb); (try clear hb2); (try clear hk); (try clear hi)))
                go_ret
                exact ⟨by first | rfl | (simp [errW_none, errW_some] <;> rfl) | (simp [*, errW_none, errW_some] <;> rfl), by repeat (first | (with_reducible first | exact HB.out | apply below_alloc | apply pw_below_drewN | apply below_drew1 | refine below_set ?_ GE656.out | refine below_set ?_ GE659.out) | exact HB.out)⟩
            · rw [if_neg c24] at H
              have c24b0 : (t661 == 75) = false := beq_eq_false_iff_ne.mpr c24
              have c24b1 : (t661 != 75) = true := bne_iff_ne.mpr c24
              replace H := Option.bind_eq_some_iff.mp H
              obtain ⟨t664, A470, H⟩ := H
              replace H : (if t664 = 0 then ((riverbanklaw03_live.f).bind fun t665 => (some t665)) else (some false)) = some r := H
              have A47 := Aside0.mk A470
              clear A470
              by_cases c48 : t664 = 0
              · rw [if_pos c48] at H
                have c48b0 : (t664 == 0) = true := beq_iff_eq.mpr c48
                have c48b1 : (t664 != 0) = false := bne_eq_false_iff_eq.mpr c48
                clear c48
                replace H := Option.bind_eq_some_iff.mp H
                obtain ⟨t665, A490, H⟩ := H
                replace H : (some t665) = some r := H
                have A49 := Aside0.mk A490
                clear A490
                obtain rfl := Option.some.inj H
                have hcz50_0 : wc.cell? ⟨gb656, 0, none⟩ = some (.string a0_0) := (blk_cell BK656.out 0).trans rfl
                have hcz50_1 : wc.cell? ⟨gb656, 1, none⟩ = some (.int .i64 a0_1) := (blk_cell BK656.out 1).trans rfl
                have hcz50_2 : wc.cell? ⟨gb656, 2, none⟩ = some (.int .i64 a0_2) := (blk_cell BK656.out 2).trans rfl
                have hcz50_3 : wc.cell? ⟨gb656, 3, none⟩ = some (.int .i64 a0_3) := (blk_cell BK656.out 3).trans rfl
                have hfz50_0 := blk_frozen BK656.out 0
                have hfz50_1 := blk_frozen BK656.out 1
                have hfz50_2 := blk_frozen BK656.out 2
                have hfz50_3 := blk_frozen BK656.out 3
                go_wp2_with (first | ((with_reducible refine gate_dst (N := 5) rfl ?_); refine box_event ?hg (N := 5) ?hd (cs := #[.string (⟨#[]⟩ : ByteArray), .int .i64 0, .int .i64 0, .int .i64 0]) (t := 74) ?hr ?_; (case hd => rfl); (case hg => rfl); (case hr => first | (go_simp; done) | (go_simp; rfl)); intro gb659 hg w51 hbox hb; have n0_ := Aside0.mk (blk_below (g := gb656) (o := .cells #[.string a0_0, .int .i64 a0_1, .int .i64 a0_2, .int .i64 a0_3] 74 (0, 0)) (by (with_reducible repeat (first | refine blk_drewN ?_ _ | refine blk_drew ?_ | refine blk_alloc ?_ _)); exact BK656.out) hb); have n1_ := Aside0.mk (below_step (by repeat (first | (with_reducible first | exact HB.out | apply below_alloc | apply pw_below_drewN | apply below_drew1 | refine below_set ?_ GE656.out) | exact HB.out)) hb); have n2_ := Aside0.mk (hbox); have n3_ := Aside0.mk ((by rw [hg]; exact (below_size (by repeat (first | (with_reducible first | exact HB.out | apply below_alloc | apply pw_below_drewN | apply below_drew1 | refine below_set ?_ GE656.out) | exact HB.out))) : w.heap.size ≤ gb659)); have n4_ := Aside0.mk ((by rw [hg]; exact (below_size (by repeat (first | (with_reducible first | exact HB.out | apply below_alloc | apply pw_below_drewN | apply below_drew1 | refine below_set ?_ GE656.out) | exact HB.out))) : w.heap.size ≤ gb659)); have n5_ := Aside0.mk ((by rw [hg]; exact Nat.ne_of_lt (blk_lt (g := gb656) (o := .cells #[.string a0_0, .int .i64 a0_1, .int .i64 a0_2, .int .i64 a0_3] 74 (0, 0)) (by (with_reducible repeat (first | refine blk_drewN ?_ _ | refine blk_drew ?_ | refine blk_alloc ?_ _)); exact BK656.out)) : gb656 ≠ gb659)); have n6_ := Aside0.mk ((by rw [hg]; exact Nat.ne_of_gt (blk_lt (g := gb656) (o := .cells #[.string a0_0, .int .i64 a0_1, .int .i64 a0_2, .int .i64 a0_3] 74 (0, 0)) (by (with_reducible repeat (first | refine blk_drewN ?_ _ | refine blk_drew ?_ | refine blk_alloc ?_ _)); exact BK656.out)) : gb659 ≠ gb656)); clear BK656; clear HB; have BK656 := n0_; have HB := n1_; have BK659 := n2_; have GW659 := n3_; have GE659 := n4_; have NB656_659 := n5_; have NB659_656 := n6_; clear n0_ n1_ n2_ n3_ n4_ n5_ n6_; clear hb hbox hg; have hnb52 := NB659_656.out; have hnc52 := NB656_659.out; have hcz53_0 : w51.cell? ⟨gb659, 0, none⟩ = some (.string (⟨#[]⟩ : ByteArray)) := (blk_cell BK659.out 0).trans rfl; have hcz53_1 : w51.cell? ⟨gb659, 1, none⟩ = some (.int .i64 0) := (blk_cell BK659.out 1).trans rfl; have hcz53_2 : w51.cell? ⟨gb659, 2, none⟩ = some (.int .i64 0) := (blk_cell BK659.out 2).trans rfl; have hcz53_3 : w51.cell? ⟨gb659, 3, none⟩ = some (.int .i64 0) := (blk_cell BK659.out 3).trans rfl; have hfz53_0 := blk_frozen BK659.out 0; have hfz53_1 := blk_frozen BK659.out 1; have hfz53_2 := blk_frozen BK659.out 2; have hfz53_3 := blk_frozen BK659.out 3; have hcz54_0 : w51.cell? ⟨gb656, 0, none⟩ = some (.string a0_0) := (blk_cell BK656.out 0).trans rfl; have hcz54_1 : w51.cell? ⟨gb656, 1, none⟩ = some (.int .i64 a0_1) := (blk_cell BK656.out 1).trans rfl; have hcz54_2 : w51.cell? ⟨gb656, 2, none⟩ = some (.int .i64 a0_2) := (blk_cell BK656.out 2).trans rfl; have hcz54_3 : w51.cell? ⟨gb656, 3, none⟩ = some (.int .i64 a0_3) := (blk_cell BK656.out 3).trans rfl; have hfz54_0 := blk_frozen BK656.out 0; have hfz54_1 := blk_frozen BK656.out 1; have hfz54_2 := blk_frozen BK656.out 2; have hfz54_3 := blk_frozen BK656.out 3) | ((with_reducible refine gate_callee (f := 55) rfl ?_); refine goesL_ (some 28) rfl rfl Tryd.func55 (by kernel_rfl) rfl #[.string a0_0, .int .i64 a1, .int .u8 46] rfl (by (try simp only [List.map_toArray, List.map_cons, List.map_nil]); first | done | rfl | (simp only [List.length_drop, List.length_take]; rfl)) ?_; (with_reducible refine (riverbankref02_Put.calls kj2 a0_0 a1 46 t660 _ A19.out).mono ?_); rintro e w55 ⟨rfl, hb⟩; refine ⟨_, rfl, ?_⟩; have n0_ := Aside0.mk (blk_below (g := gb656) (o := .cells #[.string a0_0, .int .i64 a0_1, .int .i64 a0_2, .int .i64 a0_3] 74 (0, 0)) (by (with_reducible repeat (first | refine blk_drewN ?_ _ | refine blk_drew ?_ | refine blk_alloc ?_ _)); refine blk_far ?_ NB656_659.out _; (with_reducible repeat (first | refine blk_drewN ?_ _ | refine blk_drew ?_ | refine blk_alloc ?_ _)); refine blk_far ?_ NB656_659.out _; (with_reducible repeat (first | refine blk_drewN ?_ _ | refine blk_drew ?_ | refine blk_alloc ?_ _)); refine blk_far ?_ NB656_659.out _; (with_reducible repeat (first | refine blk_drewN ?_ _ | refine blk_drew ?_ | refine blk_alloc ?_ _)); refine blk_far ?_ NB656_659.out _; (with_reducible repeat (first | refine blk_drewN ?_ _ | refine blk_drew ?_ | refine blk_alloc ?_ _)); exact BK656.out) hb); have n1_ := Aside0.mk (blk_below (g := gb659) (o := .cells #[.string a0_0, .int .i64 a0_1, .int .i64 a0_2, .int .i64 a0_3] 74 (0, 0)) (by (with_reducible repeat (first | refine blk_drewN ?_ _ | refine blk_drew ?_ | refine blk_alloc ?_ _)); refine blk_put (cs := #[.string a0_0, .int .i64 a0_1, .int .i64 a0_2, .int .i64 0]) ?_ 3 _ rfl; (with_reducible repeat (first | refine blk_drewN ?_ _ | refine blk_drew ?_ | refine blk_alloc ?_ _)); refine blk_put (cs := #[.string a0_0, .int .i64 a0_1, .int .i64 0, .int .i64 0]) ?_ 2 _ rfl; (with_reducible repeat (first | refine blk_drewN ?_ _ | refine blk_drew ?_ | refine blk_alloc ?_ _)); refine blk_put (cs := #[.string a0_0, .int .i64 0, .int .i64 0, .int .i64 0]) ?_ 1 _ rfl; (with_reducible repeat (first | refine blk_drewN ?_ _ | refine blk_drew ?_ | refine blk_alloc ?_ _)); refine blk_put (cs := #[.string (⟨#[]⟩ : ByteArray), .int .i64 0, .int .i64 0, .int .i64 0]) ?_ 0 _ rfl; (with_reducible repeat (first | refine blk_drewN ?_ _ | refine blk_drew ?_ | refine blk_alloc ?_ _)); exact BK659.out) hb); have n2_ := Aside0.mk (below_step (by repeat (first | (with_reducible first | exact HB.out | apply below_alloc | apply pw_below_drewN | apply below_drew1 | refine below_set ?_ GE656.out | refine below_set ?_ GE659.out) | exact HB.out)) hb); clear BK656; clear BK659; clear HB; have BK656 := n0_; have BK659 := n1_; have HB := n2_; clear n0_ n1_ n2_; (try clear hb); (try clear hb2); (try clear hk); (try clear hi); have hcz56_0 : w55.cell? ⟨gb659, 0, none⟩ = some (.string a0_0) := (blk_cell BK659.out 0).trans rfl; have hcz56_1 : w55.cell? ⟨gb659, 1, none⟩ = some (.int .i64 a0_1) := (blk_cell BK659.out 1).trans rfl; have hcz56_2 : w55.cell? ⟨gb659, 2, none⟩ = some (.int .i64 a0_2) := (blk_cell BK659.out 2).trans rfl; have hcz56_3 : w55.cell? ⟨gb659, 3, none⟩ = some (.int .i64 a0_3) := (blk_cell BK659.out 3).trans rfl; have hfz56_0 := blk_frozen BK659.out 0; have hfz56_1 := blk_frozen BK659.out 1; have hfz56_2 := blk_frozen BK659.out 2; have hfz56_3 := blk_frozen BK659.out 3; have hcz57_0 : w55.cell? ⟨gb656, 0, none⟩ = some (.string a0_0) := (blk_cell BK656.out 0).trans rfl; have hcz57_1 : w55.cell? ⟨gb656, 1, none⟩ = some (.int .i64 a0_1) := (blk_cell BK656.out 1).trans rfl; have hcz57_2 : w55.cell? ⟨gb656, 2, none⟩ = some (.int .i64 a0_2) := (blk_cell BK656.out 2).trans rfl; have hcz57_3 : w55.cell? ⟨gb656, 3, none⟩ = some (.int .i64 a0_3) := (blk_cell BK656.out 3).trans rfl; have hfz57_0 := blk_frozen BK656.out 0; have hfz57_1 := blk_frozen BK656.out 1; have hfz57_2 := blk_frozen BK656.out 2; have hfz57_3 := blk_frozen BK656.out 3; have p22 : 0 ≤ (a1 : Int) := of_decide_eq_true (by first | (with_reducible assumption) | assumption); have q22 : a1 < (a0_0.size : Int) := of_decide_eq_true (by first | (with_reducible assumption) | assumption); have hx22 := bt_at a0_0 a1; replace p22 := eq_true p22; replace q22 := eq_true q22) | ((with_reducible refine gate_callee (f := 64) rfl ?_); refine goesL_ (some 34) rfl rfl Tryd.func64 (by kernel_rfl) rfl #[.int .u8 (bt a0_0 a1)] rfl (by (try simp only [List.map_toArray, List.map_cons, List.map_nil]); first | done | rfl | (simp only [List.length_drop, List.length_take]; rfl)) ?_; (with_reducible refine (riverbankref02_Kind.calls kj2 (bt a0_0 a1) t661 _ A23.out).mono ?_); rintro e w' ⟨rfl, ⟨nd, rfl⟩⟩; refine ⟨_, rfl, ?_⟩) | ((with_reducible refine gate_callee (f := 82) rfl ?_); refine goesL_ (some 43) rfl rfl Tryd.func82 (by kernel_rfl) rfl #[.agg #[.string t660, .int .i64 a0_1, .int .i64 a0_2, .int .i64 a0_3]] rfl (by (try simp only [List.map_toArray, List.map_cons, List.map_nil]); first | done | rfl | (simp only [List.length_drop, List.length_take]; rfl)) ?_; (with_reducible refine (place_Check.calls kj2 t660 a0_1 a0_2 a0_3 t664 _ A47.out).mono ?_); rintro e w58 ⟨rfl, hb⟩; refine ⟨_, rfl, ?_⟩; have n0_ := Aside0.mk (blk_below (g := gb656) (o := .cells #[.string a0_0, .int .i64 a0_1, .int .i64 a0_2, .int .i64 a0_3] 74 (0, 0)) (by (with_reducible repeat (first | refine blk_drewN ?_ _ | refine blk_drew ?_ | refine blk_alloc ?_ _)); refine blk_far ?_ NB656_659.out _; (with_reducible repeat (first | refine blk_drewN ?_ _ | refine blk_drew ?_ | refine blk_alloc ?_ _)); exact BK656.out) hb); have n1_ := Aside0.mk (blk_below (g := gb659) (o := .cells #[.string t660, .int .i64 a0_1, .int .i64 a0_2, .int .i64 a0_3] 74 (0, 0)) (by (with_reducible repeat (first | refine blk_drewN ?_ _ | refine blk_drew ?_ | refine blk_alloc ?_ _)); refine blk_put (cs := #[.string a0_0, .int .i64 a0_1, .int .i64 a0_2, .int .i64 a0_3]) ?_ 0 _ rfl; (with_reducible repeat (first | refine blk_drewN ?_ _ | refine blk_drew ?_ | refine blk_alloc ?_ _)); exact BK659.out) hb); have n2_ := Aside0.mk (below_step (by repeat (first | (with_reducible first | exact HB.out | apply below_alloc | apply pw_below_drewN | apply below_drew1 | refine below_set ?_ GE656.out | refine below_set ?_ GE659.out) | exact HB.out)) hb); clear BK656; clear BK659; clear HB; have BK656 := n0_; have BK659 := n1_; have HB := n2_; clear n0_ n1_ n2_; (try clear hb); (try clear hb2); (try clear hk); (try clear hi)) | (go_at_call 81; (with_reducible refine (riverbanklaw03_live.calls  t665 _ (tab_of HT.out (by repeat (first | (with_reducible first | exact HB.out | apply below_alloc | apply pw_below_drewN | apply below_drew1 | refine below_set ?_ GE656.out | refine below_set ?_ GE659.out) | exact HB.out))) A49.out).mono ?_); rintro e w59 ⟨rfl, hb⟩; have n0_ := Aside0.mk (blk_below (g := gb656) (o := .cells #[.string a0_0, .int .i64 a0_1, .int .i64 a0_2, .int .i64 a0_3] 74 (0, 0)) (by (with_reducible repeat (first | refine blk_drewN ?_ _ | refine blk_drew ?_ | refine blk_alloc ?_ _)); exact BK656.out) hb); have n1_ := Aside0.mk (blk_below (g := gb659) (o := .cells #[.string t660, .int .i64 a0_1, .int .i64 a0_2, .int .i64 a0_3] 74 (0, 0)) (by (with_reducible repeat (first | refine blk_drewN ?_ _ | refine blk_drew ?_ | refine blk_alloc ?_ _)); exact BK659.out) hb); have n2_ := Aside0.mk (below_step (by repeat (first | (with_reducible first | exact HB.out | apply below_alloc | apply pw_below_drewN | apply below_drew1 | refine below_set ?_ GE656.out | refine below_set ?_ GE659.out) | exact HB.out)) hb); clear BK656; clear BK659; clear HB; have BK656 := n0_; have BK659 := n1_; have HB := n2_; clear n0_ n1_ n2_; (try clear hb); (try clear hb2); (try clear hk); (try clear hi)))
                go_ret
                exact ⟨by first | rfl | (simp [errW_none, errW_some] <;> rfl) | (simp [*, errW_none, errW_some] <;> rfl), by repeat (first | (with_reducible first | exact HB.out | apply below_alloc | apply pw_below_drewN | apply below_drew1 | refine below_set ?_ GE656.out | refine below_set ?_ GE659.out) | exact HB.out)⟩
              · rw [if_neg c48] at H
                have c48b0 : (t664 == 0) = false := beq_eq_false_iff_ne.mpr c48
                have c48b1 : (t664 != 0) = true := bne_iff_ne.mpr c48
                obtain rfl := Option.some.inj H
                have hcz60_0 : wc.cell? ⟨gb656, 0, none⟩ = some (.string a0_0) := (blk_cell BK656.out 0).trans rfl
                have hcz60_1 : wc.cell? ⟨gb656, 1, none⟩ = some (.int .i64 a0_1) := (blk_cell BK656.out 1).trans rfl
                have hcz60_2 : wc.cell? ⟨gb656, 2, none⟩ = some (.int .i64 a0_2) := (blk_cell BK656.out 2).trans rfl
                have hcz60_3 : wc.cell? ⟨gb656, 3, none⟩ = some (.int .i64 a0_3) := (blk_cell BK656.out 3).trans rfl
                have hfz60_0 := blk_frozen BK656.out 0
                have hfz60_1 := blk_frozen BK656.out 1
                have hfz60_2 := blk_frozen BK656.out 2
                have hfz60_3 := blk_frozen BK656.out 3
                go_wp2_with (first | ((with_reducible refine gate_dst (N := 5) rfl ?_); refine box_event ?hg (N := 5) ?hd (cs := #[.string (⟨#[]⟩ : ByteArray), .int .i64 0, .int .i64 0, .int .i64 0]) (t := 74) ?hr ?_; (case hd => rfl); (case hg => rfl); (case hr => first | (go_simp; done) | (go_simp; rfl)); intro gb659 hg w61 hbox hb; have n0_ := Aside0.mk (blk_below (g := gb656) (o := .cells #[.string a0_0, .int .i64 a0_1, .int .i64 a0_2, .int .i64 a0_3] 74 (0, 0)) (by (with_reducible repeat (first | refine blk_drewN ?_ _ | refine blk_drew ?_ | refine blk_alloc ?_ _)); exact BK656.out) hb); have n1_ := Aside0.mk (below_step (by repeat (first | (with_reducible first | exact HB.out | apply below_alloc | apply pw_below_drewN | apply below_drew1 | refine below_set ?_ GE656.out) | exact HB.out)) hb); have n2_ := Aside0.mk (hbox); have n3_ := Aside0.mk ((by rw [hg]; exact (below_size (by repeat (first | (with_reducible first | exact HB.out | apply below_alloc | apply pw_below_drewN | apply below_drew1 | refine below_set ?_ GE656.out) | exact HB.out))) : w.heap.size ≤ gb659)); have n4_ := Aside0.mk ((by rw [hg]; exact (below_size (by repeat (first | (with_reducible first | exact HB.out | apply below_alloc | apply pw_below_drewN | apply below_drew1 | refine below_set ?_ GE656.out) | exact HB.out))) : w.heap.size ≤ gb659)); have n5_ := Aside0.mk ((by rw [hg]; exact Nat.ne_of_lt (blk_lt (g := gb656) (o := .cells #[.string a0_0, .int .i64 a0_1, .int .i64 a0_2, .int .i64 a0_3] 74 (0, 0)) (by (with_reducible repeat (first | refine blk_drewN ?_ _ | refine blk_drew ?_ | refine blk_alloc ?_ _)); exact BK656.out)) : gb656 ≠ gb659)); have n6_ := Aside0.mk ((by rw [hg]; exact Nat.ne_of_gt (blk_lt (g := gb656) (o := .cells #[.string a0_0, .int .i64 a0_1, .int .i64 a0_2, .int .i64 a0_3] 74 (0, 0)) (by (with_reducible repeat (first | refine blk_drewN ?_ _ | refine blk_drew ?_ | refine blk_alloc ?_ _)); exact BK656.out)) : gb659 ≠ gb656)); clear BK656; clear HB; have BK656 := n0_; have HB := n1_; have BK659 := n2_; have GW659 := n3_; have GE659 := n4_; have NB656_659 := n5_; have NB659_656 := n6_; clear n0_ n1_ n2_ n3_ n4_ n5_ n6_; clear hb hbox hg; have hnb62 := NB659_656.out; have hnc62 := NB656_659.out; have hcz63_0 : w61.cell? ⟨gb659, 0, none⟩ = some (.string (⟨#[]⟩ : ByteArray)) := (blk_cell BK659.out 0).trans rfl; have hcz63_1 : w61.cell? ⟨gb659, 1, none⟩ = some (.int .i64 0) := (blk_cell BK659.out 1).trans rfl; have hcz63_2 : w61.cell? ⟨gb659, 2, none⟩ = some (.int .i64 0) := (blk_cell BK659.out 2).trans rfl; have hcz63_3 : w61.cell? ⟨gb659, 3, none⟩ = some (.int .i64 0) := (blk_cell BK659.out 3).trans rfl; have hfz63_0 := blk_frozen BK659.out 0; have hfz63_1 := blk_frozen BK659.out 1; have hfz63_2 := blk_frozen BK659.out 2; have hfz63_3 := blk_frozen BK659.out 3; have hcz64_0 : w61.cell? ⟨gb656, 0, none⟩ = some (.string a0_0) := (blk_cell BK656.out 0).trans rfl; have hcz64_1 : w61.cell? ⟨gb656, 1, none⟩ = some (.int .i64 a0_1) := (blk_cell BK656.out 1).trans rfl; have hcz64_2 : w61.cell? ⟨gb656, 2, none⟩ = some (.int .i64 a0_2) := (blk_cell BK656.out 2).trans rfl; have hcz64_3 : w61.cell? ⟨gb656, 3, none⟩ = some (.int .i64 a0_3) := (blk_cell BK656.out 3).trans rfl; have hfz64_0 := blk_frozen BK656.out 0; have hfz64_1 := blk_frozen BK656.out 1; have hfz64_2 := blk_frozen BK656.out 2; have hfz64_3 := blk_frozen BK656.out 3) | ((with_reducible refine gate_callee (f := 55) rfl ?_); refine goesL_ (some 28) rfl rfl Tryd.func55 (by kernel_rfl) rfl #[.string a0_0, .int .i64 a1, .int .u8 46] rfl (by (try simp only [List.map_toArray, List.map_cons, List.map_nil]); first | done | rfl | (simp only [List.length_drop, List.length_take]; rfl)) ?_; (with_reducible refine (riverbankref02_Put.calls kj2 a0_0 a1 46 t660 _ A19.out).mono ?_); rintro e w65 ⟨rfl, hb⟩; refine ⟨_, rfl, ?_⟩; have n0_ := Aside0.mk (blk_below (g := gb656) (o := .cells #[.string a0_0, .int .i64 a0_1, .int .i64 a0_2, .int .i64 a0_3] 74 (0, 0)) (by (with_reducible repeat (first | refine blk_drewN ?_ _ | refine blk_drew ?_ | refine blk_alloc ?_ _)); refine blk_far ?_ NB656_659.out _; (with_reducible repeat (first | refine blk_drewN ?_ _ | refine blk_drew ?_ | refine blk_alloc ?_ _)); refine blk_far ?_ NB656_659.out _; (with_reducible repeat (first | refine blk_drewN ?_ _ | refine blk_drew ?_ | refine blk_alloc ?_ _)); refine blk_far ?_ NB656_659.out _; (with_reducible repeat (first | refine blk_drewN ?_ _ | refine blk_drew ?_ | refine blk_alloc ?_ _)); refine blk_far ?_ NB656_659.out _; (with_reducible repeat (first | refine blk_drewN ?_ _ | refine blk_drew ?_ | refine blk_alloc ?_ _)); exact BK656.out) hb); have n1_ := Aside0.mk (blk_below (g := gb659) (o := .cells #[.string a0_0, .int .i64 a0_1, .int .i64 a0_2, .int .i64 a0_3] 74 (0, 0)) (by (with_reducible repeat (first | refine blk_drewN ?_ _ | refine blk_drew ?_ | refine blk_alloc ?_ _)); refine blk_put (cs := #[.string a0_0, .int .i64 a0_1, .int .i64 a0_2, .int .i64 0]) ?_ 3 _ rfl; (with_reducible repeat (first | refine blk_drewN ?_ _ | refine blk_drew ?_ | refine blk_alloc ?_ _)); refine blk_put (cs := #[.string a0_0, .int .i64 a0_1, .int .i64 0, .int .i64 0]) ?_ 2 _ rfl; (with_reducible repeat (first | refine blk_drewN ?_ _ | refine blk_drew ?_ | refine blk_alloc ?_ _)); refine blk_put (cs := #[.string a0_0, .int .i64 0, .int .i64 0, .int .i64 0]) ?_ 1 _ rfl; (with_reducible repeat (first | refine blk_drewN ?_ _ | refine blk_drew ?_ | refine blk_alloc ?_ _)); refine blk_put (cs := #[.string (⟨#[]⟩ : ByteArray), .int .i64 0, .int .i64 0, .int .i64 0]) ?_ 0 _ rfl; (with_reducible repeat (first | refine blk_drewN ?_ _ | refine blk_drew ?_ | refine blk_alloc ?_ _)); exact BK659.out) hb); have n2_ := Aside0.mk (below_step (by repeat (first | (with_reducible first | exact HB.out | apply below_alloc | apply pw_below_drewN | apply below_drew1 | refine below_set ?_ GE656.out | refine below_set ?_ GE659.out) | exact HB.out)) hb); clear BK656; clear BK659; clear HB; have BK656 := n0_; have BK659 := n1_; have HB := n2_; clear n0_ n1_ n2_; (try clear hb); (try clear hb2); (try clear hk); (try clear hi); have hcz66_0 : w65.cell? ⟨gb659, 0, none⟩ = some (.string a0_0) := (blk_cell BK659.out 0).trans rfl; have hcz66_1 : w65.cell? ⟨gb659, 1, none⟩ = some (.int .i64 a0_1) := (blk_cell BK659.out 1).trans rfl; have hcz66_2 : w65.cell? ⟨gb659, 2, none⟩ = some (.int .i64 a0_2) := (blk_cell BK659.out 2).trans rfl; have hcz66_3 : w65.cell? ⟨gb659, 3, none⟩ = some (.int .i64 a0_3) := (blk_cell BK659.out 3).trans rfl; have hfz66_0 := blk_frozen BK659.out 0; have hfz66_1 := blk_frozen BK659.out 1; have hfz66_2 := blk_frozen BK659.out 2; have hfz66_3 := blk_frozen BK659.out 3; have hcz67_0 : w65.cell? ⟨gb656, 0, none⟩ = some (.string a0_0) := (blk_cell BK656.out 0).trans rfl; have hcz67_1 : w65.cell? ⟨gb656, 1, none⟩ = some (.int .i64 a0_1) := (blk_cell BK656.out 1).trans rfl; have hcz67_2 : w65.cell? ⟨gb656, 2, none⟩ = some (.int .i64 a0_2) := (blk_cell BK656.out 2).trans rfl; have hcz67_3 : w65.cell? ⟨gb656, 3, none⟩ = some (.int .i64 a0_3) := (blk_cell BK656.out 3).trans rfl; have hfz67_0 := blk_frozen BK656.out 0; have hfz67_1 := blk_frozen BK656.out 1; have hfz67_2 := blk_frozen BK656.out 2; have hfz67_3 := blk_frozen BK656.out 3; have p22 : 0 ≤ (a1 : Int) := of_decide_eq_true (by first | (with_reducible assumption) | assumption); have q22 : a1 < (a0_0.size : Int) := of_decide_eq_true (by first | (with_reducible assumption) | assumption); have hx22 := bt_at a0_0 a1; replace p22 := eq_true p22; replace q22 := eq_true q22) | ((with_reducible refine gate_callee (f := 64) rfl ?_); refine goesL_ (some 34) rfl rfl Tryd.func64 (by kernel_rfl) rfl #[.int .u8 (bt a0_0 a1)] rfl (by (try simp only [List.map_toArray, List.map_cons, List.map_nil]); first | done | rfl | (simp only [List.length_drop, List.length_take]; rfl)) ?_; (with_reducible refine (riverbankref02_Kind.calls kj2 (bt a0_0 a1) t661 _ A23.out).mono ?_); rintro e w' ⟨rfl, ⟨nd, rfl⟩⟩; refine ⟨_, rfl, ?_⟩) | ((with_reducible refine gate_callee (f := 82) rfl ?_); refine goesL_ (some 43) rfl rfl Tryd.func82 (by kernel_rfl) rfl #[.agg #[.string t660, .int .i64 a0_1, .int .i64 a0_2, .int .i64 a0_3]] rfl (by (try simp only [List.map_toArray, List.map_cons, List.map_nil]); first | done | rfl | (simp only [List.length_drop, List.length_take]; rfl)) ?_; (with_reducible refine (place_Check.calls kj2 t660 a0_1 a0_2 a0_3 t664 _ A47.out).mono ?_); rintro e w68 ⟨rfl, hb⟩; refine ⟨_, rfl, ?_⟩; have n0_ := Aside0.mk (blk_below (g := gb656) (o := .cells #[.string a0_0, .int .i64 a0_1, .int .i64 a0_2, .int .i64 a0_3] 74 (0, 0)) (by (with_reducible repeat (first | refine blk_drewN ?_ _ | refine blk_drew ?_ | refine blk_alloc ?_ _)); refine blk_far ?_ NB656_659.out _; (with_reducible repeat (first | refine blk_drewN ?_ _ | refine blk_drew ?_ | refine blk_alloc ?_ _)); exact BK656.out) hb); have n1_ := Aside0.mk (blk_below (g := gb659) (o := .cells #[.string t660, .int .i64 a0_1, .int .i64 a0_2, .int .i64 a0_3] 74 (0, 0)) (by (with_reducible repeat (first | refine blk_drewN ?_ _ | refine blk_drew ?_ | refine blk_alloc ?_ _)); refine blk_put (cs := #[.string a0_0, .int .i64 a0_1, .int .i64 a0_2, .int .i64 a0_3]) ?_ 0 _ rfl; (with_reducible repeat (first | refine blk_drewN ?_ _ | refine blk_drew ?_ | refine blk_alloc ?_ _)); exact BK659.out) hb); have n2_ := Aside0.mk (below_step (by repeat (first | (with_reducible first | exact HB.out | apply below_alloc | apply pw_below_drewN | apply below_drew1 | refine below_set ?_ GE656.out | refine below_set ?_ GE659.out) | exact HB.out)) hb); clear BK656; clear BK659; clear HB; have BK656 := n0_; have BK659 := n1_; have HB := n2_; clear n0_ n1_ n2_; (try clear hb); (try clear hb2); (try clear hk); (try clear hi)))
                go_ret
                exact ⟨by first | rfl | (simp [errW_none, errW_some] <;> rfl) | (simp [*, errW_none, errW_some] <;> rfl), by repeat (first | (with_reducible first | exact HB.out | apply below_alloc | apply pw_below_drewN | apply below_drew1 | refine below_set ?_ GE656.out | refine below_set ?_ GE659.out) | exact HB.out)⟩
          · rw [if_neg c21] at H
            exact absurd H (by simp)
        · rw [if_neg c20] at H
          exact absurd H (by simp)

end Go.Proofs.YtkbimiimgcklaaaDoor.Print
