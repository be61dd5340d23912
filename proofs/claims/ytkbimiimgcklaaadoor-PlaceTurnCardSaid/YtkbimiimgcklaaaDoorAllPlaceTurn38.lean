/- Merged by a program of this session (wip/gprint/merge.py): what this claim needs of this session's texts, each part as it was. -/
import Derived.Test.YtkbimiimgcklaaaDoorAllPlaceTurn7
import Derived.Test.YtkbimiimgcklaaaDoorAllPlaceTurn14
import Derived.Test.YtkbimiimgcklaaaDoorAllPlaceTurn27
import Derived.Test.YtkbimiimgcklaaaDoorAllPlaceTurn21
import Derived.Test.YtkbimiimgcklaaaDoorAllPlaceTurn19
import Derived.Test.YtkbimiimgcklaaaDoorAllPlaceTurn9
import Derived.Test.YtkbimiimgcklaaaDoorAllPlaceTurn33
import Derived.Test.YtkbimiimgcklaaaDoorAllPlaceTurn37
import Derived.Test.YtkbimiimgcklaaaDoorAllPlaceTurn8
import Derived.Test.YtkbimiimgcklaaaDoorAllPlaceTurn11
import Derived.Test.YtkbimiimgcklaaaDoorAllPlaceTurn12
import Derived.Test.YtkbimiimgcklaaaDoorAllPlaceTurn16
import Derived.Test.YtkbimiimgcklaaaDoorAllPlaceTurn17
import Derived.Test.YtkbimiimgcklaaaDoorAllPlaceTurn18
import Derived.Test.YtkbimiimgcklaaaDoorAllPlaceTurn22
import Derived.Test.YtkbimiimgcklaaaDoorAllPlaceTurn28
import Derived.Test.YtkbimiimgcklaaaDoorAllPlaceTurn29
import Derived.Test.YtkbimiimgcklaaaDoorAllPlaceTurn26
import Derived.Test.YtkbimiimgcklaaaDoorAllPlaceTurn32
import Derived.Test.YtkbimiimgcklaaaDoorAllPlaceTurn13
namespace Go.Proofs.YtkbimiimgcklaaaDoor.Print
end Go.Proofs.YtkbimiimgcklaaaDoor.Print

-- of YtkbimiimgcklaaaDoorPrint44
-- Written by a program of this session (wip/gprint/gprint.py) over the kit's print; the parts marked GIVEN by hand.
namespace Go.Proofs.YtkbimiimgcklaaaDoor.Print
open Go.RowKit Go.Proofs.YtkbimiimgcklaaaDoorW.PrintWords Go.Proofs.YtkbimiimgcklaaaDoorW.PrintLast Go.Proofs.YtkbimiimgcklaaaDoorW.PrintMore
attribute [local go_sem] max2_int min2_int max_two min_two max_three min_three max_four min_four   -- for this text's walks alone
set_option linter.unusedVariables false
set_option linter.unusedSimpArgs false

/-! ### place_Points: function 73 -/
def place_Points.l0 : Nat → Int → Int → Int → Int → Option (List Int)
  | 0, _, _, _, _ => none
  | k + 1, x0, x5, x566000, x566001 => if x5 < 90 then ((place_May.f k x0 x5).bind fun t569 => (if t569 = true then ((bits_Set_With.f k x566000 x566001 x5).bind fun bt570 => (place_Points.l0 k x0 (wrap64 (x5 + 1)) bt570.1 bt570.2)) else (place_Points.l0 k x0 (wrap64 (x5 + 1)) x566000 x566001))) else ((bits_Set_List.f x566000 x566001).bind fun t566 => (some t566))
def place_Points.f (k : Nat) (a0 : Int) : Option (List Int) := place_Points.l0 k a0 0 0 0
theorem place_Points.mono_l : ∀ k, (∀ y0 y1 y2 y3, LeO (place_Points.l0 k y0 y1 y2 y3) (place_Points.l0 (k + 1) y0 y1 y2 y3))
  | 0 => fun _ _ _ _ r h => by simp [place_Points.l0] at h
  | k + 1 => by
    have ih0 := place_Points.mono_l k
    · intro y0 y1 y2 y3
      unfold place_Points.l0
      repeat' first
      | (with_reducible exact ih0 _ _ _ _)
      | (with_reducible exact bits_Set_With.mono _ _ _ _)
      | (with_reducible exact place_May.mono _ _ _)
      | (with_reducible exact LeO.refl _)
      | (with_reducible exact LeO.none _)
      | (with_reducible refine LeO.ite ?_ ?_)
      | (with_reducible refine LeO.bind ?_ (fun _ => ?_))
      | exact ih0 _ _ _ _
      | exact bits_Set_With.mono _ _ _ _
      | exact place_May.mono _ _ _
      | exact LeO.none _
      | refine LeO.ite ?_ ?_
      | refine LeO.bind ?_ (fun _ => ?_)
theorem place_Points.mono : ∀ a0 k, LeO (place_Points.f k a0) (place_Points.f (k + 1) a0) := by
  intro a0 k
  have ih0 := place_Points.mono_l k
  unfold place_Points.f
  repeat' first
      | (with_reducible exact ih0 _ _ _ _)
      | (with_reducible exact bits_Set_With.mono _ _ _ _)
      | (with_reducible exact place_May.mono _ _ _)
      | (with_reducible exact LeO.refl _)
      | (with_reducible exact LeO.none _)
      | (with_reducible refine LeO.ite ?_ ?_)
      | (with_reducible refine LeO.bind ?_ (fun _ => ?_))
      | exact ih0 _ _ _ _
      | exact bits_Set_With.mono _ _ _ _
      | exact place_May.mono _ _ _
      | exact LeO.none _
      | refine LeO.ite ?_ ?_
      | refine LeO.bind ?_ (fun _ => ?_)
set_option maxHeartbeats 8000000 in
set_option maxRecDepth 100000 in
theorem place_Points.calls (k : Nat) (a0 : Int) (r : List Int) (w : World) (hT : TabHere w) (h : place_Points.f k a0 = some r) :
    Calls Tryd.prog 73 #[.int .u8 a0] w fun e w' => ∃ v0_ : Value, e = .returned (v0_) ∧ Kd.R (Kd.int .i64) 3 w' w.heap.size (fun _ => True) v0_ r ∧ Below w.heap.size w w' := by
  have HT := Aside0.mk hT
  clear hT
  have hu24 := Tryd.underlying24
  have HB := Aside0.mk (Below.refl w.heap.size w)
  have H : (place_Points.l0 k a0 0 0 0) = some r := h
  clear h
  have H' := Aside0.mk H
  clear H
  go_enter Tryd.func73, Tryd.ntmps73
  go_wp2_with (first | ((with_reducible refine gate_dst (N := 3) rfl ?_); refine box_event ?hg (N := 3) ?hd (cs := #[.int .u64 0, .int .u64 0]) (t := 24) ?hr ?_; (case hd => rfl); (case hg => rfl); (case hr => first | (go_simp; done) | (go_simp; rfl)); intro gb565 hg w2 hbox hb; have n0_ := Aside0.mk (below_step (by repeat (first | (with_reducible first | exact HB.out | apply below_alloc | apply pw_below_drewN | apply below_drew1) | exact HB.out)) hb); have n1_ := Aside0.mk (hbox); have n2_ := Aside0.mk ((by rw [hg]; exact (below_size (by repeat (first | (with_reducible first | exact HB.out | apply below_alloc | apply pw_below_drewN | apply below_drew1) | exact HB.out))) : w.heap.size ≤ gb565)); have n3_ := Aside0.mk ((by rw [hg]; exact (below_size (by repeat (first | (with_reducible first | exact HB.out | apply below_alloc | apply pw_below_drewN | apply below_drew1) | exact HB.out))) : w.heap.size ≤ gb565)); clear HB; have HB := n0_; have BK565 := n1_; have GW565 := n2_; have GE565 := n3_; clear n0_ n1_ n2_ n3_; clear hb hbox hg))
  go_loopg [5] k (fun kq v5 w' => ∃ (x5_1 : Int) (x566000_1 : Int) (x566001_1 : Int), v5 = .int .i64 x5_1 ∧ Aside0 (place_Points.l0 kq a0 x5_1 x566000_1 x566001_1 = some r) ∧ Aside0 (kq ≤ k) ∧ Aside0 (w'.heap[gb565]? = some (.cells #[.int .u64 x566000_1, .int .u64 x566001_1] 24 (0, 0))) ∧ Aside0 (Below w.heap.size w w'))
  case atStart => exact ⟨(0), (0), (0), (by first | rfl | (simp; done) | (simp [*]; done)), H', ⟨Nat.le_refl _⟩, ⟨by (with_reducible repeat (first | refine blk_drewN ?_ _ | refine blk_drew ?_ | refine blk_alloc ?_ _)); exact BK565.out⟩, ⟨by repeat (first | (with_reducible first | exact HB.out | apply below_alloc | apply pw_below_drewN | apply below_drew1 | refine below_set ?_ GE565.out) | exact HB.out)⟩⟩
  case round =>
    clear H'
    try clear p2
    obtain ⟨x5_1, x566000_1, x566001_1, rfl, HA, HK1, BK565, HB⟩ := hrel
    cases gk with
    | zero => exact absurd HA.out (by simp [place_Points.l0])
    | succ k1 =>
      have H := HA.out
      clear HA
      simp only [place_Points.l0] at H
      by_cases c3 : x5_1 < 90
      · rw [if_pos c3] at H
        have c3b0 : decide (x5_1 < 90) = true := decide_eq_true c3
        clear c3
        replace H := Option.bind_eq_some_iff.mp H
        obtain ⟨t569, A40, H⟩ := H
        replace H : (if t569 = true then ((bits_Set_With.f k1 x566000_1 x566001_1 x5_1).bind fun bt570 => (place_Points.l0 k1 a0 (wrap64 (x5_1 + 1)) bt570.1 bt570.2)) else (place_Points.l0 k1 a0 (wrap64 (x5_1 + 1)) x566000_1 x566001_1)) = some r := H
        have A4 := Aside0.mk A40
        clear A40
        by_cases c5 : t569 = true
        · subst c5
          have H1 : ((bits_Set_With.f k1 x566000_1 x566001_1 x5_1).bind fun bt570 => (place_Points.l0 k1 a0 (wrap64 (x5_1 + 1)) bt570.1 bt570.2)) = some r := by rw [if_pos rfl] at H; exact H
          clear H
          have H := H1
          clear H1
          replace H := Option.bind_eq_some_iff.mp H
          obtain ⟨⟨t570, t571⟩, A60, H⟩ := H
          replace H : (place_Points.l0 k1 a0 (wrap64 (x5_1 + 1)) t570 t571) = some r := H
          have A6 := Aside0.mk A60
          clear A60
          have H' := Aside0.mk H
          clear H
          go_wp2_with (first | ((with_reducible refine gate_callee (f := 71) rfl ?_); refine goesL_ (some 10) rfl rfl Tryd.func71 (by kernel_rfl) rfl #[.int .u8 a0, .int .i64 x5_1] rfl (by (try simp only [List.map_toArray, List.map_cons, List.map_nil]); first | done | rfl | (simp only [List.length_drop, List.length_take]; rfl)) ?_; (with_reducible refine (place_May.calls k1 a0 x5_1 true _ A4.out).mono ?_); rintro e w7 ⟨rfl, hb⟩; refine ⟨_, rfl, ?_⟩; have n0_ := Aside0.mk (blk_below (g := gb565) (o := .cells #[.int .u64 x566000_1, .int .u64 x566001_1] 24 (0, 0)) (by (with_reducible repeat (first | refine blk_drewN ?_ _ | refine blk_drew ?_ | refine blk_alloc ?_ _)); exact BK565.out) hb); have n1_ := Aside0.mk (below_step (by repeat (first | (with_reducible first | exact HB.out | apply below_alloc | apply pw_below_drewN | apply below_drew1 | refine below_set ?_ GE565.out) | exact HB.out)) hb); clear BK565; clear HB; have BK565 := n0_; have HB := n1_; clear n0_ n1_; (try clear hb); (try clear hb2); (try clear hk); (try clear hi); have hcz8_0 : w7.cell? ⟨gb565, 0, none⟩ = some (.int .u64 x566000_1) := (blk_cell BK565.out 0).trans rfl; have hcz8_1 : w7.cell? ⟨gb565, 1, none⟩ = some (.int .u64 x566001_1) := (blk_cell BK565.out 1).trans rfl; have hfz8_0 := blk_frozen BK565.out 0; have hfz8_1 := blk_frozen BK565.out 1) | ((with_reducible refine gate_callee (f := 38) rfl ?_); refine goesL_ (some 13) rfl rfl Tryd.func38 (by kernel_rfl) rfl #[.agg #[.int .u64 x566000_1, .int .u64 x566001_1], .int .i64 x5_1] rfl (by (try simp only [List.map_toArray, List.map_cons, List.map_nil]); first | done | rfl | (simp only [List.length_drop, List.length_take]; rfl)) ?_; (with_reducible refine (bits_Set_With.calls k1 x566000_1 x566001_1 x5_1 t570 t571 _ A6.out).mono ?_); rintro e w9 ⟨rfl, hb⟩; refine ⟨_, rfl, ?_⟩; have n0_ := Aside0.mk (blk_below (g := gb565) (o := .cells #[.int .u64 x566000_1, .int .u64 x566001_1] 24 (0, 0)) (by (with_reducible repeat (first | refine blk_drewN ?_ _ | refine blk_drew ?_ | refine blk_alloc ?_ _)); exact BK565.out) hb); have n1_ := Aside0.mk (below_step (by repeat (first | (with_reducible first | exact HB.out | apply below_alloc | apply pw_below_drewN | apply below_drew1 | refine below_set ?_ GE565.out) | exact HB.out)) hb); clear BK565; clear HB; have BK565 := n0_; have HB := n1_; clear n0_ n1_; (try clear hb); (try clear hb2); (try clear hk); (try clear hi); have hcz10_0 : w9.cell? ⟨gb565, 0, none⟩ = some (.int .u64 x566000_1) := (blk_cell BK565.out 0).trans rfl; have hcz10_1 : w9.cell? ⟨gb565, 1, none⟩ = some (.int .u64 x566001_1) := (blk_cell BK565.out 1).trans rfl; have hfz10_0 := blk_frozen BK565.out 0; have hfz10_1 := blk_frozen BK565.out 1))
          go_roundg k1
          case measure => have := HK1.out; omega
          case rel => exact ⟨(wrap64 (x5_1 + 1)), (t570), (t571), (by first | rfl | (simp; done) | (simp [*]; done)), H', ⟨by have := HK1.out; omega⟩, ⟨by (with_reducible repeat (first | refine blk_drewN ?_ _ | refine blk_drew ?_ | refine blk_alloc ?_ _)); refine blk_put (cs := #[.int .u64 t570, .int .u64 x566001_1]) ?_ 1 _ rfl; (with_reducible repeat (first | refine blk_drewN ?_ _ | refine blk_drew ?_ | refine blk_alloc ?_ _)); refine blk_put (cs := #[.int .u64 x566000_1, .int .u64 x566001_1]) ?_ 0 _ rfl; (with_reducible repeat (first | refine blk_drewN ?_ _ | refine blk_drew ?_ | refine blk_alloc ?_ _)); exact BK565.out⟩, ⟨by repeat (first | (with_reducible first | exact HB.out | apply below_alloc | apply pw_below_drewN | apply below_drew1 | refine below_set ?_ GE565.out) | exact HB.out)⟩⟩
        · replace c5 := Bool.eq_false_iff.mpr c5
          subst c5
          have H1 : (place_Points.l0 k1 a0 (wrap64 (x5_1 + 1)) x566000_1 x566001_1) = some r := by rw [if_neg (show ¬ (false = true) by decide)] at H; exact H
          clear H
          have H := H1
          clear H1
          have H' := Aside0.mk H
          clear H
          go_wp2_with (first | ((with_reducible refine gate_callee (f := 71) rfl ?_); refine goesL_ (some 10) rfl rfl Tryd.func71 (by kernel_rfl) rfl #[.int .u8 a0, .int .i64 x5_1] rfl (by (try simp only [List.map_toArray, List.map_cons, List.map_nil]); first | done | rfl | (simp only [List.length_drop, List.length_take]; rfl)) ?_; (with_reducible refine (place_May.calls k1 a0 x5_1 false _ A4.out).mono ?_); rintro e w11 ⟨rfl, hb⟩; refine ⟨_, rfl, ?_⟩; have n0_ := Aside0.mk (blk_below (g := gb565) (o := .cells #[.int .u64 x566000_1, .int .u64 x566001_1] 24 (0, 0)) (by (with_reducible repeat (first | refine blk_drewN ?_ _ | refine blk_drew ?_ | refine blk_alloc ?_ _)); exact BK565.out) hb); have n1_ := Aside0.mk (below_step (by repeat (first | (with_reducible first | exact HB.out | apply below_alloc | apply pw_below_drewN | apply below_drew1 | refine below_set ?_ GE565.out) | exact HB.out)) hb); clear BK565; clear HB; have BK565 := n0_; have HB := n1_; clear n0_ n1_; (try clear hb); (try clear hb2); (try clear hk); (try clear hi)))
          go_roundg k1
          case measure => have := HK1.out; omega
          case rel => exact ⟨(wrap64 (x5_1 + 1)), (x566000_1), (x566001_1), (by first | rfl | (simp; done) | (simp [*]; done)), H', ⟨by have := HK1.out; omega⟩, ⟨by (with_reducible repeat (first | refine blk_drewN ?_ _ | refine blk_drew ?_ | refine blk_alloc ?_ _)); exact BK565.out⟩, ⟨by repeat (first | (with_reducible first | exact HB.out | apply below_alloc | apply pw_below_drewN | apply below_drew1 | refine below_set ?_ GE565.out) | exact HB.out)⟩⟩
      · rw [if_neg c3] at H
        have c3b0 : decide (x5_1 < 90) = false := decide_eq_false c3
        clear c3
        replace H := Option.bind_eq_some_iff.mp H
        obtain ⟨t566, A120, H⟩ := H
        replace H : (some t566) = some r := H
        have A12 := Aside0.mk A120
        clear A120
        obtain rfl := Option.some.inj H
        have hcz13_0 : wr.cell? ⟨gb565, 0, none⟩ = some (.int .u64 x566000_1) := (blk_cell BK565.out 0).trans rfl
        have hcz13_1 : wr.cell? ⟨gb565, 1, none⟩ = some (.int .u64 x566001_1) := (blk_cell BK565.out 1).trans rfl
        have hfz13_0 := blk_frozen BK565.out 0
        have hfz13_1 := blk_frozen BK565.out 1
        go_wp2_with (first | ((with_reducible refine gate_callee (f := 33) rfl ?_); refine goesL_ (some 16) rfl rfl Tryd.func33 (by kernel_rfl) rfl #[.agg #[.int .u64 x566000_1, .int .u64 x566001_1]] rfl (by (try simp only [List.map_toArray, List.map_cons, List.map_nil]); first | done | rfl | (simp only [List.length_drop, List.length_take]; rfl)) ?_; (with_reducible refine (bits_Set_List.calls x566000_1 x566001_1 t566 _ (tab_of HT.out (by repeat (first | (with_reducible first | exact HB.out | apply below_alloc | apply pw_below_drewN | apply below_drew1 | refine below_set ?_ GE565.out) | exact HB.out))) A12.out).mono ?_); rintro e w14 ⟨v567, rfl, ho0, hb⟩; refine ⟨_, rfl, ?_⟩; have n0_ := Aside0.mk (Kd.R_lower ho0 (below_size (by repeat (first | (with_reducible first | exact HB.out | apply below_alloc | apply pw_below_drewN | apply below_drew1 | refine below_set ?_ GE565.out) | exact HB.out)))); have n1_ := Aside0.mk (blk_below (g := gb565) (o := .cells #[.int .u64 x566000_1, .int .u64 x566001_1] 24 (0, 0)) (by (with_reducible repeat (first | refine blk_drewN ?_ _ | refine blk_drew ?_ | refine blk_alloc ?_ _)); exact BK565.out) hb); have n2_ := Aside0.mk (below_step (by repeat (first | (with_reducible first | exact HB.out | apply below_alloc | apply pw_below_drewN | apply below_drew1 | refine below_set ?_ GE565.out) | exact HB.out)) hb); clear BK565; clear HB; have HO568 := n0_; have BK565 := n1_; have HB := n2_; clear n0_ n1_ n2_; (try clear hb); (try clear hb2); (try clear hk); (try clear hi); (try clear ho0)))
        go_ret
        exact ⟨_, by first | rfl | (simp [errW_none, errW_some] <;> rfl) | (simp [*, errW_none, errW_some] <;> rfl), by (with_reducible repeat (first | apply Kd.R_alloc | apply Kd.R_drewN | apply Kd.R_drew)); exact HO568.out, by repeat (first | (with_reducible first | exact HB.out | apply below_alloc | apply pw_below_drewN | apply below_drew1 | refine below_set ?_ GE565.out) | exact HB.out)⟩

/-! ### place_Most: function 75 -/
def place_Most.f (a0 : Int) : Option (Int) := (board_Kind.f a0).bind fun t576 => (if t576 = 0 then (some 0) else (if t576 = 75 then (some 1) else (if t576 = 80 then (some 5) else (some 2))))
set_option maxHeartbeats 8000000 in
set_option maxRecDepth 100000 in
theorem place_Most.calls (a0 : Int) (r : Int) (w : World) (h : place_Most.f a0 = some r) :
    Calls Tryd.prog 75 #[.int .u8 a0] w fun e w' => e = .returned (.int .i64 r) ∧ Drawn0 w w' := by
  have H : ((board_Kind.f a0).bind fun t576 => (if t576 = 0 then (some 0) else (if t576 = 75 then (some 1) else (if t576 = 80 then (some 5) else (some 2))))) = some r := h
  clear h
  replace H := Option.bind_eq_some_iff.mp H
  obtain ⟨t576, A20, H⟩ := H
  replace H : (if t576 = 0 then (some 0) else (if t576 = 75 then (some 1) else (if t576 = 80 then (some 5) else (some 2)))) = some r := H
  have A2 := Aside0.mk A20
  clear A20
  by_cases c3 : t576 = 0
  · rw [if_pos c3] at H
    have c3b0 : (t576 == 0) = true := beq_iff_eq.mpr c3
    have c3b1 : (t576 != 0) = false := bne_eq_false_iff_eq.mpr c3
    clear c3
    obtain rfl := Option.some.inj H
    go_enter Tryd.func75, Tryd.ntmps75
    go_wp2_with (first | ((with_reducible refine gate_callee (f := 63) rfl ?_); refine goesL_ (some 4) rfl rfl Tryd.func63 (by kernel_rfl) rfl #[.int .u8 a0] rfl (by (try simp only [List.map_toArray, List.map_cons, List.map_nil]); first | done | rfl | (simp only [List.length_drop, List.length_take]; rfl)) ?_; (with_reducible refine (board_Kind.calls a0 t576 _ A2.out).mono ?_); rintro e w' ⟨rfl, ⟨nd, rfl⟩⟩; refine ⟨_, rfl, ?_⟩))
    go_ret
    exact ⟨by first | rfl | (simp; done) | (simp [*]; done), by repeat (first | exact Drawn0.refl _ | apply Drawn0.step)⟩
  · rw [if_neg c3] at H
    have c3b0 : (t576 == 0) = false := beq_eq_false_iff_ne.mpr c3
    have c3b1 : (t576 != 0) = true := bne_iff_ne.mpr c3
    by_cases c4 : t576 = 75
    · rw [if_pos c4] at H
      have c4b0 : (t576 == 75) = true := beq_iff_eq.mpr c4
      have c4b1 : (t576 != 75) = false := bne_eq_false_iff_eq.mpr c4
      clear c4
      obtain rfl := Option.some.inj H
      go_enter Tryd.func75, Tryd.ntmps75
      go_wp2_with (first | ((with_reducible refine gate_callee (f := 63) rfl ?_); refine goesL_ (some 4) rfl rfl Tryd.func63 (by kernel_rfl) rfl #[.int .u8 a0] rfl (by (try simp only [List.map_toArray, List.map_cons, List.map_nil]); first | done | rfl | (simp only [List.length_drop, List.length_take]; rfl)) ?_; (with_reducible refine (board_Kind.calls a0 t576 _ A2.out).mono ?_); rintro e w' ⟨rfl, ⟨nd, rfl⟩⟩; refine ⟨_, rfl, ?_⟩))
      go_ret
      exact ⟨by first | rfl | (simp; done) | (simp [*]; done), by repeat (first | exact Drawn0.refl _ | apply Drawn0.step)⟩
    · rw [if_neg c4] at H
      have c4b0 : (t576 == 75) = false := beq_eq_false_iff_ne.mpr c4
      have c4b1 : (t576 != 75) = true := bne_iff_ne.mpr c4
      by_cases c5 : t576 = 80
      · rw [if_pos c5] at H
        have c5b0 : (t576 == 80) = true := beq_iff_eq.mpr c5
        have c5b1 : (t576 != 80) = false := bne_eq_false_iff_eq.mpr c5
        clear c5
        obtain rfl := Option.some.inj H
        go_enter Tryd.func75, Tryd.ntmps75
        go_wp2_with (first | ((with_reducible refine gate_callee (f := 63) rfl ?_); refine goesL_ (some 4) rfl rfl Tryd.func63 (by kernel_rfl) rfl #[.int .u8 a0] rfl (by (try simp only [List.map_toArray, List.map_cons, List.map_nil]); first | done | rfl | (simp only [List.length_drop, List.length_take]; rfl)) ?_; (with_reducible refine (board_Kind.calls a0 t576 _ A2.out).mono ?_); rintro e w' ⟨rfl, ⟨nd, rfl⟩⟩; refine ⟨_, rfl, ?_⟩))
        go_ret
        exact ⟨by first | rfl | (simp; done) | (simp [*]; done), by repeat (first | exact Drawn0.refl _ | apply Drawn0.step)⟩
      · rw [if_neg c5] at H
        have c5b0 : (t576 == 80) = false := beq_eq_false_iff_ne.mpr c5
        have c5b1 : (t576 != 80) = true := bne_iff_ne.mpr c5
        obtain rfl := Option.some.inj H
        go_enter Tryd.func75, Tryd.ntmps75
        go_wp2_with (first | ((with_reducible refine gate_callee (f := 63) rfl ?_); refine goesL_ (some 4) rfl rfl Tryd.func63 (by kernel_rfl) rfl #[.int .u8 a0] rfl (by (try simp only [List.map_toArray, List.map_cons, List.map_nil]); first | done | rfl | (simp only [List.length_drop, List.length_take]; rfl)) ?_; (with_reducible refine (board_Kind.calls a0 t576 _ A2.out).mono ?_); rintro e w' ⟨rfl, ⟨nd, rfl⟩⟩; refine ⟨_, rfl, ?_⟩))
        go_ret
        exact ⟨by first | rfl | (simp; done) | (simp [*]; done), by repeat (first | exact Drawn0.refl _ | apply Drawn0.step)⟩

/-! ### place_Palace: function 77 -/
def place_Palace.f (k : Nat) (a0 : Int) (a1 : Int) : Option (Bool) := (place_seen.f k a0 a1).bind fun bt578 => (if bt578.2.2 = true then ((place_spot_palace.f bt578.1 bt578.2.1).bind fun t582 => (some t582)) else (some false))
theorem place_Palace.mono : ∀ a0 a1 k, LeO (place_Palace.f k a0 a1) (place_Palace.f (k + 1) a0 a1) := by
  intro a0 a1 k
  unfold place_Palace.f
  repeat' first
      | (with_reducible exact place_seen.mono _ _ _)
      | (with_reducible exact LeO.refl _)
      | (with_reducible exact LeO.none _)
      | (with_reducible refine LeO.ite ?_ ?_)
      | (with_reducible refine LeO.bind ?_ (fun _ => ?_))
      | exact place_seen.mono _ _ _
      | exact LeO.none _
      | refine LeO.ite ?_ ?_
      | refine LeO.bind ?_ (fun _ => ?_)
set_option maxHeartbeats 8000000 in
set_option maxRecDepth 100000 in
theorem place_Palace.calls (k : Nat) (a0 : Int) (a1 : Int) (r : Bool) (w : World) (h : place_Palace.f k a0 a1 = some r) :
    Calls Tryd.prog 77 #[.int .i64 a0, .int .i64 a1] w fun e w' => e = .returned (.bool r) ∧ Below w.heap.size w w' := by
  have hu100 := Tryd.underlying100
  have HB := Aside0.mk (Below.refl w.heap.size w)
  have H : ((place_seen.f k a0 a1).bind fun bt578 => (if bt578.2.2 = true then ((place_spot_palace.f bt578.1 bt578.2.1).bind fun t582 => (some t582)) else (some false))) = some r := h
  clear h
  replace H := Option.bind_eq_some_iff.mp H
  obtain ⟨⟨t578, t579, t580⟩, A30, H⟩ := H
  replace H : (if t580 = true then ((place_spot_palace.f t578 t579).bind fun t582 => (some t582)) else (some false)) = some r := H
  have A3 := Aside0.mk A30
  clear A30
  by_cases c4 : t580 = true
  · subst c4
    have H1 : ((place_spot_palace.f t578 t579).bind fun t582 => (some t582)) = some r := by rw [if_pos rfl] at H; exact H
    clear H
    have H := H1
    clear H1
    replace H := Option.bind_eq_some_iff.mp H
    obtain ⟨t582, A50, H⟩ := H
    replace H : (some t582) = some r := H
    have A5 := Aside0.mk A50
    clear A50
    obtain rfl := Option.some.inj H
    go_enter Tryd.func77, Tryd.ntmps77
    go_wp2_with (first | ((with_reducible refine gate_callee (f := 103) rfl ?_); refine goesL_ (some 10) rfl rfl Tryd.func103 (by kernel_rfl) rfl #[.int .i64 a0, .int .i64 a1] rfl (by (try simp only [List.map_toArray, List.map_cons, List.map_nil]); first | done | rfl | (simp only [List.length_drop, List.length_take]; rfl)) ?_; (with_reducible refine (place_seen.calls k a0 a1 t578 t579 true _ A3.out).mono ?_); rintro e w6 ⟨rfl, hb⟩; refine ⟨_, rfl, ?_⟩; have n0_ := Aside0.mk (below_step (by repeat (first | (with_reducible first | exact HB.out | apply below_alloc | apply pw_below_drewN | apply below_drew1) | exact HB.out)) hb); clear HB; have HB := n0_; clear n0_; (try clear hb); (try clear hb2); (try clear hk); (try clear hi)) | ((with_reducible refine gate_dst (N := 5) rfl ?_); refine box_event ?hg (N := 5) ?hd (cs := #[.int .i64 0, .int .i64 0]) (t := 100) ?hr ?_; (case hd => rfl); (case hg => rfl); (case hr => first | (go_simp; done) | (go_simp; rfl)); intro gb581 hg w7 hbox hb; have n0_ := Aside0.mk (below_step (by repeat (first | (with_reducible first | exact HB.out | apply below_alloc | apply pw_below_drewN | apply below_drew1) | exact HB.out)) hb); have n1_ := Aside0.mk (hbox); have n2_ := Aside0.mk ((by rw [hg]; exact (below_size (by repeat (first | (with_reducible first | exact HB.out | apply below_alloc | apply pw_below_drewN | apply below_drew1) | exact HB.out))) : w.heap.size ≤ gb581)); have n3_ := Aside0.mk ((by rw [hg]; exact (below_size (by repeat (first | (with_reducible first | exact HB.out | apply below_alloc | apply pw_below_drewN | apply below_drew1) | exact HB.out))) : w.heap.size ≤ gb581)); clear HB; have HB := n0_; have BK581 := n1_; have GW581 := n2_; have GE581 := n3_; clear n0_ n1_ n2_ n3_; clear hb hbox hg; have hcz8_0 : w7.cell? ⟨gb581, 0, none⟩ = some (.int .i64 0) := (blk_cell BK581.out 0).trans rfl; have hcz8_1 : w7.cell? ⟨gb581, 1, none⟩ = some (.int .i64 0) := (blk_cell BK581.out 1).trans rfl; have hfz8_0 := blk_frozen BK581.out 0; have hfz8_1 := blk_frozen BK581.out 1) | (go_at_call 104; (with_reducible refine (place_spot_palace.calls t578 t579 t582 _ A5.out).mono ?_); rintro e w9 ⟨rfl, hb⟩; have n0_ := Aside0.mk (blk_below (g := gb581) (o := .cells #[.int .i64 t578, .int .i64 t579] 100 (0, 0)) (by (with_reducible repeat (first | refine blk_drewN ?_ _ | refine blk_drew ?_ | refine blk_alloc ?_ _)); refine blk_put (cs := #[.int .i64 t578, .int .i64 0]) ?_ 1 _ rfl; (with_reducible repeat (first | refine blk_drewN ?_ _ | refine blk_drew ?_ | refine blk_alloc ?_ _)); refine blk_put (cs := #[.int .i64 0, .int .i64 0]) ?_ 0 _ rfl; (with_reducible repeat (first | refine blk_drewN ?_ _ | refine blk_drew ?_ | refine blk_alloc ?_ _)); exact BK581.out) hb); have n1_ := Aside0.mk (below_step (by repeat (first | (with_reducible first | exact HB.out | apply below_alloc | apply pw_below_drewN | apply below_drew1 | refine below_set ?_ GE581.out) | exact HB.out)) hb); clear BK581; clear HB; have BK581 := n0_; have HB := n1_; clear n0_ n1_; (try clear hb); (try clear hb2); (try clear hk); (try clear hi)))
    go_ret
    exact ⟨by first | rfl | (simp [errW_none, errW_some] <;> rfl) | (simp [*, errW_none, errW_some] <;> rfl), by repeat (first | (with_reducible first | exact HB.out | apply below_alloc | apply pw_below_drewN | apply below_drew1 | refine below_set ?_ GE581.out) | exact HB.out)⟩
  · replace c4 := Bool.eq_false_iff.mpr c4
    subst c4
    have H1 : (some false) = some r := by rw [if_neg (show ¬ (false = true) by decide)] at H; exact H
    clear H
    have H := H1
    clear H1
    obtain rfl := Option.some.inj H
    go_enter Tryd.func77, Tryd.ntmps77
    go_wp2_with (first | ((with_reducible refine gate_callee (f := 103) rfl ?_); refine goesL_ (some 10) rfl rfl Tryd.func103 (by kernel_rfl) rfl #[.int .i64 a0, .int .i64 a1] rfl (by (try simp only [List.map_toArray, List.map_cons, List.map_nil]); first | done | rfl | (simp only [List.length_drop, List.length_take]; rfl)) ?_; (with_reducible refine (place_seen.calls k a0 a1 t578 t579 false _ A3.out).mono ?_); rintro e w10 ⟨rfl, hb⟩; refine ⟨_, rfl, ?_⟩; have n0_ := Aside0.mk (below_step (by repeat (first | (with_reducible first | exact HB.out | apply below_alloc | apply pw_below_drewN | apply below_drew1) | exact HB.out)) hb); clear HB; have HB := n0_; clear n0_; (try clear hb); (try clear hb2); (try clear hk); (try clear hi)) | ((with_reducible refine gate_dst (N := 5) rfl ?_); refine box_event ?hg (N := 5) ?hd (cs := #[.int .i64 0, .int .i64 0]) (t := 100) ?hr ?_; (case hd => rfl); (case hg => rfl); (case hr => first | (go_simp; done) | (go_simp; rfl)); intro gb581 hg w11 hbox hb; have n0_ := Aside0.mk (below_step (by repeat (first | (with_reducible first | exact HB.out | apply below_alloc | apply pw_below_drewN | apply below_drew1) | exact HB.out)) hb); have n1_ := Aside0.mk (hbox); have n2_ := Aside0.mk ((by rw [hg]; exact (below_size (by repeat (first | (with_reducible first | exact HB.out | apply below_alloc | apply pw_below_drewN | apply below_drew1) | exact HB.out))) : w.heap.size ≤ gb581)); have n3_ := Aside0.mk ((by rw [hg]; exact (below_size (by repeat (first | (with_reducible first | exact HB.out | apply below_alloc | apply pw_below_drewN | apply below_drew1) | exact HB.out))) : w.heap.size ≤ gb581)); clear HB; have HB := n0_; have BK581 := n1_; have GW581 := n2_; have GE581 := n3_; clear n0_ n1_ n2_ n3_; clear hb hbox hg; have hcz12_0 : w11.cell? ⟨gb581, 0, none⟩ = some (.int .i64 0) := (blk_cell BK581.out 0).trans rfl; have hcz12_1 : w11.cell? ⟨gb581, 1, none⟩ = some (.int .i64 0) := (blk_cell BK581.out 1).trans rfl; have hfz12_0 := blk_frozen BK581.out 0; have hfz12_1 := blk_frozen BK581.out 1))
    go_ret
    exact ⟨by first | rfl | (simp [errW_none, errW_some] <;> rfl) | (simp [*, errW_none, errW_some] <;> rfl), by repeat (first | (with_reducible first | exact HB.out | apply below_alloc | apply pw_below_drewN | apply below_drew1 | refine below_set ?_ GE581.out) | exact HB.out)⟩

/-! ### place_Over: function 79 -/
def place_Over.f (k : Nat) (a0 : Int) (a1 : Int) : Option (Bool) := (place_seen.f k a0 a1).bind fun bt583 => (if bt583.2.2 = true then ((place_spot_over.f bt583.1 bt583.2.1).bind fun t587 => (some t587)) else (some false))
theorem place_Over.mono : ∀ a0 a1 k, LeO (place_Over.f k a0 a1) (place_Over.f (k + 1) a0 a1) := by
  intro a0 a1 k
  unfold place_Over.f
  repeat' first
      | (with_reducible exact place_seen.mono _ _ _)
      | (with_reducible exact LeO.refl _)
      | (with_reducible exact LeO.none _)
      | (with_reducible refine LeO.ite ?_ ?_)
      | (with_reducible refine LeO.bind ?_ (fun _ => ?_))
      | exact place_seen.mono _ _ _
      | exact LeO.none _
      | refine LeO.ite ?_ ?_
      | refine LeO.bind ?_ (fun _ => ?_)
set_option maxHeartbeats 8000000 in
set_option maxRecDepth 100000 in
theorem place_Over.calls (k : Nat) (a0 : Int) (a1 : Int) (r : Bool) (w : World) (h : place_Over.f k a0 a1 = some r) :
    Calls Tryd.prog 79 #[.int .i64 a0, .int .i64 a1] w fun e w' => e = .returned (.bool r) ∧ Below w.heap.size w w' := by
  have hu100 := Tryd.underlying100
  have HB := Aside0.mk (Below.refl w.heap.size w)
  have H : ((place_seen.f k a0 a1).bind fun bt583 => (if bt583.2.2 = true then ((place_spot_over.f bt583.1 bt583.2.1).bind fun t587 => (some t587)) else (some false))) = some r := h
  clear h
  replace H := Option.bind_eq_some_iff.mp H
  obtain ⟨⟨t583, t584, t585⟩, A30, H⟩ := H
  replace H : (if t585 = true then ((place_spot_over.f t583 t584).bind fun t587 => (some t587)) else (some false)) = some r := H
  have A3 := Aside0.mk A30
  clear A30
  by_cases c4 : t585 = true
  · subst c4
    have H1 : ((place_spot_over.f t583 t584).bind fun t587 => (some t587)) = some r := by rw [if_pos rfl] at H; exact H
    clear H
    have H := H1
    clear H1
    replace H := Option.bind_eq_some_iff.mp H
    obtain ⟨t587, A50, H⟩ := H
    replace H : (some t587) = some r := H
    have A5 := Aside0.mk A50
    clear A50
    obtain rfl := Option.some.inj H
    go_enter Tryd.func79, Tryd.ntmps79
    go_wp2_with (first | ((with_reducible refine gate_callee (f := 103) rfl ?_); refine goesL_ (some 10) rfl rfl Tryd.func103 (by kernel_rfl) rfl #[.int .i64 a0, .int .i64 a1] rfl (by (try simp only [List.map_toArray, List.map_cons, List.map_nil]); first | done | rfl | (simp only [List.length_drop, List.length_take]; rfl)) ?_; (with_reducible refine (place_seen.calls k a0 a1 t583 t584 true _ A3.out).mono ?_); rintro e w6 ⟨rfl, hb⟩; refine ⟨_, rfl, ?_⟩; have n0_ := Aside0.mk (below_step (by repeat (first | (with_reducible first | exact HB.out | apply below_alloc | apply pw_below_drewN | apply below_drew1) | exact HB.out)) hb); clear HB; have HB := n0_; clear n0_; (try clear hb); (try clear hb2); (try clear hk); (try clear hi)) | ((with_reducible refine gate_dst (N := 5) rfl ?_); refine box_event ?hg (N := 5) ?hd (cs := #[.int .i64 0, .int .i64 0]) (t := 100) ?hr ?_; (case hd => rfl); (case hg => rfl); (case hr => first | (go_simp; done) | (go_simp; rfl)); intro gb586 hg w7 hbox hb; have n0_ := Aside0.mk (below_step (by repeat (first | (with_reducible first | exact HB.out | apply below_alloc | apply pw_below_drewN | apply below_drew1) | exact HB.out)) hb); have n1_ := Aside0.mk (hbox); have n2_ := Aside0.mk ((by rw [hg]; exact (below_size (by repeat (first | (with_reducible first | exact HB.out | apply below_alloc | apply pw_below_drewN | apply below_drew1) | exact HB.out))) : w.heap.size ≤ gb586)); have n3_ := Aside0.mk ((by rw [hg]; exact (below_size (by repeat (first | (with_reducible first | exact HB.out | apply below_alloc | apply pw_below_drewN | apply below_drew1) | exact HB.out))) : w.heap.size ≤ gb586)); clear HB; have HB := n0_; have BK586 := n1_; have GW586 := n2_; have GE586 := n3_; clear n0_ n1_ n2_ n3_; clear hb hbox hg; have hcz8_0 : w7.cell? ⟨gb586, 0, none⟩ = some (.int .i64 0) := (blk_cell BK586.out 0).trans rfl; have hcz8_1 : w7.cell? ⟨gb586, 1, none⟩ = some (.int .i64 0) := (blk_cell BK586.out 1).trans rfl; have hfz8_0 := blk_frozen BK586.out 0; have hfz8_1 := blk_frozen BK586.out 1) | (go_at_call 112; (with_reducible refine (place_spot_over.calls t583 t584 t587 _ A5.out).mono ?_); rintro e w9 ⟨rfl, hb⟩; have n0_ := Aside0.mk (blk_below (g := gb586) (o := .cells #[.int .i64 t583, .int .i64 t584] 100 (0, 0)) (by (with_reducible repeat (first | refine blk_drewN ?_ _ | refine blk_drew ?_ | refine blk_alloc ?_ _)); refine blk_put (cs := #[.int .i64 t583, .int .i64 0]) ?_ 1 _ rfl; (with_reducible repeat (first | refine blk_drewN ?_ _ | refine blk_drew ?_ | refine blk_alloc ?_ _)); refine blk_put (cs := #[.int .i64 0, .int .i64 0]) ?_ 0 _ rfl; (with_reducible repeat (first | refine blk_drewN ?_ _ | refine blk_drew ?_ | refine blk_alloc ?_ _)); exact BK586.out) hb); have n1_ := Aside0.mk (below_step (by repeat (first | (with_reducible first | exact HB.out | apply below_alloc | apply pw_below_drewN | apply below_drew1 | refine below_set ?_ GE586.out) | exact HB.out)) hb); clear BK586; clear HB; have BK586 := n0_; have HB := n1_; clear n0_ n1_; (try clear hb); (try clear hb2); (try clear hk); (try clear hi)))
    go_ret
    exact ⟨by first | rfl | (simp [errW_none, errW_some] <;> rfl) | (simp [*, errW_none, errW_some] <;> rfl), by repeat (first | (with_reducible first | exact HB.out | apply below_alloc | apply pw_below_drewN | apply below_drew1 | refine below_set ?_ GE586.out) | exact HB.out)⟩
  · replace c4 := Bool.eq_false_iff.mpr c4
    subst c4
    have H1 : (some false) = some r := by rw [if_neg (show ¬ (false = true) by decide)] at H; exact H
    clear H
    have H := H1
    clear H1
    obtain rfl := Option.some.inj H
    go_enter Tryd.func79, Tryd.ntmps79
    go_wp2_with (first | ((with_reducible refine gate_callee (f := 103) rfl ?_); refine goesL_ (some 10) rfl rfl Tryd.func103 (by kernel_rfl) rfl #[.int .i64 a0, .int .i64 a1] rfl (by (try simp only [List.map_toArray, List.map_cons, List.map_nil]); first | done | rfl | (simp only [List.length_drop, List.length_take]; rfl)) ?_; (with_reducible refine (place_seen.calls k a0 a1 t583 t584 false _ A3.out).mono ?_); rintro e w10 ⟨rfl, hb⟩; refine ⟨_, rfl, ?_⟩; have n0_ := Aside0.mk (below_step (by repeat (first | (with_reducible first | exact HB.out | apply below_alloc | apply pw_below_drewN | apply below_drew1) | exact HB.out)) hb); clear HB; have HB := n0_; clear n0_; (try clear hb); (try clear hb2); (try clear hk); (try clear hi)) | ((with_reducible refine gate_dst (N := 5) rfl ?_); refine box_event ?hg (N := 5) ?hd (cs := #[.int .i64 0, .int .i64 0]) (t := 100) ?hr ?_; (case hd => rfl); (case hg => rfl); (case hr => first | (go_simp; done) | (go_simp; rfl)); intro gb586 hg w11 hbox hb; have n0_ := Aside0.mk (below_step (by repeat (first | (with_reducible first | exact HB.out | apply below_alloc | apply pw_below_drewN | apply below_drew1) | exact HB.out)) hb); have n1_ := Aside0.mk (hbox); have n2_ := Aside0.mk ((by rw [hg]; exact (below_size (by repeat (first | (with_reducible first | exact HB.out | apply below_alloc | apply pw_below_drewN | apply below_drew1) | exact HB.out))) : w.heap.size ≤ gb586)); have n3_ := Aside0.mk ((by rw [hg]; exact (below_size (by repeat (first | (with_reducible first | exact HB.out | apply below_alloc | apply pw_below_drewN | apply below_drew1) | exact HB.out))) : w.heap.size ≤ gb586)); clear HB; have HB := n0_; have BK586 := n1_; have GW586 := n2_; have GE586 := n3_; clear n0_ n1_ n2_ n3_; clear hb hbox hg; have hcz12_0 : w11.cell? ⟨gb586, 0, none⟩ = some (.int .i64 0) := (blk_cell BK586.out 0).trans rfl; have hcz12_1 : w11.cell? ⟨gb586, 1, none⟩ = some (.int .i64 0) := (blk_cell BK586.out 1).trans rfl; have hfz12_0 := blk_frozen BK586.out 0; have hfz12_1 := blk_frozen BK586.out 1))
    go_ret
    exact ⟨by first | rfl | (simp [errW_none, errW_some] <;> rfl) | (simp [*, errW_none, errW_some] <;> rfl), by repeat (first | (with_reducible first | exact HB.out | apply below_alloc | apply pw_below_drewN | apply below_drew1 | refine below_set ?_ GE586.out) | exact HB.out)⟩

end Go.Proofs.YtkbimiimgcklaaaDoor.Print
