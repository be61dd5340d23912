/- Merged by a program of this session (wip/gprint/merge.py): what this claim needs of this session's texts, each part as it was. -/
import Derived.Test.YtkbimiimgcklaaaDoorAllPlaceTurn7
import Derived.Test.YtkbimiimgcklaaaDoorAllPlaceTurn14
import Derived.Test.YtkbimiimgcklaaaDoorAllPlaceTurn12
import Derived.Test.YtkbimiimgcklaaaDoorAllPlaceTurn16
import Derived.Test.YtkbimiimgcklaaaDoorAllPlaceTurn17
import Derived.Test.YtkbimiimgcklaaaDoorAllPlaceTurn18
import Derived.Test.YtkbimiimgcklaaaDoorAllPlaceTurn29
import Derived.Test.YtkbimiimgcklaaaDoorAllPlaceTurn26
import Derived.Test.YtkbimiimgcklaaaDoorAllPlaceTurn19
import Derived.Test.YtkbimiimgcklaaaDoorAllPlaceTurn32
namespace Go.Proofs.YtkbimiimgcklaaaDoor.Print
end Go.Proofs.YtkbimiimgcklaaaDoor.Print

-- of YtkbimiimgcklaaaDoorPrint38
-- Written by a program of this session (wip/gprint/gprint.py) over the kit's print; the parts marked GIVEN by hand.
namespace Go.Proofs.YtkbimiimgcklaaaDoor.Print
open Go.RowKit Go.Proofs.YtkbimiimgcklaaaDoorW.PrintWords Go.Proofs.YtkbimiimgcklaaaDoorW.PrintLast Go.Proofs.YtkbimiimgcklaaaDoorW.PrintMore
attribute [local go_sem] max2_int min2_int max_two min_two max_three min_three max_four min_four   -- for this text's walks alone
set_option linter.unusedVariables false
set_option linter.unusedSimpArgs false

/-! ### riverbanklaw02_BoardTurn: function 12 -/
mutual
def riverbanklaw02_BoardTurn.j0 : Nat → ByteArray → Int → ByteArray → Bool → Option (Bool)
  | 0, _, _, _, _ => none
  | k + 1, x0, x1, x5, x34 => if x34 = true then (some false) else (if x1 < 0 then (riverbanklaw02_BoardTurn.j1 k x0 x1 x5 true) else (riverbanklaw02_BoardTurn.j1 k x0 x1 x5 (decide (x1 > 89))))
def riverbanklaw02_BoardTurn.j1 : Nat → ByteArray → Int → ByteArray → Bool → Option (Bool)
  | 0, _, _, _, _ => none
  | k + 1, x0, x1, x5, x40 => if x40 = true then ((riverbanklaw02_live.f).bind fun t484 => (some t484)) else ((board_At.f x0 x1).bind fun t485 => ((board_At.f x5 (wrap64 (89 - x1))).bind fun t486 => ((board_Kind.f t485).bind fun t487 => ((board_Kind.f t486).bind fun t488 => (if t487 = t488 then ((board_Side.f t485).bind fun t489 => (if t489 = (-1) then ((riverbanklaw02_live.f).bind fun t490 => (some t490)) else ((board_Side.f t485).bind fun t491 => ((board_Side.f t486).bind fun t492 => (if (wrap64 (t491 + t492)) = 1 then ((riverbanklaw02_live.f).bind fun t493 => (some t493)) else (some false)))))) else (some false))))))
end
def riverbanklaw02_BoardTurn.f (k : Nat) (a0 : ByteArray) (a1 : Int) : Option (Bool) := (riverbanklaw02_small.f a0).bind fun t472 => (if t472 = true then ((board_Turn.f a0).bind fun t474 => ((board_Is.f a0).bind fun t475 => (if t475 = true then ((board_Turn.f t474).bind fun t477 => (if t477.toList = a0.toList then ((board_Pieces.f t474 0).bind fun t478 => ((board_Pieces.f a0 1).bind fun t481 => (riverbanklaw02_BoardTurn.j0 k a0 a1 t474 ((t478.length : Int) != (t481.length : Int))))) else (riverbanklaw02_BoardTurn.j0 k a0 a1 t474 true))) else (if t474.toList = ([] : List UInt8) then ((riverbanklaw02_live.f).bind fun t476 => (some t476)) else (some false))))) else ((riverbanklaw02_live.f).bind fun t473 => (some t473)))
theorem riverbanklaw02_BoardTurn.mono_l : ∀ k, (∀ y0 y1 y2 y3, LeO (riverbanklaw02_BoardTurn.j0 k y0 y1 y2 y3) (riverbanklaw02_BoardTurn.j0 (k + 1) y0 y1 y2 y3)) ∧ (∀ y0 y1 y2 y3, LeO (riverbanklaw02_BoardTurn.j1 k y0 y1 y2 y3) (riverbanklaw02_BoardTurn.j1 (k + 1) y0 y1 y2 y3))
  | 0 => ⟨fun _ _ _ _ r h => by simp [riverbanklaw02_BoardTurn.j0] at h, fun _ _ _ _ r h => by simp [riverbanklaw02_BoardTurn.j1] at h⟩
  | k + 1 => by
    obtain ⟨ih0, ih1⟩ := riverbanklaw02_BoardTurn.mono_l k
    refine ⟨?_, ?_⟩
    · intro y0 y1 y2 y3
      unfold riverbanklaw02_BoardTurn.j0
      repeat' first
      | (with_reducible exact ih0 _ _ _ _)
      | (with_reducible exact ih1 _ _ _ _)
      | (with_reducible exact LeO.refl _)
      | (with_reducible exact LeO.none _)
      | (with_reducible refine LeO.ite ?_ ?_)
      | (with_reducible refine LeO.bind ?_ (fun _ => ?_))
      | exact ih0 _ _ _ _
      | exact ih1 _ _ _ _
      | exact LeO.none _
      | refine LeO.ite ?_ ?_
      | refine LeO.bind ?_ (fun _ => ?_)
    · intro y0 y1 y2 y3
      unfold riverbanklaw02_BoardTurn.j1
      repeat' first
      | (with_reducible exact ih0 _ _ _ _)
      | (with_reducible exact ih1 _ _ _ _)
      | (with_reducible exact LeO.refl _)
      | (with_reducible exact LeO.none _)
      | (with_reducible refine LeO.ite ?_ ?_)
      | (with_reducible refine LeO.bind ?_ (fun _ => ?_))
      | exact ih0 _ _ _ _
      | exact ih1 _ _ _ _
      | exact LeO.none _
      | refine LeO.ite ?_ ?_
      | refine LeO.bind ?_ (fun _ => ?_)
theorem riverbanklaw02_BoardTurn.mono : ∀ a0 a1 k, LeO (riverbanklaw02_BoardTurn.f k a0 a1) (riverbanklaw02_BoardTurn.f (k + 1) a0 a1) := by
  intro a0 a1 k
  obtain ⟨ih0, ih1⟩ := riverbanklaw02_BoardTurn.mono_l k
  unfold riverbanklaw02_BoardTurn.f
  repeat' first
      | (with_reducible exact ih0 _ _ _ _)
      | (with_reducible exact ih1 _ _ _ _)
      | (with_reducible exact LeO.refl _)
      | (with_reducible exact LeO.none _)
      | (with_reducible refine LeO.ite ?_ ?_)
      | (with_reducible refine LeO.bind ?_ (fun _ => ?_))
      | exact ih0 _ _ _ _
      | exact ih1 _ _ _ _
      | exact LeO.none _
      | refine LeO.ite ?_ ?_
      | refine LeO.bind ?_ (fun _ => ?_)
set_option maxHeartbeats 8000000 in
set_option maxRecDepth 100000 in
theorem riverbanklaw02_BoardTurn.calls (k : Nat) (a0 : ByteArray) (a1 : Int) (r : Bool) (w : World) (hT : TabHere w) (h : riverbanklaw02_BoardTurn.f k a0 a1 = some r) :
    Calls Tryd.prog 12 #[.string a0, .int .i64 a1] w fun e w' => e = .returned (.bool r) ∧ Below w.heap.size w w' := by
  have HT := Aside0.mk hT
  clear hT
  have HB := Aside0.mk (Below.refl w.heap.size w)
  have H : ((riverbanklaw02_small.f a0).bind fun t472 => (if t472 = true then ((board_Turn.f a0).bind fun t474 => ((board_Is.f a0).bind fun t475 => (if t475 = true then ((board_Turn.f t474).bind fun t477 => (if t477.toList = a0.toList then ((board_Pieces.f t474 0).bind fun t478 => ((board_Pieces.f a0 1).bind fun t481 => (riverbanklaw02_BoardTurn.j0 k a0 a1 t474 ((t478.length : Int) != (t481.length : Int))))) else (riverbanklaw02_BoardTurn.j0 k a0 a1 t474 true))) else (if t474.toList = ([] : List UInt8) then ((riverbanklaw02_live.f).bind fun t476 => (some t476)) else (some false))))) else ((riverbanklaw02_live.f).bind fun t473 => (some t473)))) = some r := h
  clear h
  replace H := Option.bind_eq_some_iff.mp H
  obtain ⟨t472, A30, H⟩ := H
  replace H : (if t472 = true then ((board_Turn.f a0).bind fun t474 => ((board_Is.f a0).bind fun t475 => (if t475 = true then ((board_Turn.f t474).bind fun t477 => (if t477.toList = a0.toList then ((board_Pieces.f t474 0).bind fun t478 => ((board_Pieces.f a0 1).bind fun t481 => (riverbanklaw02_BoardTurn.j0 k a0 a1 t474 ((t478.length : Int) != (t481.length : Int))))) else (riverbanklaw02_BoardTurn.j0 k a0 a1 t474 true))) else (if t474.toList = ([] : List UInt8) then ((riverbanklaw02_live.f).bind fun t476 => (some t476)) else (some false))))) else ((riverbanklaw02_live.f).bind fun t473 => (some t473))) = some r := H
  have A3 := Aside0.mk A30
  clear A30
  by_cases c4 : t472 = true
  · subst c4
    have H1 : ((board_Turn.f a0).bind fun t474 => ((board_Is.f a0).bind fun t475 => (if t475 = true then ((board_Turn.f t474).bind fun t477 => (if t477.toList = a0.toList then ((board_Pieces.f t474 0).bind fun t478 => ((board_Pieces.f a0 1).bind fun t481 => (riverbanklaw02_BoardTurn.j0 k a0 a1 t474 ((t478.length : Int) != (t481.length : Int))))) else (riverbanklaw02_BoardTurn.j0 k a0 a1 t474 true))) else (if t474.toList = ([] : List UInt8) then ((riverbanklaw02_live.f).bind fun t476 => (some t476)) else (some false))))) = some r := by rw [if_pos rfl] at H; exact H
    clear H
    have H := H1
    clear H1
    replace H := Option.bind_eq_some_iff.mp H
    obtain ⟨t474, A50, H⟩ := H
    replace H : ((board_Is.f a0).bind fun t475 => (if t475 = true then ((board_Turn.f t474).bind fun t477 => (if t477.toList = a0.toList then ((board_Pieces.f t474 0).bind fun t478 => ((board_Pieces.f a0 1).bind fun t481 => (riverbanklaw02_BoardTurn.j0 k a0 a1 t474 ((t478.length : Int) != (t481.length : Int))))) else (riverbanklaw02_BoardTurn.j0 k a0 a1 t474 true))) else (if t474.toList = ([] : List UInt8) then ((riverbanklaw02_live.f).bind fun t476 => (some t476)) else (some false)))) = some r := H
    have A5 := Aside0.mk A50
    clear A50
    replace H := Option.bind_eq_some_iff.mp H
    obtain ⟨t475, A60, H⟩ := H
    replace H : (if t475 = true then ((board_Turn.f t474).bind fun t477 => (if t477.toList = a0.toList then ((board_Pieces.f t474 0).bind fun t478 => ((board_Pieces.f a0 1).bind fun t481 => (riverbanklaw02_BoardTurn.j0 k a0 a1 t474 ((t478.length : Int) != (t481.length : Int))))) else (riverbanklaw02_BoardTurn.j0 k a0 a1 t474 true))) else (if t474.toList = ([] : List UInt8) then ((riverbanklaw02_live.f).bind fun t476 => (some t476)) else (some false))) = some r := H
    have A6 := Aside0.mk A60
    clear A60
    by_cases c7 : t475 = true
    · subst c7
      have H1 : ((board_Turn.f t474).bind fun t477 => (if t477.toList = a0.toList then ((board_Pieces.f t474 0).bind fun t478 => ((board_Pieces.f a0 1).bind fun t481 => (riverbanklaw02_BoardTurn.j0 k a0 a1 t474 ((t478.length : Int) != (t481.length : Int))))) else (riverbanklaw02_BoardTurn.j0 k a0 a1 t474 true))) = some r := by rw [if_pos rfl] at H; exact H
      clear H
      have H := H1
      clear H1
      have HC8 := Aside0.mk H
      clear H
      go_enter Tryd.func12, Tryd.ntmps12
      go_upto_region 6 with (first | ((with_reducible refine gate_callee (f := 47) rfl ?_); refine goesL_ (some 9) rfl rfl Tryd.func47 (by kernel_rfl) rfl #[.string a0] rfl (by (try simp only [List.map_toArray, List.map_cons, List.map_nil]); first | done | rfl | (simp only [List.length_drop, List.length_take]; rfl)) ?_; (with_reducible refine (riverbanklaw02_small.calls a0 true _ A3.out).mono ?_); rintro e w' ⟨rfl, ⟨nd, rfl⟩⟩; refine ⟨_, rfl, ?_⟩) | ((with_reducible refine gate_callee (f := 60) rfl ?_); refine goesL_ (some 13) rfl rfl Tryd.func60 (by kernel_rfl) rfl #[.string a0] rfl (by (try simp only [List.map_toArray, List.map_cons, List.map_nil]); first | done | rfl | (simp only [List.length_drop, List.length_take]; rfl)) ?_; (with_reducible refine (board_Turn.calls a0 t474 _ A5.out).mono ?_); rintro e w9 ⟨rfl, hb⟩; refine ⟨_, rfl, ?_⟩; have n0_ := Aside0.mk (below_step (by repeat (first | (with_reducible first | exact HB.out | apply below_alloc | apply pw_below_drewN | apply below_drew1) | exact HB.out)) hb); clear HB; have HB := n0_; clear n0_; (try clear hb); (try clear hb2); (try clear hk); (try clear hi)) | ((with_reducible refine gate_callee (f := 50) rfl ?_); refine goesL_ (some 15) rfl rfl Tryd.func50 (by kernel_rfl) rfl #[.string a0] rfl (by (try simp only [List.map_toArray, List.map_cons, List.map_nil]); first | done | rfl | (simp only [List.length_drop, List.length_take]; rfl)) ?_; (with_reducible refine (board_Is.calls a0 true _ A6.out).mono ?_); rintro e w10 ⟨rfl, hb⟩; refine ⟨_, rfl, ?_⟩; have n0_ := Aside0.mk (below_step (by repeat (first | (with_reducible first | exact HB.out | apply below_alloc | apply pw_below_drewN | apply below_drew1) | exact HB.out)) hb); clear HB; have HB := n0_; clear n0_; (try clear hb); (try clear hb2); (try clear hk); (try clear hi)))
      (try simp only [Act.put, List.setIfInBounds_toArray, List.set_cons_zero, List.set_cons_succ])
      go_cut [34] (fun v34 wc => ∃ (kq : Nat) (x34_7 : Bool), v34 = .bool x34_7 ∧ Aside0 (riverbanklaw02_BoardTurn.j0 kq a0 a1 t474 x34_7 = some r) ∧ Aside0 (kq ≤ k) ∧ Aside0 (Below w.heap.size w wc))
      case first =>
        have H := HC8.out
        clear HC8
        replace H := Option.bind_eq_some_iff.mp H
        obtain ⟨t477, A110, H⟩ := H
        replace H : (if t477.toList = a0.toList then ((board_Pieces.f t474 0).bind fun t478 => ((board_Pieces.f a0 1).bind fun t481 => (riverbanklaw02_BoardTurn.j0 k a0 a1 t474 ((t478.length : Int) != (t481.length : Int))))) else (riverbanklaw02_BoardTurn.j0 k a0 a1 t474 true)) = some r := H
        have A11 := Aside0.mk A110
        clear A110
        by_cases c12 : t477.toList = a0.toList
        · rw [if_pos c12] at H
          have c12b0 : (t477.toList == a0.toList) = true := beq_iff_eq.mpr c12
          have c12b1 : (t477.toList != a0.toList) = false := bne_eq_false_iff_eq.mpr c12
          clear c12
          (first | rw [c12b0] | (simp only [i64_w, i32_w]; rw [c12b0]) | skip)
          replace H := Option.bind_eq_some_iff.mp H
          obtain ⟨t478, A130, H⟩ := H
          replace H : ((board_Pieces.f a0 1).bind fun t481 => (riverbanklaw02_BoardTurn.j0 k a0 a1 t474 ((t478.length : Int) != (t481.length : Int)))) = some r := H
          have A13 := Aside0.mk A130
          clear A130
          replace H := Option.bind_eq_some_iff.mp H
          obtain ⟨t481, A140, H⟩ := H
          replace H : (riverbanklaw02_BoardTurn.j0 k a0 a1 t474 ((t478.length : Int) != (t481.length : Int))) = some r := H
          have A14 := Aside0.mk A140
          clear A140
          have H' := Aside0.mk H
          clear H
          go_wp2_with (first | ((with_reducible refine gate_callee (f := 60) rfl ?_); refine goesL_ (some 23) rfl rfl Tryd.func60 (by kernel_rfl) rfl #[.string t474] rfl (by (try simp only [List.map_toArray, List.map_cons, List.map_nil]); first | done | rfl | (simp only [List.length_drop, List.length_take]; rfl)) ?_; (with_reducible refine (board_Turn.calls t474 t477 _ A11.out).mono ?_); rintro e w15 ⟨rfl, hb⟩; refine ⟨_, rfl, ?_⟩; have n0_ := Aside0.mk (below_step (by repeat (first | (with_reducible first | exact HB.out | apply below_alloc | apply pw_below_drewN | apply below_drew1) | exact HB.out)) hb); clear HB; have HB := n0_; clear n0_; (try clear hb); (try clear hb2); (try clear hk); (try clear hi)) | (go_at_call 58; (with_reducible refine (board_Pieces.calls t474 0 t478 _ (tab_of HT.out (by repeat (first | (with_reducible first | exact HB.out | apply below_alloc | apply pw_below_drewN | apply below_drew1) | exact HB.out))) A13.out).mono ?_); rintro e w16 ⟨v479, rfl, ho0, hb⟩; have n0_ := Aside0.mk (Kd.R_lower ho0 (below_size (by repeat (first | (with_reducible first | exact HB.out | apply below_alloc | apply pw_below_drewN | apply below_drew1) | exact HB.out)))); have n1_ := Aside0.mk (below_step (by repeat (first | (with_reducible first | exact HB.out | apply below_alloc | apply pw_below_drewN | apply below_drew1) | exact HB.out)) hb); clear HB; have HO480 := n0_; have HB := n1_; clear n0_ n1_; (try clear hb); (try clear hb2); (try clear hk); (try clear hi); (try clear ho0); obtain ⟨Ao17, co17, eo17⟩ := Kd.R_slice HO480.out; subst eo17) | (go_at_call 58; (with_reducible refine (board_Pieces.calls a0 1 t481 _ (tab_of HT.out (by repeat (first | (with_reducible first | exact HB.out | apply below_alloc | apply pw_below_drewN | apply below_drew1) | exact HB.out))) A14.out).mono ?_); rintro e w18 ⟨v482, rfl, ho0, hb⟩; have n0_ := Aside0.mk (Kd.R_elder' (by (with_reducible repeat (first | apply Kd.R_alloc | apply Kd.R_drewN | apply Kd.R_drew)); exact HO480.out) (Kd.R_base ho0) hb); have n1_ := Aside0.mk (Kd.R_lower (Kd.R_new' ho0 (Kd.R_lt (by (with_reducible repeat (first | apply Kd.R_alloc | apply Kd.R_drewN | apply Kd.R_drew)); exact HO480.out))) (below_size (by repeat (first | (with_reducible first | exact HB.out | apply below_alloc | apply pw_below_drewN | apply below_drew1) | exact HB.out)))); have n2_ := Aside0.mk (below_step (by repeat (first | (with_reducible first | exact HB.out | apply below_alloc | apply pw_below_drewN | apply below_drew1) | exact HB.out)) hb); clear HO480; clear HB; have HO480 := n0_; have HO483 := n1_; have HB := n2_; clear n0_ n1_ n2_; (try clear hb); (try clear hb2); (try clear hk); (try clear hi); (try clear ho0); obtain ⟨Ao19, co19, eo19⟩ := Kd.R_slice HO483.out; subst eo19))
          go_meet
          case rel => exact ⟨_, (((t478.length : Int) != (t481.length : Int))), (by first | rfl | (simp; done) | (simp [*]; done)), H', ⟨by first | omega | exact Nat.le_refl _⟩, ⟨by repeat (first | (with_reducible first | exact HB.out | apply below_alloc | apply pw_below_drewN | apply below_drew1) | exact HB.out)⟩⟩
        · rw [if_neg c12] at H
          have c12b0 : (t477.toList == a0.toList) = false := beq_eq_false_iff_ne.mpr c12
          have c12b1 : (t477.toList != a0.toList) = true := bne_iff_ne.mpr c12
          (first | rw [c12b0] | (simp only [i64_w, i32_w]; rw [c12b0]) | skip)
          have H' := Aside0.mk H
          clear H
          go_wp2_with (first | ((with_reducible refine gate_callee (f := 60) rfl ?_); refine goesL_ (some 23) rfl rfl Tryd.func60 (by kernel_rfl) rfl #[.string t474] rfl (by (try simp only [List.map_toArray, List.map_cons, List.map_nil]); first | done | rfl | (simp only [List.length_drop, List.length_take]; rfl)) ?_; (with_reducible refine (board_Turn.calls t474 t477 _ A11.out).mono ?_); rintro e w20 ⟨rfl, hb⟩; refine ⟨_, rfl, ?_⟩; have n0_ := Aside0.mk (below_step (by repeat (first | (with_reducible first | exact HB.out | apply below_alloc | apply pw_below_drewN | apply below_drew1) | exact HB.out)) hb); clear HB; have HB := n0_; clear n0_; (try clear hb); (try clear hb2); (try clear hk); (try clear hi)))
          go_meet
          case rel => exact ⟨_, (true), (by first | rfl | (simp; done) | (simp [*]; done)), H', ⟨by first | omega | exact Nat.le_refl _⟩, ⟨by repeat (first | (with_reducible first | exact HB.out | apply below_alloc | apply pw_below_drewN | apply below_drew1) | exact HB.out)⟩⟩
      case rest =>
        clear HC8
        try clear c1
        try clear p2
        try clear c4
        try clear c5
        try clear c6
        try clear c7
        try clear c12
        try clear c12b0
        try clear c12b1
        obtain ⟨kq, x34_7, rfl, HA, HJ7, HB⟩ := hcut
        cases kq with
        | zero => exact absurd HA.out (by simp [riverbanklaw02_BoardTurn.j0])
        | succ kj7 =>
          have H := HA.out
          clear HA
          simp only [riverbanklaw02_BoardTurn.j0] at H
          by_cases c21 : x34_7 = true
          · subst c21
            have H1 : (some false) = some r := by rw [if_pos rfl] at H; exact H
            clear H
            have H := H1
            clear H1
            obtain rfl := Option.some.inj H
            go_wp2
            go_ret
            exact ⟨by first | rfl | (simp [errW_none, errW_some] <;> rfl) | (simp [*, errW_none, errW_some] <;> rfl), by repeat (first | (with_reducible first | exact HB.out | apply below_alloc | apply pw_below_drewN | apply below_drew1) | exact HB.out)⟩
          · replace c21 := Bool.eq_false_iff.mpr c21
            subst c21
            have H1 : (if a1 < 0 then (riverbanklaw02_BoardTurn.j1 kj7 a0 a1 t474 true) else (riverbanklaw02_BoardTurn.j1 kj7 a0 a1 t474 (decide (a1 > 89)))) = some r := by rw [if_neg (show ¬ (false = true) by decide)] at H; exact H
            clear H
            have H := H1
            clear H1
            have HC22 := Aside0.mk H
            clear H
            go_upto_region 8 with (fail)
            go_cut [40] (fun v40 wc => ∃ (kq : Nat) (x40_21 : Bool), v40 = .bool x40_21 ∧ Aside0 (riverbanklaw02_BoardTurn.j1 kq a0 a1 t474 x40_21 = some r) ∧ Aside0 (kq ≤ kj7) ∧ Aside0 (Below w.heap.size w wc))
            case first =>
              have H := HC22.out
              clear HC22
              by_cases c23 : a1 < 0
              · rw [if_pos c23] at H
                have c23b0 : decide (a1 < 0) = true := decide_eq_true c23
                clear c23
                (first | rw [c23b0] | (simp only [i64_w, i32_w]; rw [c23b0]) | skip)
                have H' := Aside0.mk H
                clear H
                go_wp2
                go_meet
                case rel => exact ⟨_, (true), (by first | rfl | (simp; done) | (simp [*]; done)), H', ⟨by have := HJ7.out; first | omega | exact Nat.le_refl _⟩, ⟨by repeat (first | (with_reducible first | exact HB.out | apply below_alloc | apply pw_below_drewN | apply below_drew1) | exact HB.out)⟩⟩
              · rw [if_neg c23] at H
                have c23b0 : decide (a1 < 0) = false := decide_eq_false c23
                clear c23
                (first | rw [c23b0] | (simp only [i64_w, i32_w]; rw [c23b0]) | skip)
                have H' := Aside0.mk H
                clear H
                go_wp2
                go_meet
                case rel => exact ⟨_, (decide (a1 > 89)), (by first | rfl | (simp; done) | (simp [*]; done)), H', ⟨by have := HJ7.out; first | omega | exact Nat.le_refl _⟩, ⟨by repeat (first | (with_reducible first | exact HB.out | apply below_alloc | apply pw_below_drewN | apply below_drew1) | exact HB.out)⟩⟩
            case rest =>
              clear HC22
              try clear c1
              try clear c2
              try clear p2
              try clear c4
              try clear c5
              try clear c6
              try clear c7
              try clear c12
              try clear c12b0
              try clear c12b1
              try clear c21
              try clear c23
              try clear c23b0
              try clear p2
              obtain ⟨kq, x40_21, rfl, HA, HJ21, HB⟩ := hcut
              cases kq with
              | zero => exact absurd HA.out (by simp [riverbanklaw02_BoardTurn.j1])
              | succ kj21 =>
                have H := HA.out
                clear HA
                simp only [riverbanklaw02_BoardTurn.j1] at H
                by_cases c24 : x40_21 = true
                · subst c24
                  have H1 : ((riverbanklaw02_live.f).bind fun t484 => (some t484)) = some r := by rw [if_pos rfl] at H; exact H
                  clear H
                  have H := H1
                  clear H1
                  replace H := Option.bind_eq_some_iff.mp H
                  obtain ⟨t484, A250, H⟩ := H
                  replace H : (some t484) = some r := H
                  have A25 := Aside0.mk A250
                  clear A250
                  obtain rfl := Option.some.inj H
                  go_wp2_with (first | ((with_reducible refine gate_callee (f := 48) rfl ?_); refine goesL_ (some 41) rfl rfl Tryd.func48 (by kernel_rfl) rfl #[] rfl (by (try simp only [List.map_toArray, List.map_cons, List.map_nil]); first | done | rfl | (simp only [List.length_drop, List.length_take]; rfl)) ?_; (with_reducible refine (riverbanklaw02_live.calls  t484 _ (tab_of HT.out (by repeat (first | (with_reducible first | exact HB.out | apply below_alloc | apply pw_below_drewN | apply below_drew1) | exact HB.out))) A25.out).mono ?_); rintro e w26 ⟨rfl, hb⟩; refine ⟨_, rfl, ?_⟩; have n0_ := Aside0.mk (below_step (by repeat (first | (with_reducible first | exact HB.out | apply below_alloc | apply pw_below_drewN | apply below_drew1) | exact HB.out)) hb); clear HB; have HB := n0_; clear n0_; (try clear hb); (try clear hb2); (try clear hk); (try clear hi)))
                  go_ret
                  exact ⟨by first | rfl | (simp [errW_none, errW_some] <;> rfl) | (simp [*, errW_none, errW_some] <;> rfl), by repeat (first | (with_reducible first | exact HB.out | apply below_alloc | apply pw_below_drewN | apply below_drew1) | exact HB.out)⟩
                · replace c24 := Bool.eq_false_iff.mpr c24
                  subst c24
                  have H1 : ((board_At.f a0 a1).bind fun t485 => ((board_At.f t474 (wrap64 (89 - a1))).bind fun t486 => ((board_Kind.f t485).bind fun t487 => ((board_Kind.f t486).bind fun t488 => (if t487 = t488 then ((board_Side.f t485).bind fun t489 => (if t489 = (-1) then ((riverbanklaw02_live.f).bind fun t490 => (some t490)) else ((board_Side.f t485).bind fun t491 => ((board_Side.f t486).bind fun t492 => (if (wrap64 (t491 + t492)) = 1 then ((riverbanklaw02_live.f).bind fun t493 => (some t493)) else (some false)))))) else (some false)))))) = some r := by rw [if_neg (show ¬ (false = true) by decide)] at H; exact H
                  clear H
                  have H := H1
                  clear H1
                  replace H := Option.bind_eq_some_iff.mp H
                  obtain ⟨t485, A270, H⟩ := H
                  replace H : ((board_At.f t474 (wrap64 (89 - a1))).bind fun t486 => ((board_Kind.f t485).bind fun t487 => ((board_Kind.f t486).bind fun t488 => (if t487 = t488 then ((board_Side.f t485).bind fun t489 => (if t489 = (-1) then ((riverbanklaw02_live.f).bind fun t490 => (some t490)) else ((board_Side.f t485).bind fun t491 => ((board_Side.f t486).bind fun t492 => (if (wrap64 (t491 + t492)) = 1 then ((riverbanklaw02_live.f).bind fun t493 => (some t493)) else (some false)))))) else (some false))))) = some r := H
                  have A27 := Aside0.mk A270
                  clear A270
                  replace H := Option.bind_eq_some_iff.mp H
                  obtain ⟨t486, A280, H⟩ := H
                  replace H : ((board_Kind.f t485).bind fun t487 => ((board_Kind.f t486).bind fun t488 => (if t487 = t488 then ((board_Side.f t485).bind fun t489 => (if t489 = (-1) then ((riverbanklaw02_live.f).bind fun t490 => (some t490)) else ((board_Side.f t485).bind fun t491 => ((board_Side.f t486).bind fun t492 => (if (wrap64 (t491 + t492)) = 1 then ((riverbanklaw02_live.f).bind fun t493 => (some t493)) else (some false)))))) else (some false)))) = some r := H
                  have A28 := Aside0.mk A280
                  clear A280
                  replace H := Option.bind_eq_some_iff.mp H
                  obtain ⟨t487, A290, H⟩ := H
                  replace H : ((board_Kind.f t486).bind fun t488 => (if t487 = t488 then ((board_Side.f t485).bind fun t489 => (if t489 = (-1) then ((riverbanklaw02_live.f).bind fun t490 => (some t490)) else ((board_Side.f t485).bind fun t491 => ((board_Side.f t486).bind fun t492 => (if (wrap64 (t491 + t492)) = 1 then ((riverbanklaw02_live.f).bind fun t493 => (some t493)) else (some false)))))) else (some false))) = some r := H
                  have A29 := Aside0.mk A290
                  clear A290
                  replace H := Option.bind_eq_some_iff.mp H
                  obtain ⟨t488, A300, H⟩ := H
                  replace H : (if t487 = t488 then ((board_Side.f t485).bind fun t489 => (if t489 = (-1) then ((riverbanklaw02_live.f).bind fun t490 => (some t490)) else ((board_Side.f t485).bind fun t491 => ((board_Side.f t486).bind fun t492 => (if (wrap64 (t491 + t492)) = 1 then ((riverbanklaw02_live.f).bind fun t493 => (some t493)) else (some false)))))) else (some false)) = some r := H
                  have A30 := Aside0.mk A300
                  clear A300
                  by_cases c31 : t487 = t488
                  · rw [if_pos c31] at H
                    have c31b0 : (t487 == t488) = true := beq_iff_eq.mpr c31
                    have c31b1 : (t487 != t488) = false := bne_eq_false_iff_eq.mpr c31
                    clear c31
                    replace H := Option.bind_eq_some_iff.mp H
                    obtain ⟨t489, A320, H⟩ := H
                    replace H : (if t489 = (-1) then ((riverbanklaw02_live.f).bind fun t490 => (some t490)) else ((board_Side.f t485).bind fun t491 => ((board_Side.f t486).bind fun t492 => (if (wrap64 (t491 + t492)) = 1 then ((riverbanklaw02_live.f).bind fun t493 => (some t493)) else (some false))))) = some r := H
                    have A32 := Aside0.mk A320
                    clear A320
                    by_cases c33 : t489 = (-1)
                    · rw [if_pos c33] at H
                      have c33b0 : (t489 == (-1)) = true := beq_iff_eq.mpr c33
                      have c33b1 : (t489 != (-1)) = false := bne_eq_false_iff_eq.mpr c33
                      clear c33
                      replace H := Option.bind_eq_some_iff.mp H
                      obtain ⟨t490, A340, H⟩ := H
                      replace H : (some t490) = some r := H
                      have A34 := Aside0.mk A340
                      clear A340
                      obtain rfl := Option.some.inj H
                      go_wp2_with (first | ((with_reducible refine gate_callee (f := 52) rfl ?_); refine goesL_ (some 44) rfl rfl Tryd.func52 (by kernel_rfl) rfl #[.string a0, .int .i64 a1] rfl (by (try simp only [List.map_toArray, List.map_cons, List.map_nil]); first | done | rfl | (simp only [List.length_drop, List.length_take]; rfl)) ?_; (with_reducible refine (board_At.calls a0 a1 t485 _ A27.out).mono ?_); rintro e w35 ⟨rfl, hb⟩; refine ⟨_, rfl, ?_⟩; have n0_ := Aside0.mk (below_step (by repeat (first | (with_reducible first | exact HB.out | apply below_alloc | apply pw_below_drewN | apply below_drew1) | exact HB.out)) hb); clear HB; have HB := n0_; clear n0_; (try clear hb); (try clear hb2); (try clear hk); (try clear hi)) | ((with_reducible refine gate_callee (f := 52) rfl ?_); refine goesL_ (some 48) rfl rfl Tryd.func52 (by kernel_rfl) rfl #[.string t474, .int .i64 (wrap64 (89 - a1))] rfl (by (try simp only [List.map_toArray, List.map_cons, List.map_nil]); first | done | rfl | (simp only [List.length_drop, List.length_take]; rfl)) ?_; (with_reducible refine (board_At.calls t474 (wrap64 (89 - a1)) t486 _ A28.out).mono ?_); rintro e w36 ⟨rfl, hb⟩; refine ⟨_, rfl, ?_⟩; have n0_ := Aside0.mk (below_step (by repeat (first | (with_reducible first | exact HB.out | apply below_alloc | apply pw_below_drewN | apply below_drew1) | exact HB.out)) hb); clear HB; have HB := n0_; clear n0_; (try clear hb); (try clear hb2); (try clear hk); (try clear hi)) | ((with_reducible refine gate_callee (f := 63) rfl ?_); refine goesL_ (some 50) rfl rfl Tryd.func63 (by kernel_rfl) rfl #[.int .u8 t485] rfl (by (try simp only [List.map_toArray, List.map_cons, List.map_nil]); first | done | rfl | (simp only [List.length_drop, List.length_take]; rfl)) ?_; (with_reducible refine (board_Kind.calls t485 t487 _ A29.out).mono ?_); rintro e w' ⟨rfl, ⟨nd, rfl⟩⟩; refine ⟨_, rfl, ?_⟩) | ((with_reducible refine gate_callee (f := 63) rfl ?_); refine goesL_ (some 52) rfl rfl Tryd.func63 (by kernel_rfl) rfl #[.int .u8 t486] rfl (by (try simp only [List.map_toArray, List.map_cons, List.map_nil]); first | done | rfl | (simp only [List.length_drop, List.length_take]; rfl)) ?_; (with_reducible refine (board_Kind.calls t486 t488 _ A30.out).mono ?_); rintro e w' ⟨rfl, ⟨nd, rfl⟩⟩; refine ⟨_, rfl, ?_⟩) | (go_at_call 62; (with_reducible refine (board_Side.calls t485 t489 _ A32.out).mono ?_); rintro e w' ⟨rfl, ⟨nd, rfl⟩⟩) | (go_at_call 48; (with_reducible refine (riverbanklaw02_live.calls  t490 _ (tab_of HT.out (by repeat (first | (with_reducible first | exact HB.out | apply below_alloc | apply pw_below_drewN | apply below_drew1) | exact HB.out))) A34.out).mono ?_); rintro e w37 ⟨rfl, hb⟩; have n0_ := Aside0.mk (below_step (by repeat (first | (with_reducible first | exact HB.out | apply below_alloc | apply pw_below_drewN | apply below_drew1) | exact HB.out)) hb); clear HB; have HB := n0_; clear n0_; (try clear hb); (try clear hb2); (try clear hk); (try clear hi)))
                      go_ret
                      exact ⟨by first | rfl | (simp [errW_none, errW_some] <;> rfl) | (simp [*, errW_none, errW_some] <;> rfl), by repeat (first | (with_reducible first | exact HB.out | apply below_alloc | apply pw_below_drewN | apply below_drew1) | exact HB.out)⟩
                    · rw [if_neg c33] at H
                      have c33b0 : (t489 == (-1)) = false := beq_eq_false_iff_ne.mpr c33
                      have c33b1 : (t489 != (-1)) = true := bne_iff_ne.mpr c33
                      replace H := Option.bind_eq_some_iff.mp H
                      obtain ⟨t491, A380, H⟩ := H
                      replace H : ((board_Side.f t486).bind fun t492 => (if (wrap64 (t491 + t492)) = 1 then ((riverbanklaw02_live.f).bind fun t493 => (some t493)) else (some false))) = some r := H
                      have A38 := Aside0.mk A380
                      clear A380
                      have eA38_A32 := Aside0.mk (Option.some.inj (A38.out.symm.trans A32.out) : t491 = t489)
                      replace H := Option.bind_eq_some_iff.mp H
                      obtain ⟨t492, A390, H⟩ := H
                      replace H : (if (wrap64 (t491 + t492)) = 1 then ((riverbanklaw02_live.f).bind fun t493 => (some t493)) else (some false)) = some r := H
                      have A39 := Aside0.mk A390
                      clear A390
                      (try rw [eA38_A32.out] at A39)
                      by_cases c40 : (wrap64 (t491 + t492)) = 1
                      · rw [if_pos c40] at H
                        have c40b0 : ((wrap64 (t491 + t492)) == 1) = true := beq_iff_eq.mpr c40
                        (try rw [eA38_A32.out] at c40b0)
                        have c40b1 : ((wrap64 (t491 + t492)) != 1) = false := bne_eq_false_iff_eq.mpr c40
                        (try rw [eA38_A32.out] at c40b1)
                        clear c40
                        replace H := Option.bind_eq_some_iff.mp H
                        obtain ⟨t493, A410, H⟩ := H
                        replace H : (some t493) = some r := H
                        have A41 := Aside0.mk A410
                        clear A410
                        (try rw [eA38_A32.out] at A41)
                        obtain rfl := Option.some.inj H
                        go_wp2_with (first | ((with_reducible refine gate_callee (f := 52) rfl ?_); refine goesL_ (some 44) rfl rfl Tryd.func52 (by kernel_rfl) rfl #[.string a0, .int .i64 a1] rfl (by (try simp only [List.map_toArray, List.map_cons, List.map_nil]); first | done | rfl | (simp only [List.length_drop, List.length_take]; rfl)) ?_; (with_reducible refine (board_At.calls a0 a1 t485 _ A27.out).mono ?_); rintro e w42 ⟨rfl, hb⟩; refine ⟨_, rfl, ?_⟩; have n0_ := Aside0.mk (below_step (by repeat (first | (with_reducible first | exact HB.out | apply below_alloc | apply pw_below_drewN | apply below_drew1) | exact HB.out)) hb); clear HB; have HB := n0_; clear n0_; (try clear hb); (try clear hb2); (try clear hk); (try clear hi)) | ((with_reducible refine gate_callee (f := 52) rfl ?_); refine goesL_ (some 48) rfl rfl Tryd.func52 (by kernel_rfl) rfl #[.string t474, .int .i64 (wrap64 (89 - a1))] rfl (by (try simp only [List.map_toArray, List.map_cons, List.map_nil]); first | done | rfl | (simp only [List.length_drop, List.length_take]; rfl)) ?_; (with_reducible refine (board_At.calls t474 (wrap64 (89 - a1)) t486 _ A28.out).mono ?_); rintro e w43 ⟨rfl, hb⟩; refine ⟨_, rfl, ?_⟩; have n0_ := Aside0.mk (below_step (by repeat (first | (with_reducible first | exact HB.out | apply below_alloc | apply pw_below_drewN | apply below_drew1) | exact HB.out)) hb); clear HB; have HB := n0_; clear n0_; (try clear hb); (try clear hb2); (try clear hk); (try clear hi)) | ((with_reducible refine gate_callee (f := 63) rfl ?_); refine goesL_ (some 50) rfl rfl Tryd.func63 (by kernel_rfl) rfl #[.int .u8 t485] rfl (by (try simp only [List.map_toArray, List.map_cons, List.map_nil]); first | done | rfl | (simp only [List.length_drop, List.length_take]; rfl)) ?_; (with_reducible refine (board_Kind.calls t485 t487 _ A29.out).mono ?_); rintro e w' ⟨rfl, ⟨nd, rfl⟩⟩; refine ⟨_, rfl, ?_⟩) | ((with_reducible refine gate_callee (f := 63) rfl ?_); refine goesL_ (some 52) rfl rfl Tryd.func63 (by kernel_rfl) rfl #[.int .u8 t486] rfl (by (try simp only [List.map_toArray, List.map_cons, List.map_nil]); first | done | rfl | (simp only [List.length_drop, List.length_take]; rfl)) ?_; (with_reducible refine (board_Kind.calls t486 t488 _ A30.out).mono ?_); rintro e w' ⟨rfl, ⟨nd, rfl⟩⟩; refine ⟨_, rfl, ?_⟩) | (go_at_call 62; (with_reducible refine (board_Side.calls t485 t489 _ A32.out).mono ?_); rintro e w' ⟨rfl, ⟨nd, rfl⟩⟩) | (go_at_call 62; (with_reducible refine (board_Side.calls t485 t489 _ A38.out).mono ?_); rintro e w' ⟨rfl, ⟨nd, rfl⟩⟩) | (go_at_call 62; (with_reducible refine (board_Side.calls t486 t492 _ A39.out).mono ?_); rintro e w' ⟨rfl, ⟨nd, rfl⟩⟩) | (go_at_call 48; (with_reducible refine (riverbanklaw02_live.calls  t493 _ (tab_of HT.out (by repeat (first | (with_reducible first | exact HB.out | apply below_alloc | apply pw_below_drewN | apply below_drew1) | exact HB.out))) A41.out).mono ?_); rintro e w44 ⟨rfl, hb⟩; have n0_ := Aside0.mk (below_step (by repeat (first | (with_reducible first | exact HB.out | apply below_alloc | apply pw_below_drewN | apply below_drew1) | exact HB.out)) hb); clear HB; have HB := n0_; clear n0_; (try clear hb); (try clear hb2); (try clear hk); (try clear hi)))
                        go_ret
                        exact ⟨by first | rfl | (simp [errW_none, errW_some] <;> rfl) | (simp [*, errW_none, errW_some] <;> rfl), by repeat (first | (with_reducible first | exact HB.out | apply below_alloc | apply pw_below_drewN | apply below_drew1) | exact HB.out)⟩
                      · rw [if_neg c40] at H
                        have c40b0 : ((wrap64 (t491 + t492)) == 1) = false := beq_eq_false_iff_ne.mpr c40
                        (try rw [eA38_A32.out] at c40b0)
                        have c40b1 : ((wrap64 (t491 + t492)) != 1) = true := bne_iff_ne.mpr c40
                        (try rw [eA38_A32.out] at c40b1)
                        obtain rfl := Option.some.inj H
                        go_wp2_with (first | ((with_reducible refine gate_callee (f := 52) rfl ?_); refine goesL_ (some 44) rfl rfl Tryd.func52 (by kernel_rfl) rfl #[.string a0, .int .i64 a1] rfl (by (try simp only [List.map_toArray, List.map_cons, List.map_nil]); first | done | rfl | (simp only [List.length_drop, List.length_take]; rfl)) ?_; (with_reducible refine (board_At.calls a0 a1 t485 _ A27.out).mono ?_); rintro e w45 ⟨rfl, hb⟩; refine ⟨_, rfl, ?_⟩; have n0_ := Aside0.mk (below_step (by repeat (first | (with_reducible first | exact HB.out | apply below_alloc | apply pw_below_drewN | apply below_drew1) | exact HB.out)) hb); clear HB; have HB := n0_; clear n0_; (try clear hb); (try clear hb2); (try clear hk); (try clear hi)) | ((with_reducible refine gate_callee (f := 52) rfl ?_); refine goesL_ (some 48) rfl rfl Tryd.func52 (by kernel_rfl) rfl #[.string t474, .int .i64 (wrap64 (89 - a1))] rfl (by (try simp only [List.map_toArray, List.map_cons, List.map_nil]); first | done | rfl | (simp only [List.length_drop, List.length_take]; rfl)) ?_; (with_reducible refine (board_At.calls t474 (wrap64 (89 - a1)) t486 _ A28.out).mono ?_); rintro e w46 ⟨rfl, hb⟩; refine ⟨_, rfl, ?_⟩; have n0_ := Aside0.mk (below_step (by repeat (first | (with_reducible first | exact HB.out | apply below_alloc | apply pw_below_drewN | apply below_drew1) | exact HB.out)) hb); clear HB; have HB := n0_; clear n0_; (try clear hb); (try clear hb2); (try clear hk); (try clear hi)) | ((with_reducible refine gate_callee (f := 63) rfl ?_); refine goesL_ (some 50) rfl rfl Tryd.func63 (by kernel_rfl) rfl #[.int .u8 t485] rfl (by (try simp only [List.map_toArray, List.map_cons, List.map_nil]); first | done | rfl | (simp only [List.length_drop, List.length_take]; rfl)) ?_; (with_reducible refine (board_Kind.calls t485 t487 _ A29.out).mono ?_); rintro e w' ⟨rfl, ⟨nd, rfl⟩⟩; refine ⟨_, rfl, ?_⟩) | ((with_reducible refine gate_callee (f := 63) rfl ?_); refine goesL_ (some 52) rfl rfl Tryd.func63 (by kernel_rfl) rfl #[.int .u8 t486] rfl (by (try simp only [List.map_toArray, List.map_cons, List.map_nil]); first | done | rfl | (simp only [List.length_drop, List.length_take]; rfl)) ?_; (with_reducible refine (board_Kind.calls t486 t488 _ A30.out).mono ?_); rintro e w' ⟨rfl, ⟨nd, rfl⟩⟩; refine ⟨_, rfl, ?_⟩) | (go_at_call 62; (with_reducible refine (board_Side.calls t485 t489 _ A32.out).mono ?_); rintro e w' ⟨rfl, ⟨nd, rfl⟩⟩) | (go_at_call 62; (with_reducible refine (board_Side.calls t485 t489 _ A38.out).mono ?_); rintro e w' ⟨rfl, ⟨nd, rfl⟩⟩) | (go_at_call 62; (with_reducible refine (board_Side.calls t486 t492 _ A39.out).mono ?_); rintro e w' ⟨rfl, ⟨nd, rfl⟩⟩))
                        go_ret
                        exact ⟨by first | rfl | (simp [errW_none, errW_some] <;> rfl) | (simp [*, errW_none, errW_some] <;> rfl), by repeat (first | (with_reducible first | exact HB.out | apply below_alloc | apply pw_below_drewN | apply below_drew1) | exact HB.out)⟩
                  · rw [if_neg c31] at H
                    have c31b0 : (t487 == t488) = false := beq_eq_false_iff_ne.mpr c31
                    have c31b1 : (t487 != t488) = true := bne_iff_ne.mpr c31
                    obtain rfl := Option.some.inj H
                    go_wp2_with (first | ((with_reducible refine gate_callee (f := 52) rfl ?_); refine goesL_ (some 44) rfl rfl Tryd.func52 (by kernel_rfl) rfl #[.string a0, .int .i64 a1] rfl (by (try simp only [List.map_toArray, List.map_cons, List.map_nil]); first | done | rfl | (simp only [List.length_drop, List.length_take]; rfl)) ?_; (with_reducible refine (board_At.calls a0 a1 t485 _ A27.out).mono ?_); rintro e w47 ⟨rfl, hb⟩; refine ⟨_, rfl, ?_⟩; have n0_ := Aside0.mk (below_step (by repeat (first | (with_reducible first | exact HB.out | apply below_alloc | apply pw_below_drewN | apply below_drew1) | exact HB.out)) hb); clear HB; have HB := n0_; clear n0_; (try clear hb); (try clear hb2); (try clear hk); (try clear hi)) | ((with_reducible refine gate_callee (f := 52) rfl ?_); refine goesL_ (some 48) rfl rfl Tryd.func52 (by kernel_rfl) rfl #[.string t474, .int .i64 (wrap64 (89 - a1))] rfl (by (try simp only [List.map_toArray, List.map_cons, List.map_nil]); first | done | rfl | (simp only [List.length_drop, List.length_take]; rfl)) ?_; (with_reducible refine (board_At.calls t474 (wrap64 (89 - a1)) t486 _ A28.out).mono ?_); rintro e w48 ⟨rfl, hb⟩; refine ⟨_, rfl, ?_⟩; have n0_ := Aside0.mk (below_step (by repeat (first | (with_reducible first | exact HB.out | apply below_alloc | apply pw_below_drewN | apply below_drew1) | exact HB.out)) hb); clear HB; have HB := n0_; clear n0_; (try clear hb); (try clear hb2); (try clear hk); (try clear hi)) | ((with_reducible refine gate_callee (f := 63) rfl ?_); refine goesL_ (some 50) rfl rfl Tryd.func63 (by kernel_rfl) rfl #[.int .u8 t485] rfl (by (try simp only [List.map_toArray, List.map_cons, List.map_nil]); first | done | rfl | (simp only [List.length_drop, List.length_take]; rfl)) ?_; (with_reducible refine (board_Kind.calls t485 t487 _ A29.out).mono ?_); rintro e w' ⟨rfl, ⟨nd, rfl⟩⟩; refine ⟨_, rfl, ?_⟩) | ((with_reducible refine gate_callee (f := 63) rfl ?_); refine goesL_ (some 52) rfl rfl Tryd.func63 (by kernel_rfl) rfl #[.int .u8 t486] rfl (by (try simp only [List.map_toArray, List.map_cons, List.map_nil]); first | done | rfl | (simp only [List.length_drop, List.length_take]; rfl)) ?_; (with_reducible refine (board_Kind.calls t486 t488 _ A30.out).mono ?_); rintro e w' ⟨rfl, ⟨nd, rfl⟩⟩; refine ⟨_, rfl, ?_⟩))
                    go_ret
                    exact ⟨by first | rfl | (simp [errW_none, errW_some] <;> rfl) | (simp [*, errW_none, errW_some] <;> rfl), by repeat (first | (with_reducible first | exact HB.out | apply below_alloc | apply pw_below_drewN | apply below_drew1) | exact HB.out)⟩
    · replace c7 := Bool.eq_false_iff.mpr c7
      subst c7
      have H1 : (if t474.toList = ([] : List UInt8) then ((riverbanklaw02_live.f).bind fun t476 => (some t476)) else (some false)) = some r := by rw [if_neg (show ¬ (false = true) by decide)] at H; exact H
      clear H
      have H := H1
      clear H1
      by_cases c49 : t474.toList = ([] : List UInt8)
      · rw [if_pos c49] at H
        have c49b0 : (t474.toList == ([] : List UInt8)) = true := beq_iff_eq.mpr c49
        have c49b1 : (t474.toList != ([] : List UInt8)) = false := bne_eq_false_iff_eq.mpr c49
        clear c49
        replace H := Option.bind_eq_some_iff.mp H
        obtain ⟨t476, A500, H⟩ := H
        replace H : (some t476) = some r := H
        have A50 := Aside0.mk A500
        clear A500
        obtain rfl := Option.some.inj H
        go_enter Tryd.func12, Tryd.ntmps12
        go_wp2_with (first | ((with_reducible refine gate_callee (f := 47) rfl ?_); refine goesL_ (some 9) rfl rfl Tryd.func47 (by kernel_rfl) rfl #[.string a0] rfl (by (try simp only [List.map_toArray, List.map_cons, List.map_nil]); first | done | rfl | (simp only [List.length_drop, List.length_take]; rfl)) ?_; (with_reducible refine (riverbanklaw02_small.calls a0 true _ A3.out).mono ?_); rintro e w' ⟨rfl, ⟨nd, rfl⟩⟩; refine ⟨_, rfl, ?_⟩) | ((with_reducible refine gate_callee (f := 60) rfl ?_); refine goesL_ (some 13) rfl rfl Tryd.func60 (by kernel_rfl) rfl #[.string a0] rfl (by (try simp only [List.map_toArray, List.map_cons, List.map_nil]); first | done | rfl | (simp only [List.length_drop, List.length_take]; rfl)) ?_; (with_reducible refine (board_Turn.calls a0 t474 _ A5.out).mono ?_); rintro e w51 ⟨rfl, hb⟩; refine ⟨_, rfl, ?_⟩; have n0_ := Aside0.mk (below_step (by repeat (first | (with_reducible first | exact HB.out | apply below_alloc | apply pw_below_drewN | apply below_drew1) | exact HB.out)) hb); clear HB; have HB := n0_; clear n0_; (try clear hb); (try clear hb2); (try clear hk); (try clear hi)) | ((with_reducible refine gate_callee (f := 50) rfl ?_); refine goesL_ (some 15) rfl rfl Tryd.func50 (by kernel_rfl) rfl #[.string a0] rfl (by (try simp only [List.map_toArray, List.map_cons, List.map_nil]); first | done | rfl | (simp only [List.length_drop, List.length_take]; rfl)) ?_; (with_reducible refine (board_Is.calls a0 false _ A6.out).mono ?_); rintro e w52 ⟨rfl, hb⟩; refine ⟨_, rfl, ?_⟩; have n0_ := Aside0.mk (below_step (by repeat (first | (with_reducible first | exact HB.out | apply below_alloc | apply pw_below_drewN | apply below_drew1) | exact HB.out)) hb); clear HB; have HB := n0_; clear n0_; (try clear hb); (try clear hb2); (try clear hk); (try clear hi)) | (go_at_call 48; (with_reducible refine (riverbanklaw02_live.calls  t476 _ (tab_of HT.out (by repeat (first | (with_reducible first | exact HB.out | apply below_alloc | apply pw_below_drewN | apply below_drew1) | exact HB.out))) A50.out).mono ?_); rintro e w53 ⟨rfl, hb⟩; have n0_ := Aside0.mk (below_step (by repeat (first | (with_reducible first | exact HB.out | apply below_alloc | apply pw_below_drewN | apply below_drew1) | exact HB.out)) hb); clear HB; have HB := n0_; clear n0_; (try clear hb); (try clear hb2); (try clear hk); (try clear hi)))
        go_ret
        exact ⟨by first | rfl | (simp [errW_none, errW_some] <;> rfl) | (simp [*, errW_none, errW_some] <;> rfl), by repeat (first | (with_reducible first | exact HB.out | apply below_alloc | apply pw_below_drewN | apply below_drew1) | exact HB.out)⟩
      · rw [if_neg c49] at H
        have c49b0 : (t474.toList == ([] : List UInt8)) = false := beq_eq_false_iff_ne.mpr c49
        have c49b1 : (t474.toList != ([] : List UInt8)) = true := bne_iff_ne.mpr c49
        obtain rfl := Option.some.inj H
        go_enter Tryd.func12, Tryd.ntmps12
        go_wp2_with (first | ((with_reducible refine gate_callee (f := 47) rfl ?_); refine goesL_ (some 9) rfl rfl Tryd.func47 (by kernel_rfl) rfl #[.string a0] rfl (by (try simp only [List.map_toArray, List.map_cons, List.map_nil]); first | done | rfl | (simp only [List.length_drop, List.length_take]; rfl)) ?_; (with_reducible refine (riverbanklaw02_small.calls a0 true _ A3.out).mono ?_); rintro e w' ⟨rfl, ⟨nd, rfl⟩⟩; refine ⟨_, rfl, ?_⟩) | ((with_reducible refine gate_callee (f := 60) rfl ?_); refine goesL_ (some 13) rfl rfl Tryd.func60 (by kernel_rfl) rfl #[.string a0] rfl (by (try simp only [List.map_toArray, List.map_cons, List.map_nil]); first | done | rfl | (simp only [List.length_drop, List.length_take]; rfl)) ?_; (with_reducible refine (board_Turn.calls a0 t474 _ A5.out).mono ?_); rintro e w54 ⟨rfl, hb⟩; refine ⟨_, rfl, ?_⟩; have n0_ := Aside0.mk (below_step (by repeat (first | (with_reducible first | exact HB.out | apply below_alloc | apply pw_below_drewN | apply below_drew1) | exact HB.out)) hb); clear HB; have HB := n0_; clear n0_; (try clear hb); (try clear hb2); (try clear hk); (try clear hi)) | ((with_reducible refine gate_callee (f := 50) rfl ?_); refine goesL_ (some 15) rfl rfl Tryd.func50 (by kernel_rfl) rfl #[.string a0] rfl (by (try simp only [List.map_toArray, List.map_cons, List.map_nil]); first | done | rfl | (simp only [List.length_drop, List.length_take]; rfl)) ?_; (with_reducible refine (board_Is.calls a0 false _ A6.out).mono ?_); rintro e w55 ⟨rfl, hb⟩; refine ⟨_, rfl, ?_⟩; have n0_ := Aside0.mk (below_step (by repeat (first | (with_reducible first | exact HB.out | apply below_alloc | apply pw_below_drewN | apply below_drew1) | exact HB.out)) hb); clear HB; have HB := n0_; clear n0_; (try clear hb); (try clear hb2); (try clear hk); (try clear hi)))
        go_ret
        exact ⟨by first | rfl | (simp [errW_none, errW_some] <;> rfl) | (simp [*, errW_none, errW_some] <;> rfl), by repeat (first | (with_reducible first | exact HB.out | apply below_alloc | apply pw_below_drewN | apply below_drew1) | exact HB.out)⟩
  · replace c4 := Bool.eq_false_iff.mpr c4
    subst c4
    have H1 : ((riverbanklaw02_live.f).bind fun t473 => (some t473)) = some r := by rw [if_neg (show ¬ (false = true) by decide)] at H; exact H
    clear H
    have H := H1
    clear H1
    replace H := Option.bind_eq_some_iff.mp H
    obtain ⟨t473, A560, H⟩ := H
    replace H : (some t473) = some r := H
    have A56 := Aside0.mk A560
    clear A560
    obtain rfl := Option.some.inj H
    go_enter Tryd.func12, Tryd.ntmps12
    go_wp2_with (first | ((with_reducible refine gate_callee (f := 47) rfl ?_); refine goesL_ (some 9) rfl rfl Tryd.func47 (by kernel_rfl) rfl #[.string a0] rfl (by (try simp only [List.map_toArray, List.map_cons, List.map_nil]); first | done | rfl | (simp only [List.length_drop, List.length_take]; rfl)) ?_; (with_reducible refine (riverbanklaw02_small.calls a0 false _ A3.out).mono ?_); rintro e w' ⟨rfl, ⟨nd, rfl⟩⟩; refine ⟨_, rfl, ?_⟩) | ((with_reducible refine gate_callee (f := 48) rfl ?_); refine goesL_ (some 11) rfl rfl Tryd.func48 (by kernel_rfl) rfl #[] rfl (by (try simp only [List.map_toArray, List.map_cons, List.map_nil]); first | done | rfl | (simp only [List.length_drop, List.length_take]; rfl)) ?_; (with_reducible refine (riverbanklaw02_live.calls  t473 _ (tab_of HT.out (by repeat (first | (with_reducible first | exact HB.out | apply below_alloc | apply pw_below_drewN | apply below_drew1) | exact HB.out))) A56.out).mono ?_); rintro e w57 ⟨rfl, hb⟩; refine ⟨_, rfl, ?_⟩; have n0_ := Aside0.mk (below_step (by repeat (first | (with_reducible first | exact HB.out | apply below_alloc | apply pw_below_drewN | apply below_drew1) | exact HB.out)) hb); clear HB; have HB := n0_; clear n0_; (try clear hb); (try clear hb2); (try clear hk); (try clear hi)))
    go_ret
    exact ⟨by first | rfl | (simp [errW_none, errW_some] <;> rfl) | (simp [*, errW_none, errW_some] <;> rfl), by repeat (first | (with_reducible first | exact HB.out | apply below_alloc | apply pw_below_drewN | apply below_drew1) | exact HB.out)⟩

/-- THE ONE PURE STATEMENT of riverbanklaw02_BoardTurn: yours. -/
def riverbanklaw02_BoardTurn.Pure : Prop := ∀ (a0 : ByteArray) (a1 : Int), a0.size ≤ 140737488351232 → (Lit.int .i64 a1).wf = true → ∃ k, riverbanklaw02_BoardTurn.f k a0 a1 = some true
theorem riverbanklaw02_BoardTurn.walk (P : riverbanklaw02_BoardTurn.Pure) (a0 : ByteArray) (a1 : Int) (w : World) (hT : TabHere w) (w0 : a0.size ≤ 140737488351232) (w1 : (Lit.int .i64 a1).wf = true) :
    Calls Tryd.prog 12 #[.string a0, .int .i64 a1] w fun e w' => e = .returned (.bool true) ∧ Below w.heap.size w w' := by
  obtain ⟨k, h⟩ := P a0 a1 w0 w1
  refine (riverbanklaw02_BoardTurn.calls k a0 a1 true w hT h).mono ?_
  rintro e w' ⟨rfl, hd⟩
  exact ⟨rfl, hd⟩

end Go.Proofs.YtkbimiimgcklaaaDoor.Print
