/- Merged by a program of this session (wip/gprint/merge.py): what this claim needs of this session's texts, each part as it was. -/
import Derived.Test.YtkbimiimgcklaaaDoorAllPlaceTurn7
import Derived.Test.YtkbimiimgcklaaaDoorAllPlaceTurn11
import Derived.Test.YtkbimiimgcklaaaDoorAllPlaceTurn14
import Derived.Test.YtkbimiimgcklaaaDoorAllPlaceTurn16
import Derived.Test.YtkbimiimgcklaaaDoorAllPlaceTurn17
import Derived.Test.YtkbimiimgcklaaaDoorAllPlaceTurn18
import Derived.Test.YtkbimiimgcklaaaDoorAllPlaceTurn22
import Derived.Test.YtkbimiimgcklaaaDoorAllPlaceTurn28
import Derived.Test.YtkbimiimgcklaaaDoorAllPlaceTurn29
import Derived.Test.YtkbimiimgcklaaaDoorAllPlaceTurn26
import Derived.Test.YtkbimiimgcklaaaDoorAllPlaceTurn19
namespace Go.Proofs.YtkbimiimgcklaaaDoor.Print
end Go.Proofs.YtkbimiimgcklaaaDoor.Print

-- of YtkbimiimgcklaaaDoorPrint33
-- Written by a program of this session (wip/gprint/gprint.py) over the kit's print; the parts marked GIVEN by hand.
namespace Go.Proofs.YtkbimiimgcklaaaDoor.Print
open Go.RowKit Go.Proofs.YtkbimiimgcklaaaDoorW.PrintWords Go.Proofs.YtkbimiimgcklaaaDoorW.PrintLast Go.Proofs.YtkbimiimgcklaaaDoorW.PrintMore
attribute [local go_sem] max2_int min2_int max_two min_two max_three min_three max_four min_four   -- for this text's walks alone
set_option linter.unusedVariables false
set_option linter.unusedSimpArgs false

/-! GIVEN riverbanklaw02_live -/
-- GIVEN riverbank/riverbanklaw02.live
-- MAKES yes
-- NEEDY yes
-- NEEDS riverbank/board.Turn
-- NEEDS riverbank/board.Is
-- NEEDS riverbank/board.At
-- NEEDS riverbank/board.Side
-- NEEDS riverbank/board.Kind
-- NEEDS riverbank/board.File
-- NEEDS riverbank/board.Rank
-- NEEDS riverbank/board.Square
-- NEEDS riverbank/board.Find
-- NEEDS riverbank/board.Pieces
-- NEEDS riverbank/board.Put
-- NEEDS riverbank/riverbankref01.Ints
def riverbanklaw02_live.f : Option (Bool) := some true
def start2 : ByteArray := ⟨#[82, 78, 66, 65, 75, 65, 66, 78, 82, 46, 46, 46, 46, 46, 46, 46, 46, 46, 46, 67, 46, 46, 46, 46, 46, 67, 46, 80, 46, 80, 46, 80, 46, 80, 46, 80, 46, 46, 46, 46, 46, 46, 46, 46, 46, 46, 46, 46, 46, 46, 46, 46, 46, 46, 112, 46, 112, 46, 112, 46, 112, 46, 112, 46, 99, 46, 46, 46, 46, 46, 99, 46, 46, 46, 46, 46, 46, 46, 46, 46, 46, 114, 110, 98, 97, 107, 97, 98, 110, 114]⟩
set_option maxRecDepth 100000 in
theorem live_facts : board_Is.f start2 = some true ∧ board_At.f start2 4 = some 75 ∧ board_At.f start2 90 = some 46 ∧ board_Side.f 99 = some 1 ∧ board_Kind.f 99 = some 67 ∧ board_Kind.f 120 = some 0 ∧ board_Side.f 46 = some (-1) ∧ board_File.f 22 = some 4 ∧ board_Rank.f 22 = some 2 ∧ board_File.f 90 = some (-1) ∧ board_Square.f 4 2 = some 22 ∧ board_Square.f 9 0 = some (-1) := by decide +kernel
set_option maxRecDepth 100000 in
theorem live_find : board_Find.f start2 67 = some [19, 25] := by decide +kernel
set_option maxRecDepth 100000 in
theorem live_ints : riverbankref01_Ints.f 10 [19, 25] [19, 25] = some true := by decide +kernel
set_option maxRecDepth 100000 in
theorem live_pieces : (board_Pieces.f start2 1).map List.length = some 16 := by decide +kernel
set_option maxRecDepth 100000 in
theorem live_put : (board_Put.f start2 40 114).bind (fun t => board_At.f t 40) = some 114 := by decide +kernel
set_option maxRecDepth 100000 in
theorem live_turn : board_Turn.f start2 = some start2 := by decide +kernel
theorem two_lit (W : World) (t : TypeId) : Kd.C (Kd.int .i64) (W.alloc (.cells #[.int .i64 19, .int .i64 25] t)) (some ⟨W.heap.size, 0, none⟩) [(19 : Int), 25].length [19, 25] := by
  refine Kd.C_of_reads (d := (0 : Int)) (h1 := fun _ => rfl) ⟨rfl, by decide, fun _ => ⟨_, rfl, fun j hj => ?_⟩⟩
  match j, hj with
  | 0, _ => exact (blk_cell (blk_new W _) 0).trans rfl
  | 1, _ => exact (blk_cell (blk_new W _) 1).trans rfl
set_option maxRecDepth 100000 in
set_option maxHeartbeats 8000000 in
theorem riverbanklaw02_live.calls (r : Bool) (w : World) (hT : TabHere w) (h : riverbanklaw02_live.f = some r) :
    Calls Tryd.prog 48 #[] w fun e w' => e = .returned (.bool r) ∧ Below w.heap.size w w' := by
  obtain rfl := Option.some.inj h
  clear h
  obtain ⟨f1, f2, f3, f4, f5, f6, f7, f8, f9, f10, f11, f12⟩ := live_facts
  obtain ⟨l, hl, hl16⟩ : ∃ l, board_Pieces.f start2 1 = some l ∧ l.length = 16 := by
    have := live_pieces
    cases e : board_Pieces.f start2 1 with
    | none => rw [e] at this; cases this
    | some l => rw [e] at this; exact ⟨l, rfl, Option.some.inj this⟩
  obtain ⟨p, hp, hpa⟩ := Option.bind_eq_some_iff.mp live_put
  have hpi := live_find
  have htu := live_turn
  unfold start2 at f1 f2 f3 hl hp hpi htu
  have F1 := Aside0.mk f1
  have F2 := Aside0.mk f2
  have F3 := Aside0.mk f3
  have F4 := Aside0.mk f4
  have F5 := Aside0.mk f5
  have F6 := Aside0.mk f6
  have F7 := Aside0.mk f7
  have F8 := Aside0.mk f8
  have F9 := Aside0.mk f9
  have F10 := Aside0.mk f10
  have F11 := Aside0.mk f11
  have F12 := Aside0.mk f12
  have FF := Aside0.mk hpi
  have FI := Aside0.mk live_ints
  have FP := Aside0.mk hl
  have FU := Aside0.mk hp
  have FA := Aside0.mk hpa
  have FT := Aside0.mk htu
  have HT := Aside0.mk hT
  have HB := Aside0.mk (Below.refl w.heap.size w)
  clear f1 f2 f3 f4 f5 f6 f7 f8 f9 f10 f11 f12 hl hp hpa hpi htu hT
  go_enter Tryd.func48, Tryd.ntmps48
  go_wp2_with (first
    | (go_at_call 50; (with_reducible refine (board_Is.calls _ true _ F1.out).mono ?_); rintro e w2 ⟨rfl, hb⟩; have n0_ := Aside0.mk (below_step (by repeat (first | (with_reducible first | exact HB.out | apply below_alloc | apply pw_below_drewN | apply below_drew1) | exact HB.out)) hb); clear HB; have HB := n0_; clear n0_ hb)
    | (go_at_call 52; (with_reducible refine (board_At.calls _ 4 75 _ F2.out).mono ?_); rintro e w2 ⟨rfl, hb⟩; have n0_ := Aside0.mk (below_step (by repeat (first | (with_reducible first | exact HB.out | apply below_alloc | apply pw_below_drewN | apply below_drew1) | exact HB.out)) hb); clear HB; have HB := n0_; clear n0_ hb)
    | (go_at_call 52; (with_reducible refine (board_At.calls _ 90 46 _ F3.out).mono ?_); rintro e w2 ⟨rfl, hb⟩; have n0_ := Aside0.mk (below_step (by repeat (first | (with_reducible first | exact HB.out | apply below_alloc | apply pw_below_drewN | apply below_drew1) | exact HB.out)) hb); clear HB; have HB := n0_; clear n0_ hb)
    | (go_at_call 52; (with_reducible refine (board_At.calls p 40 114 _ FA.out).mono ?_); rintro e w2 ⟨rfl, hb⟩; have n0_ := Aside0.mk (below_step (by repeat (first | (with_reducible first | exact HB.out | apply below_alloc | apply pw_below_drewN | apply below_drew1) | exact HB.out)) hb); clear HB; have HB := n0_; clear n0_ hb)
    | (go_at_call 62; (with_reducible refine (board_Side.calls 99 1 _ F4.out).mono ?_); rintro e w2 ⟨rfl, ⟨nd, rfl⟩⟩)
    | (go_at_call 62; (with_reducible refine (board_Side.calls 46 (-1) _ F7.out).mono ?_); rintro e w2 ⟨rfl, ⟨nd, rfl⟩⟩)
    | (go_at_call 63; (with_reducible refine (board_Kind.calls 99 67 _ F5.out).mono ?_); rintro e w2 ⟨rfl, ⟨nd, rfl⟩⟩)
    | (go_at_call 63; (with_reducible refine (board_Kind.calls 120 0 _ F6.out).mono ?_); rintro e w2 ⟨rfl, ⟨nd, rfl⟩⟩)
    | (go_at_call 65; (with_reducible refine (board_File.calls 22 4 _ F8.out).mono ?_); rintro e w2 ⟨rfl, ⟨nd, rfl⟩⟩)
    | (go_at_call 65; (with_reducible refine (board_File.calls 90 (-1) _ F10.out).mono ?_); rintro e w2 ⟨rfl, ⟨nd, rfl⟩⟩)
    | (go_at_call 67; (with_reducible refine (board_Rank.calls 22 2 _ F9.out).mono ?_); rintro e w2 ⟨rfl, ⟨nd, rfl⟩⟩)
    | (go_at_call 69; (with_reducible refine (board_Square.calls 4 2 22 _ F11.out).mono ?_); rintro e w2 ⟨rfl, ⟨nd, rfl⟩⟩)
    | (go_at_call 69; (with_reducible refine (board_Square.calls 9 0 (-1) _ F12.out).mono ?_); rintro e w2 ⟨rfl, ⟨nd, rfl⟩⟩)
    | (go_at_call 56; (with_reducible refine (board_Find.calls _ 67 [19, 25] _ (tab_of HT.out (by repeat (first | (with_reducible first | exact HB.out | apply below_alloc | apply pw_below_drewN | apply below_drew1) | exact HB.out))) FF.out).mono ?_); rintro e w2 ⟨v, rfl, ho, hb⟩; have HO := Aside0.mk ho; have n0_ := Aside0.mk (below_step (by repeat (first | (with_reducible first | exact HB.out | apply below_alloc | apply pw_below_drewN | apply below_drew1) | exact HB.out)) hb); clear HB; have HB := n0_; clear n0_ hb; clear ho; obtain ⟨Ao, co, eo⟩ := Kd.R_slice HO.out; subst eo)
    | (go_at_call 32; (refine (riverbankref01_Ints.calls 10 _ _ [19, 25] _ _ [19, 25] true _ ?side1 ?side2 ?side3 ?side4 FI.out).mono ?_); (case side1 => repeat (first | exact (Kd.R_reads' HO.out).2.2 | (with_reducible refine Kd.C_alloc ?_ _) | (with_reducible refine Kd.C_drewN ?_ _) | (with_reducible refine Kd.C_drew ?_))); (case side2 => exact (Kd.R_reads' HO.out).2.1); (case side3 => exact two_lit _ _); (case side4 => exact Nat.le_refl _); rintro e w2 ⟨rfl, ⟨nd, rfl⟩⟩)
    | (go_at_call 58; (with_reducible refine (board_Pieces.calls _ 1 l _ (tab_of HT.out (by repeat (first | (with_reducible first | exact HB.out | apply below_alloc | apply pw_below_drewN | apply below_drew1) | exact HB.out))) FP.out).mono ?_); rintro e w2 ⟨v2, rfl, ho, hb⟩; have HO2 := Aside0.mk ho; have n0_ := Aside0.mk (below_step (by repeat (first | (with_reducible first | exact HB.out | apply below_alloc | apply pw_below_drewN | apply below_drew1) | exact HB.out)) hb); clear HB; have HB := n0_; clear n0_ hb; clear ho; obtain ⟨Ap, cp, ep⟩ := Kd.R_slice HO2.out; subst ep)
    | (go_at_call 60; (with_reducible refine (board_Turn.calls _ _ _ FT.out).mono ?_); rintro e w2 ⟨rfl, hb⟩; have n0_ := Aside0.mk (below_step (by repeat (first | (with_reducible first | exact HB.out | apply below_alloc | apply pw_below_drewN | apply below_drew1) | exact HB.out)) hb); clear HB; have HB := n0_; clear n0_ hb)
    | (go_at_call 54; (with_reducible refine (board_Put.calls _ 40 114 p _ FU.out).mono ?_); rintro e w2 ⟨rfl, hb⟩; have n0_ := Aside0.mk (below_step (by repeat (first | (with_reducible first | exact HB.out | apply below_alloc | apply pw_below_drewN | apply below_drew1) | exact HB.out)) hb); clear HB; have HB := n0_; clear n0_ hb))
  trace_state
  go_ret
  exact ⟨rfl, (by repeat (first | (with_reducible first | exact HB.out | apply below_alloc | apply pw_below_drewN | apply below_drew1) | exact HB.out))⟩

end Go.Proofs.YtkbimiimgcklaaaDoor.Print
