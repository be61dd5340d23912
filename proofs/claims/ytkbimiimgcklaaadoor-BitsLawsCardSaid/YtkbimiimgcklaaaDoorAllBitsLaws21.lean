/- Merged by a program of this session (wip/gprint/merge.py): what this claim needs of this session's texts, each part as it was. -/
import Derived.Test.YtkbimiimgcklaaaDoorAllBitsLaws5
import Derived.Test.YtkbimiimgcklaaaDoorAllBitsLaws6
import Derived.Test.YtkbimiimgcklaaaDoorAllBitsLaws7
import Derived.Test.YtkbimiimgcklaaaDoorAllBitsLaws11
import Derived.Test.YtkbimiimgcklaaaDoorAllBitsLaws8
import Derived.Test.YtkbimiimgcklaaaDoorAllBitsLaws20
namespace Go.Proofs.YtkbimiimgcklaaaDoor.Print
end Go.Proofs.YtkbimiimgcklaaaDoor.Print

-- of YtkbimiimgcklaaaDoorPrint18
-- Written by a program of this session (wip/gprint/gprint.py) over the kit's print; the parts marked GIVEN by hand.
namespace Go.Proofs.YtkbimiimgcklaaaDoor.Print
open Go.RowKit Go.Proofs.YtkbimiimgcklaaaDoorW.PrintWords Go.Proofs.YtkbimiimgcklaaaDoorW.PrintLast Go.Proofs.YtkbimiimgcklaaaDoorW.PrintMore
attribute [local go_sem] max2_int min2_int max_two min_two max_three min_three max_four min_four   -- for this text's walks alone
set_option linter.unusedVariables false
set_option linter.unusedSimpArgs false

/-! GIVEN riverbanklaw01_BitsLaws -/
-- GIVEN riverbank/riverbanklaw01.BitsLaws
-- MAKES yes
-- ROUNDS yes
-- NEEDY yes
-- NEEDS (riverbank/bits.Set).Or
-- NEEDS (riverbank/bits.Set).And
-- NEEDS (riverbank/bits.Set).Minus
-- NEEDS (riverbank/bits.Set).Not
-- NEEDS (riverbank/bits.Set).Count
-- NEEDS riverbank/riverbanklaw01.live
theorem eqB24 (d : Nat) (w : World) (x0 y0 : Int) (x1 y1 : Int) :
    (Op.equalIn (d + 2) 24 (.agg #[.int .u64 x0, .int .u64 x1]) (.agg #[.int .u64 y0, .int .u64 y1])).run Tryd.prog w = .ok (x0 == y0 && (x1 == y1)) w := by
  refine eqA_of Tryd.underlying24 (by kernel_rfl) ?_
  refine eqf_cons (by rfl) (by go_simp; rfl) (by go_simp; rfl) (by go_simp) ?_
  exact eqf_last (by rfl) (by go_simp; rfl) (by go_simp; rfl) (by go_simp)
attribute [local go_sem high] eqB24
def riverbanklaw01_BitsLaws.f (k : Nat) (a0_0 : Int) (a0_1 : Int) (a1_0 : Int) (a1_1 : Int) : Option (Bool) := (bits_Set_Or.f a0_0 a0_1 a1_0 a1_1).bind fun bt374 => ((bits_Set_Not.f bt374.1 bt374.2).bind fun bt376 => ((bits_Set_Not.f a0_0 a0_1).bind fun bt378 => ((bits_Set_Not.f a1_0 a1_1).bind fun bt380 => ((bits_Set_And.f bt378.1 bt378.2 bt380.1 bt380.2).bind fun bt382 => (if (bt376.1 == bt382.1 && (bt376.2 == bt382.2)) = true then ((bits_Set_Or.f a0_0 a0_1 a1_0 a1_1).bind fun bt384 => ((bits_Set_Or.f a1_0 a1_1 a0_0 a0_1).bind fun bt386 => (if (bt384.1 == bt386.1 && (bt384.2 == bt386.2)) = true then ((bits_Set_Minus.f a0_0 a0_1 a1_0 a1_1).bind fun bt388 => ((bits_Set_And.f a0_0 a0_1 a1_0 a1_1).bind fun bt390 => ((bits_Set_Or.f bt388.1 bt388.2 bt390.1 bt390.2).bind fun bt392 => ((bits_Set_Or.f a0_0 a0_1 0 0).bind fun bt394 => (if (bt392.1 == bt394.1 && (bt392.2 == bt394.2)) = true then ((bits_Set_Count.f a0_0 a0_1).bind fun t396 => ((bits_Set_Not.f a0_0 a0_1).bind fun bt397 => ((bits_Set_Count.f bt397.1 bt397.2).bind fun t399 => (if (wrap64 (t396 + t399)) = 90 then ((bits_Set_Or.f a0_0 a0_1 a1_0 a1_1).bind fun bt400 => ((bits_Set_Count.f bt400.1 bt400.2).bind fun t402 => ((bits_Set_And.f a0_0 a0_1 a1_0 a1_1).bind fun bt403 => ((bits_Set_Count.f bt403.1 bt403.2).bind fun t405 => ((bits_Set_Count.f a0_0 a0_1).bind fun t406 => ((bits_Set_Count.f a1_0 a1_1).bind fun t407 => (if (wrap64 (t402 + t405)) = (wrap64 (t406 + t407)) then ((bits_Set_Not.f a0_0 a0_1).bind fun bt408 => ((bits_Set_And.f a0_0 a0_1 bt408.1 bt408.2).bind fun bt410 => (if (bt410.1 == 0 && (bt410.2 == 0)) = true then ((riverbanklaw01_live.f k).bind fun t412 => (some t412)) else (none)))) else (none)))))))) else (none))))) else (none)))))) else (none)))) else (none))))))
theorem riverbanklaw01_BitsLaws.mono : ∀ a0 a1 a2 a3 k, LeO (riverbanklaw01_BitsLaws.f k a0 a1 a2 a3) (riverbanklaw01_BitsLaws.f (k + 1) a0 a1 a2 a3) := by
  intro a0 a1 a2 a3 k
  unfold riverbanklaw01_BitsLaws.f
  repeat' first
      | (with_reducible exact riverbanklaw01_live.mono _)
      | (with_reducible exact LeO.refl _)
      | (with_reducible exact LeO.none _)
      | (with_reducible refine LeO.ite ?_ ?_)
      | (with_reducible refine LeO.bind ?_ (fun _ => ?_))
      | exact riverbanklaw01_live.mono _
      | exact LeO.none _
      | refine LeO.ite ?_ ?_
      | refine LeO.bind ?_ (fun _ => ?_)
def riverbanklaw01_BitsLaws.T1 : Bool × List (List Nat × List Nat) := (true, [([], []), ([], []), ([0, 1], [0, 1]), ([2, 2], [2]), ([], []), ([4, 3], [4]), ([], []), ([6, 5], [6]), ([5, 7, 7], [5, 7]), ([3, 8], [3, 8]), ([9, 8], [9]), ([10], [10]), ([10], [10]), ([11, 12, 10, 10], [10, 11, 12]), ([10], [10]), ([10], [10]), ([14, 15, 13, 10], [10, 14, 15]), ([13, 16, 10], [10, 13, 16]), ([10, 17], [10, 17]), ([18, 16], [18]), ([19], [19]), ([19], [19]), ([20, 21, 19, 19], [19, 20, 21]), ([19], [19]), ([19], [19]), ([23, 24, 22, 19], [19, 23, 24]), ([22, 25, 25, 19], [19, 22, 25]), ([19], [19]), ([19], [19]), ([27, 28, 26, 19], [19, 27, 28]), ([26, 29, 19], [19, 26, 29]), ([19, 30], [19, 30]), ([31, 29], [31]), ([32], [32]), ([33, 32, 32], [32, 33]), ([32], [32]), ([35, 34, 32], [32, 35]), ([36, 36, 32], [32, 36]), ([34, 37, 32], [32, 34, 37]), ([38, 32], [32, 38]), ([32, 39], [32, 39]), ([40, 37], [40]), ([41], [41]), ([41], [41]), ([42, 43, 41, 41], [41, 42, 43]), ([44, 44, 41], [41, 44]), ([41], [41]), ([41], [41]), ([46, 47, 45, 41], [41, 46, 47]), ([48, 48, 41], [41, 48]), ([45, 49, 41], [41, 45, 49]), ([41], [41]), ([51, 49, 41], [41, 51]), ([41], [41]), ([53, 52, 41], [41, 53]), ([52, 54, 41], [41, 52, 54]), ([50, 55, 41], [41, 50, 55]), ([41, 56], [41, 56]), ([57, 54], [57]), ([58], [58]), ([58], [58]), ([60, 58, 58], [58, 60]), ([59, 61, 61, 58], [58, 59, 61]), ([58], [58]), ([62, 63, 58], [58, 62, 63]), ([58, 64], [58, 64]), ([65, 62], [65]), ([66, 66], [66]), ([66, 67], [66, 67]), ([68, 67, 0, 1, 2, 3, 4, 5, 6, 7, 8, 9, 10, 11, 12, 13, 14, 15, 16, 17, 18, 19, 20, 21, 22, 23, 24, 25, 26, 27, 28, 29, 30, 31, 32, 33, 34, 35, 36, 37, 38, 39, 40, 41, 42, 43, 44, 45, 46, 47, 48, 49, 50, 51, 52, 53, 54, 55, 56, 57, 58, 59, 60, 61, 62, 63, 64, 65, 66, 67, 68], [68])])
def riverbanklaw01_BitsLaws.B1 : List Nat := [0, 0, 3, 7, 0, 31, 0, 127, 255, 511, 1023, 2047, 2047, 8191, 2047, 2047, 65535, 131071, 262143, 524287, 1048575, 1048575, 4194303, 1048575, 1048575, 33554431, 67108863, 1048575, 1048575, 536870911, 1073741823, 2147483647, 4294967295, 8589934591, 17179869183, 8589934591, 68719476735, 137438953471, 274877906943, 549755813887, 1099511627775, 2199023255551, 4398046511103, 4398046511103, 17592186044415, 35184372088831, 4398046511103, 4398046511103, 281474976710655, 562949953421311, 1125899906842623, 4398046511103, 3377699720527871, 4398046511103, 16888498602639359, 34902897112121343, 72057594037927935, 144115188075855871, 288230376151711743, 576460752303423487, 576460752303423487, 1729382256910270463, 4611686018427387903, 576460752303423487, 18446744073709551615, 36893488147419103231, 73786976294838206463, 147573952589676412927, 295147905179352825855, 590295810358705651711]
theorem riverbanklaw01_BitsLaws.tab1 : rtab .any (opsOf Tryd.f7 1) = riverbanklaw01_BitsLaws.T1 := by kernel_rfl
theorem riverbanklaw01_BitsLaws.bits1 : waitsOk riverbanklaw01_BitsLaws.T1.2 riverbanklaw01_BitsLaws.B1 = true := by kernel_rfl
set_option maxHeartbeats 8000000 in
set_option maxRecDepth 100000 in
theorem riverbanklaw01_BitsLaws.calls (k : Nat) (a0_0 : Int) (a0_1 : Int) (a1_0 : Int) (a1_1 : Int) (r : Bool) (w : World) (hT : TabHere w) (h : riverbanklaw01_BitsLaws.f k a0_0 a0_1 a1_0 a1_1 = some r) :
    Calls Tryd.prog 7 #[.agg #[.int .u64 a0_0, .int .u64 a0_1], .agg #[.int .u64 a1_0, .int .u64 a1_1]] w fun e w' => e = .returned (.bool r) ∧ Below w.heap.size w w' := by
  have HT := Aside0.mk hT
  clear hT
  have hu24 := Tryd.underlying24
  have HB := Aside0.mk (Below.refl w.heap.size w)
  have H : ((bits_Set_Or.f a0_0 a0_1 a1_0 a1_1).bind fun bt374 => ((bits_Set_Not.f bt374.1 bt374.2).bind fun bt376 => ((bits_Set_Not.f a0_0 a0_1).bind fun bt378 => ((bits_Set_Not.f a1_0 a1_1).bind fun bt380 => ((bits_Set_And.f bt378.1 bt378.2 bt380.1 bt380.2).bind fun bt382 => (if (bt376.1 == bt382.1 && (bt376.2 == bt382.2)) = true then ((bits_Set_Or.f a0_0 a0_1 a1_0 a1_1).bind fun bt384 => ((bits_Set_Or.f a1_0 a1_1 a0_0 a0_1).bind fun bt386 => (if (bt384.1 == bt386.1 && (bt384.2 == bt386.2)) = true then ((bits_Set_Minus.f a0_0 a0_1 a1_0 a1_1).bind fun bt388 => ((bits_Set_And.f a0_0 a0_1 a1_0 a1_1).bind fun bt390 => ((bits_Set_Or.f bt388.1 bt388.2 bt390.1 bt390.2).bind fun bt392 => ((bits_Set_Or.f a0_0 a0_1 0 0).bind fun bt394 => (if (bt392.1 == bt394.1 && (bt392.2 == bt394.2)) = true then ((bits_Set_Count.f a0_0 a0_1).bind fun t396 => ((bits_Set_Not.f a0_0 a0_1).bind fun bt397 => ((bits_Set_Count.f bt397.1 bt397.2).bind fun t399 => (if (wrap64 (t396 + t399)) = 90 then ((bits_Set_Or.f a0_0 a0_1 a1_0 a1_1).bind fun bt400 => ((bits_Set_Count.f bt400.1 bt400.2).bind fun t402 => ((bits_Set_And.f a0_0 a0_1 a1_0 a1_1).bind fun bt403 => ((bits_Set_Count.f bt403.1 bt403.2).bind fun t405 => ((bits_Set_Count.f a0_0 a0_1).bind fun t406 => ((bits_Set_Count.f a1_0 a1_1).bind fun t407 => (if (wrap64 (t402 + t405)) = (wrap64 (t406 + t407)) then ((bits_Set_Not.f a0_0 a0_1).bind fun bt408 => ((bits_Set_And.f a0_0 a0_1 bt408.1 bt408.2).bind fun bt410 => (if (bt410.1 == 0 && (bt410.2 == 0)) = true then ((riverbanklaw01_live.f k).bind fun t412 => (some t412)) else (none)))) else (none)))))))) else (none))))) else (none)))))) else (none)))) else (none))))))) = some r := h
  clear h
  replace H := Option.bind_eq_some_iff.mp H
  obtain ⟨⟨t374, t375⟩, A30, H⟩ := H
  replace H : ((bits_Set_Not.f t374 t375).bind fun bt376 => ((bits_Set_Not.f a0_0 a0_1).bind fun bt378 => ((bits_Set_Not.f a1_0 a1_1).bind fun bt380 => ((bits_Set_And.f bt378.1 bt378.2 bt380.1 bt380.2).bind fun bt382 => (if (bt376.1 == bt382.1 && (bt376.2 == bt382.2)) = true then ((bits_Set_Or.f a0_0 a0_1 a1_0 a1_1).bind fun bt384 => ((bits_Set_Or.f a1_0 a1_1 a0_0 a0_1).bind fun bt386 => (if (bt384.1 == bt386.1 && (bt384.2 == bt386.2)) = true then ((bits_Set_Minus.f a0_0 a0_1 a1_0 a1_1).bind fun bt388 => ((bits_Set_And.f a0_0 a0_1 a1_0 a1_1).bind fun bt390 => ((bits_Set_Or.f bt388.1 bt388.2 bt390.1 bt390.2).bind fun bt392 => ((bits_Set_Or.f a0_0 a0_1 0 0).bind fun bt394 => (if (bt392.1 == bt394.1 && (bt392.2 == bt394.2)) = true then ((bits_Set_Count.f a0_0 a0_1).bind fun t396 => ((bits_Set_Not.f a0_0 a0_1).bind fun bt397 => ((bits_Set_Count.f bt397.1 bt397.2).bind fun t399 => (if (wrap64 (t396 + t399)) = 90 then ((bits_Set_Or.f a0_0 a0_1 a1_0 a1_1).bind fun bt400 => ((bits_Set_Count.f bt400.1 bt400.2).bind fun t402 => ((bits_Set_And.f a0_0 a0_1 a1_0 a1_1).bind fun bt403 => ((bits_Set_Count.f bt403.1 bt403.2).bind fun t405 => ((bits_Set_Count.f a0_0 a0_1).bind fun t406 => ((bits_Set_Count.f a1_0 a1_1).bind fun t407 => (if (wrap64 (t402 + t405)) = (wrap64 (t406 + t407)) then ((bits_Set_Not.f a0_0 a0_1).bind fun bt408 => ((bits_Set_And.f a0_0 a0_1 bt408.1 bt408.2).bind fun bt410 => (if (bt410.1 == 0 && (bt410.2 == 0)) = true then ((riverbanklaw01_live.f k).bind fun t412 => (some t412)) else (none)))) else (none)))))))) else (none))))) else (none)))))) else (none)))) else (none)))))) = some r := H
  have A3 := Aside0.mk A30
  clear A30
  replace H := Option.bind_eq_some_iff.mp H
  obtain ⟨⟨t376, t377⟩, A40, H⟩ := H
  replace H : ((bits_Set_Not.f a0_0 a0_1).bind fun bt378 => ((bits_Set_Not.f a1_0 a1_1).bind fun bt380 => ((bits_Set_And.f bt378.1 bt378.2 bt380.1 bt380.2).bind fun bt382 => (if (t376 == bt382.1 && (t377 == bt382.2)) = true then ((bits_Set_Or.f a0_0 a0_1 a1_0 a1_1).bind fun bt384 => ((bits_Set_Or.f a1_0 a1_1 a0_0 a0_1).bind fun bt386 => (if (bt384.1 == bt386.1 && (bt384.2 == bt386.2)) = true then ((bits_Set_Minus.f a0_0 a0_1 a1_0 a1_1).bind fun bt388 => ((bits_Set_And.f a0_0 a0_1 a1_0 a1_1).bind fun bt390 => ((bits_Set_Or.f bt388.1 bt388.2 bt390.1 bt390.2).bind fun bt392 => ((bits_Set_Or.f a0_0 a0_1 0 0).bind fun bt394 => (if (bt392.1 == bt394.1 && (bt392.2 == bt394.2)) = true then ((bits_Set_Count.f a0_0 a0_1).bind fun t396 => ((bits_Set_Not.f a0_0 a0_1).bind fun bt397 => ((bits_Set_Count.f bt397.1 bt397.2).bind fun t399 => (if (wrap64 (t396 + t399)) = 90 then ((bits_Set_Or.f a0_0 a0_1 a1_0 a1_1).bind fun bt400 => ((bits_Set_Count.f bt400.1 bt400.2).bind fun t402 => ((bits_Set_And.f a0_0 a0_1 a1_0 a1_1).bind fun bt403 => ((bits_Set_Count.f bt403.1 bt403.2).bind fun t405 => ((bits_Set_Count.f a0_0 a0_1).bind fun t406 => ((bits_Set_Count.f a1_0 a1_1).bind fun t407 => (if (wrap64 (t402 + t405)) = (wrap64 (t406 + t407)) then ((bits_Set_Not.f a0_0 a0_1).bind fun bt408 => ((bits_Set_And.f a0_0 a0_1 bt408.1 bt408.2).bind fun bt410 => (if (bt410.1 == 0 && (bt410.2 == 0)) = true then ((riverbanklaw01_live.f k).bind fun t412 => (some t412)) else (none)))) else (none)))))))) else (none))))) else (none)))))) else (none)))) else (none))))) = some r := H
  have A4 := Aside0.mk A40
  clear A40
  replace H := Option.bind_eq_some_iff.mp H
  obtain ⟨⟨t378, t379⟩, A50, H⟩ := H
  replace H : ((bits_Set_Not.f a1_0 a1_1).bind fun bt380 => ((bits_Set_And.f t378 t379 bt380.1 bt380.2).bind fun bt382 => (if (t376 == bt382.1 && (t377 == bt382.2)) = true then ((bits_Set_Or.f a0_0 a0_1 a1_0 a1_1).bind fun bt384 => ((bits_Set_Or.f a1_0 a1_1 a0_0 a0_1).bind fun bt386 => (if (bt384.1 == bt386.1 && (bt384.2 == bt386.2)) = true then ((bits_Set_Minus.f a0_0 a0_1 a1_0 a1_1).bind fun bt388 => ((bits_Set_And.f a0_0 a0_1 a1_0 a1_1).bind fun bt390 => ((bits_Set_Or.f bt388.1 bt388.2 bt390.1 bt390.2).bind fun bt392 => ((bits_Set_Or.f a0_0 a0_1 0 0).bind fun bt394 => (if (bt392.1 == bt394.1 && (bt392.2 == bt394.2)) = true then ((bits_Set_Count.f a0_0 a0_1).bind fun t396 => ((bits_Set_Not.f a0_0 a0_1).bind fun bt397 => ((bits_Set_Count.f bt397.1 bt397.2).bind fun t399 => (if (wrap64 (t396 + t399)) = 90 then ((bits_Set_Or.f a0_0 a0_1 a1_0 a1_1).bind fun bt400 => ((bits_Set_Count.f bt400.1 bt400.2).bind fun t402 => ((bits_Set_And.f a0_0 a0_1 a1_0 a1_1).bind fun bt403 => ((bits_Set_Count.f bt403.1 bt403.2).bind fun t405 => ((bits_Set_Count.f a0_0 a0_1).bind fun t406 => ((bits_Set_Count.f a1_0 a1_1).bind fun t407 => (if (wrap64 (t402 + t405)) = (wrap64 (t406 + t407)) then ((bits_Set_Not.f a0_0 a0_1).bind fun bt408 => ((bits_Set_And.f a0_0 a0_1 bt408.1 bt408.2).bind fun bt410 => (if (bt410.1 == 0 && (bt410.2 == 0)) = true then ((riverbanklaw01_live.f k).bind fun t412 => (some t412)) else (none)))) else (none)))))))) else (none))))) else (none)))))) else (none)))) else (none)))) = some r := H
  have A5 := Aside0.mk A50
  clear A50
  replace H := Option.bind_eq_some_iff.mp H
  obtain ⟨⟨t380, t381⟩, A60, H⟩ := H
  replace H : ((bits_Set_And.f t378 t379 t380 t381).bind fun bt382 => (if (t376 == bt382.1 && (t377 == bt382.2)) = true then ((bits_Set_Or.f a0_0 a0_1 a1_0 a1_1).bind fun bt384 => ((bits_Set_Or.f a1_0 a1_1 a0_0 a0_1).bind fun bt386 => (if (bt384.1 == bt386.1 && (bt384.2 == bt386.2)) = true then ((bits_Set_Minus.f a0_0 a0_1 a1_0 a1_1).bind fun bt388 => ((bits_Set_And.f a0_0 a0_1 a1_0 a1_1).bind fun bt390 => ((bits_Set_Or.f bt388.1 bt388.2 bt390.1 bt390.2).bind fun bt392 => ((bits_Set_Or.f a0_0 a0_1 0 0).bind fun bt394 => (if (bt392.1 == bt394.1 && (bt392.2 == bt394.2)) = true then ((bits_Set_Count.f a0_0 a0_1).bind fun t396 => ((bits_Set_Not.f a0_0 a0_1).bind fun bt397 => ((bits_Set_Count.f bt397.1 bt397.2).bind fun t399 => (if (wrap64 (t396 + t399)) = 90 then ((bits_Set_Or.f a0_0 a0_1 a1_0 a1_1).bind fun bt400 => ((bits_Set_Count.f bt400.1 bt400.2).bind fun t402 => ((bits_Set_And.f a0_0 a0_1 a1_0 a1_1).bind fun bt403 => ((bits_Set_Count.f bt403.1 bt403.2).bind fun t405 => ((bits_Set_Count.f a0_0 a0_1).bind fun t406 => ((bits_Set_Count.f a1_0 a1_1).bind fun t407 => (if (wrap64 (t402 + t405)) = (wrap64 (t406 + t407)) then ((bits_Set_Not.f a0_0 a0_1).bind fun bt408 => ((bits_Set_And.f a0_0 a0_1 bt408.1 bt408.2).bind fun bt410 => (if (bt410.1 == 0 && (bt410.2 == 0)) = true then ((riverbanklaw01_live.f k).bind fun t412 => (some t412)) else (none)))) else (none)))))))) else (none))))) else (none)))))) else (none)))) else (none))) = some r := H
  have A6 := Aside0.mk A60
  clear A60
  replace H := Option.bind_eq_some_iff.mp H
  obtain ⟨⟨t382, t383⟩, A70, H⟩ := H
  replace H : (if (t376 == t382 && (t377 == t383)) = true then ((bits_Set_Or.f a0_0 a0_1 a1_0 a1_1).bind fun bt384 => ((bits_Set_Or.f a1_0 a1_1 a0_0 a0_1).bind fun bt386 => (if (bt384.1 == bt386.1 && (bt384.2 == bt386.2)) = true then ((bits_Set_Minus.f a0_0 a0_1 a1_0 a1_1).bind fun bt388 => ((bits_Set_And.f a0_0 a0_1 a1_0 a1_1).bind fun bt390 => ((bits_Set_Or.f bt388.1 bt388.2 bt390.1 bt390.2).bind fun bt392 => ((bits_Set_Or.f a0_0 a0_1 0 0).bind fun bt394 => (if (bt392.1 == bt394.1 && (bt392.2 == bt394.2)) = true then ((bits_Set_Count.f a0_0 a0_1).bind fun t396 => ((bits_Set_Not.f a0_0 a0_1).bind fun bt397 => ((bits_Set_Count.f bt397.1 bt397.2).bind fun t399 => (if (wrap64 (t396 + t399)) = 90 then ((bits_Set_Or.f a0_0 a0_1 a1_0 a1_1).bind fun bt400 => ((bits_Set_Count.f bt400.1 bt400.2).bind fun t402 => ((bits_Set_And.f a0_0 a0_1 a1_0 a1_1).bind fun bt403 => ((bits_Set_Count.f bt403.1 bt403.2).bind fun t405 => ((bits_Set_Count.f a0_0 a0_1).bind fun t406 => ((bits_Set_Count.f a1_0 a1_1).bind fun t407 => (if (wrap64 (t402 + t405)) = (wrap64 (t406 + t407)) then ((bits_Set_Not.f a0_0 a0_1).bind fun bt408 => ((bits_Set_And.f a0_0 a0_1 bt408.1 bt408.2).bind fun bt410 => (if (bt410.1 == 0 && (bt410.2 == 0)) = true then ((riverbanklaw01_live.f k).bind fun t412 => (some t412)) else (none)))) else (none)))))))) else (none))))) else (none)))))) else (none)))) else (none)) = some r := H
  have A7 := Aside0.mk A70
  clear A70
  by_cases c8 : (t376 == t382 && (t377 == t383)) = true
  · rw [if_pos c8] at H
    have c8b0 : (t376 == t382 && (t377 == t383)) = true := c8
    (try (have c8b1 : decide (t376 = t382 && (t377 == t383)) = true := by simpa using c8))
    (try (have c8b2 : (t376 == t382 && (t377 == t383)) = true := by simpa using c8))
    clear c8
    replace H := Option.bind_eq_some_iff.mp H
    obtain ⟨⟨t384, t385⟩, A90, H⟩ := H
    replace H : ((bits_Set_Or.f a1_0 a1_1 a0_0 a0_1).bind fun bt386 => (if (t384 == bt386.1 && (t385 == bt386.2)) = true then ((bits_Set_Minus.f a0_0 a0_1 a1_0 a1_1).bind fun bt388 => ((bits_Set_And.f a0_0 a0_1 a1_0 a1_1).bind fun bt390 => ((bits_Set_Or.f bt388.1 bt388.2 bt390.1 bt390.2).bind fun bt392 => ((bits_Set_Or.f a0_0 a0_1 0 0).bind fun bt394 => (if (bt392.1 == bt394.1 && (bt392.2 == bt394.2)) = true then ((bits_Set_Count.f a0_0 a0_1).bind fun t396 => ((bits_Set_Not.f a0_0 a0_1).bind fun bt397 => ((bits_Set_Count.f bt397.1 bt397.2).bind fun t399 => (if (wrap64 (t396 + t399)) = 90 then ((bits_Set_Or.f a0_0 a0_1 a1_0 a1_1).bind fun bt400 => ((bits_Set_Count.f bt400.1 bt400.2).bind fun t402 => ((bits_Set_And.f a0_0 a0_1 a1_0 a1_1).bind fun bt403 => ((bits_Set_Count.f bt403.1 bt403.2).bind fun t405 => ((bits_Set_Count.f a0_0 a0_1).bind fun t406 => ((bits_Set_Count.f a1_0 a1_1).bind fun t407 => (if (wrap64 (t402 + t405)) = (wrap64 (t406 + t407)) then ((bits_Set_Not.f a0_0 a0_1).bind fun bt408 => ((bits_Set_And.f a0_0 a0_1 bt408.1 bt408.2).bind fun bt410 => (if (bt410.1 == 0 && (bt410.2 == 0)) = true then ((riverbanklaw01_live.f k).bind fun t412 => (some t412)) else (none)))) else (none)))))))) else (none))))) else (none)))))) else (none))) = some r := H
    have A9 := Aside0.mk A90
    clear A90
    replace H := Option.bind_eq_some_iff.mp H
    obtain ⟨⟨t386, t387⟩, A100, H⟩ := H
    replace H : (if (t384 == t386 && (t385 == t387)) = true then ((bits_Set_Minus.f a0_0 a0_1 a1_0 a1_1).bind fun bt388 => ((bits_Set_And.f a0_0 a0_1 a1_0 a1_1).bind fun bt390 => ((bits_Set_Or.f bt388.1 bt388.2 bt390.1 bt390.2).bind fun bt392 => ((bits_Set_Or.f a0_0 a0_1 0 0).bind fun bt394 => (if (bt392.1 == bt394.1 && (bt392.2 == bt394.2)) = true then ((bits_Set_Count.f a0_0 a0_1).bind fun t396 => ((bits_Set_Not.f a0_0 a0_1).bind fun bt397 => ((bits_Set_Count.f bt397.1 bt397.2).bind fun t399 => (if (wrap64 (t396 + t399)) = 90 then ((bits_Set_Or.f a0_0 a0_1 a1_0 a1_1).bind fun bt400 => ((bits_Set_Count.f bt400.1 bt400.2).bind fun t402 => ((bits_Set_And.f a0_0 a0_1 a1_0 a1_1).bind fun bt403 => ((bits_Set_Count.f bt403.1 bt403.2).bind fun t405 => ((bits_Set_Count.f a0_0 a0_1).bind fun t406 => ((bits_Set_Count.f a1_0 a1_1).bind fun t407 => (if (wrap64 (t402 + t405)) = (wrap64 (t406 + t407)) then ((bits_Set_Not.f a0_0 a0_1).bind fun bt408 => ((bits_Set_And.f a0_0 a0_1 bt408.1 bt408.2).bind fun bt410 => (if (bt410.1 == 0 && (bt410.2 == 0)) = true then ((riverbanklaw01_live.f k).bind fun t412 => (some t412)) else (none)))) else (none)))))))) else (none))))) else (none)))))) else (none)) = some r := H
    have A10 := Aside0.mk A100
    clear A100
    by_cases c11 : (t384 == t386 && (t385 == t387)) = true
    · rw [if_pos c11] at H
      have c11b0 : (t384 == t386 && (t385 == t387)) = true := c11
      (try (have c11b1 : decide (t384 = t386 && (t385 == t387)) = true := by simpa using c11))
      (try (have c11b2 : (t384 == t386 && (t385 == t387)) = true := by simpa using c11))
      clear c11
      replace H := Option.bind_eq_some_iff.mp H
      obtain ⟨⟨t388, t389⟩, A120, H⟩ := H
      replace H : ((bits_Set_And.f a0_0 a0_1 a1_0 a1_1).bind fun bt390 => ((bits_Set_Or.f t388 t389 bt390.1 bt390.2).bind fun bt392 => ((bits_Set_Or.f a0_0 a0_1 0 0).bind fun bt394 => (if (bt392.1 == bt394.1 && (bt392.2 == bt394.2)) = true then ((bits_Set_Count.f a0_0 a0_1).bind fun t396 => ((bits_Set_Not.f a0_0 a0_1).bind fun bt397 => ((bits_Set_Count.f bt397.1 bt397.2).bind fun t399 => (if (wrap64 (t396 + t399)) = 90 then ((bits_Set_Or.f a0_0 a0_1 a1_0 a1_1).bind fun bt400 => ((bits_Set_Count.f bt400.1 bt400.2).bind fun t402 => ((bits_Set_And.f a0_0 a0_1 a1_0 a1_1).bind fun bt403 => ((bits_Set_Count.f bt403.1 bt403.2).bind fun t405 => ((bits_Set_Count.f a0_0 a0_1).bind fun t406 => ((bits_Set_Count.f a1_0 a1_1).bind fun t407 => (if (wrap64 (t402 + t405)) = (wrap64 (t406 + t407)) then ((bits_Set_Not.f a0_0 a0_1).bind fun bt408 => ((bits_Set_And.f a0_0 a0_1 bt408.1 bt408.2).bind fun bt410 => (if (bt410.1 == 0 && (bt410.2 == 0)) = true then ((riverbanklaw01_live.f k).bind fun t412 => (some t412)) else (none)))) else (none)))))))) else (none))))) else (none))))) = some r := H
      have A12 := Aside0.mk A120
      clear A120
      replace H := Option.bind_eq_some_iff.mp H
      obtain ⟨⟨t390, t391⟩, A130, H⟩ := H
      replace H : ((bits_Set_Or.f t388 t389 t390 t391).bind fun bt392 => ((bits_Set_Or.f a0_0 a0_1 0 0).bind fun bt394 => (if (bt392.1 == bt394.1 && (bt392.2 == bt394.2)) = true then ((bits_Set_Count.f a0_0 a0_1).bind fun t396 => ((bits_Set_Not.f a0_0 a0_1).bind fun bt397 => ((bits_Set_Count.f bt397.1 bt397.2).bind fun t399 => (if (wrap64 (t396 + t399)) = 90 then ((bits_Set_Or.f a0_0 a0_1 a1_0 a1_1).bind fun bt400 => ((bits_Set_Count.f bt400.1 bt400.2).bind fun t402 => ((bits_Set_And.f a0_0 a0_1 a1_0 a1_1).bind fun bt403 => ((bits_Set_Count.f bt403.1 bt403.2).bind fun t405 => ((bits_Set_Count.f a0_0 a0_1).bind fun t406 => ((bits_Set_Count.f a1_0 a1_1).bind fun t407 => (if (wrap64 (t402 + t405)) = (wrap64 (t406 + t407)) then ((bits_Set_Not.f a0_0 a0_1).bind fun bt408 => ((bits_Set_And.f a0_0 a0_1 bt408.1 bt408.2).bind fun bt410 => (if (bt410.1 == 0 && (bt410.2 == 0)) = true then ((riverbanklaw01_live.f k).bind fun t412 => (some t412)) else (none)))) else (none)))))))) else (none))))) else (none)))) = some r := H
      have A13 := Aside0.mk A130
      clear A130
      replace H := Option.bind_eq_some_iff.mp H
      obtain ⟨⟨t392, t393⟩, A140, H⟩ := H
      replace H : ((bits_Set_Or.f a0_0 a0_1 0 0).bind fun bt394 => (if (t392 == bt394.1 && (t393 == bt394.2)) = true then ((bits_Set_Count.f a0_0 a0_1).bind fun t396 => ((bits_Set_Not.f a0_0 a0_1).bind fun bt397 => ((bits_Set_Count.f bt397.1 bt397.2).bind fun t399 => (if (wrap64 (t396 + t399)) = 90 then ((bits_Set_Or.f a0_0 a0_1 a1_0 a1_1).bind fun bt400 => ((bits_Set_Count.f bt400.1 bt400.2).bind fun t402 => ((bits_Set_And.f a0_0 a0_1 a1_0 a1_1).bind fun bt403 => ((bits_Set_Count.f bt403.1 bt403.2).bind fun t405 => ((bits_Set_Count.f a0_0 a0_1).bind fun t406 => ((bits_Set_Count.f a1_0 a1_1).bind fun t407 => (if (wrap64 (t402 + t405)) = (wrap64 (t406 + t407)) then ((bits_Set_Not.f a0_0 a0_1).bind fun bt408 => ((bits_Set_And.f a0_0 a0_1 bt408.1 bt408.2).bind fun bt410 => (if (bt410.1 == 0 && (bt410.2 == 0)) = true then ((riverbanklaw01_live.f k).bind fun t412 => (some t412)) else (none)))) else (none)))))))) else (none))))) else (none))) = some r := H
      have A14 := Aside0.mk A140
      clear A140
      replace H := Option.bind_eq_some_iff.mp H
      obtain ⟨⟨t394, t395⟩, A150, H⟩ := H
      replace H : (if (t392 == t394 && (t393 == t395)) = true then ((bits_Set_Count.f a0_0 a0_1).bind fun t396 => ((bits_Set_Not.f a0_0 a0_1).bind fun bt397 => ((bits_Set_Count.f bt397.1 bt397.2).bind fun t399 => (if (wrap64 (t396 + t399)) = 90 then ((bits_Set_Or.f a0_0 a0_1 a1_0 a1_1).bind fun bt400 => ((bits_Set_Count.f bt400.1 bt400.2).bind fun t402 => ((bits_Set_And.f a0_0 a0_1 a1_0 a1_1).bind fun bt403 => ((bits_Set_Count.f bt403.1 bt403.2).bind fun t405 => ((bits_Set_Count.f a0_0 a0_1).bind fun t406 => ((bits_Set_Count.f a1_0 a1_1).bind fun t407 => (if (wrap64 (t402 + t405)) = (wrap64 (t406 + t407)) then ((bits_Set_Not.f a0_0 a0_1).bind fun bt408 => ((bits_Set_And.f a0_0 a0_1 bt408.1 bt408.2).bind fun bt410 => (if (bt410.1 == 0 && (bt410.2 == 0)) = true then ((riverbanklaw01_live.f k).bind fun t412 => (some t412)) else (none)))) else (none)))))))) else (none))))) else (none)) = some r := H
      have A15 := Aside0.mk A150
      clear A150
      by_cases c16 : (t392 == t394 && (t393 == t395)) = true
      · rw [if_pos c16] at H
        have c16b0 : (t392 == t394 && (t393 == t395)) = true := c16
        (try (have c16b1 : decide (t392 = t394 && (t393 == t395)) = true := by simpa using c16))
        (try (have c16b2 : (t392 == t394 && (t393 == t395)) = true := by simpa using c16))
        clear c16
        replace H := Option.bind_eq_some_iff.mp H
        obtain ⟨t396, A170, H⟩ := H
        replace H : ((bits_Set_Not.f a0_0 a0_1).bind fun bt397 => ((bits_Set_Count.f bt397.1 bt397.2).bind fun t399 => (if (wrap64 (t396 + t399)) = 90 then ((bits_Set_Or.f a0_0 a0_1 a1_0 a1_1).bind fun bt400 => ((bits_Set_Count.f bt400.1 bt400.2).bind fun t402 => ((bits_Set_And.f a0_0 a0_1 a1_0 a1_1).bind fun bt403 => ((bits_Set_Count.f bt403.1 bt403.2).bind fun t405 => ((bits_Set_Count.f a0_0 a0_1).bind fun t406 => ((bits_Set_Count.f a1_0 a1_1).bind fun t407 => (if (wrap64 (t402 + t405)) = (wrap64 (t406 + t407)) then ((bits_Set_Not.f a0_0 a0_1).bind fun bt408 => ((bits_Set_And.f a0_0 a0_1 bt408.1 bt408.2).bind fun bt410 => (if (bt410.1 == 0 && (bt410.2 == 0)) = true then ((riverbanklaw01_live.f k).bind fun t412 => (some t412)) else (none)))) else (none)))))))) else (none)))) = some r := H
        have A17 := Aside0.mk A170
        clear A170
        replace H := Option.bind_eq_some_iff.mp H
        obtain ⟨⟨t397, t398⟩, A180, H⟩ := H
        replace H : ((bits_Set_Count.f t397 t398).bind fun t399 => (if (wrap64 (t396 + t399)) = 90 then ((bits_Set_Or.f a0_0 a0_1 a1_0 a1_1).bind fun bt400 => ((bits_Set_Count.f bt400.1 bt400.2).bind fun t402 => ((bits_Set_And.f a0_0 a0_1 a1_0 a1_1).bind fun bt403 => ((bits_Set_Count.f bt403.1 bt403.2).bind fun t405 => ((bits_Set_Count.f a0_0 a0_1).bind fun t406 => ((bits_Set_Count.f a1_0 a1_1).bind fun t407 => (if (wrap64 (t402 + t405)) = (wrap64 (t406 + t407)) then ((bits_Set_Not.f a0_0 a0_1).bind fun bt408 => ((bits_Set_And.f a0_0 a0_1 bt408.1 bt408.2).bind fun bt410 => (if (bt410.1 == 0 && (bt410.2 == 0)) = true then ((riverbanklaw01_live.f k).bind fun t412 => (some t412)) else (none)))) else (none)))))))) else (none))) = some r := H
        have A18 := Aside0.mk A180
        clear A180
        replace H := Option.bind_eq_some_iff.mp H
        obtain ⟨t399, A190, H⟩ := H
        replace H : (if (wrap64 (t396 + t399)) = 90 then ((bits_Set_Or.f a0_0 a0_1 a1_0 a1_1).bind fun bt400 => ((bits_Set_Count.f bt400.1 bt400.2).bind fun t402 => ((bits_Set_And.f a0_0 a0_1 a1_0 a1_1).bind fun bt403 => ((bits_Set_Count.f bt403.1 bt403.2).bind fun t405 => ((bits_Set_Count.f a0_0 a0_1).bind fun t406 => ((bits_Set_Count.f a1_0 a1_1).bind fun t407 => (if (wrap64 (t402 + t405)) = (wrap64 (t406 + t407)) then ((bits_Set_Not.f a0_0 a0_1).bind fun bt408 => ((bits_Set_And.f a0_0 a0_1 bt408.1 bt408.2).bind fun bt410 => (if (bt410.1 == 0 && (bt410.2 == 0)) = true then ((riverbanklaw01_live.f k).bind fun t412 => (some t412)) else (none)))) else (none)))))))) else (none)) = some r := H
        have A19 := Aside0.mk A190
        clear A190
        by_cases c20 : (wrap64 (t396 + t399)) = 90
        · rw [if_pos c20] at H
          have c20b0 : ((wrap64 (t396 + t399)) == 90) = true := beq_iff_eq.mpr c20
          have c20b1 : ((wrap64 (t396 + t399)) != 90) = false := bne_eq_false_iff_eq.mpr c20
          clear c20
          replace H := Option.bind_eq_some_iff.mp H
          obtain ⟨⟨t400, t401⟩, A210, H⟩ := H
          replace H : ((bits_Set_Count.f t400 t401).bind fun t402 => ((bits_Set_And.f a0_0 a0_1 a1_0 a1_1).bind fun bt403 => ((bits_Set_Count.f bt403.1 bt403.2).bind fun t405 => ((bits_Set_Count.f a0_0 a0_1).bind fun t406 => ((bits_Set_Count.f a1_0 a1_1).bind fun t407 => (if (wrap64 (t402 + t405)) = (wrap64 (t406 + t407)) then ((bits_Set_Not.f a0_0 a0_1).bind fun bt408 => ((bits_Set_And.f a0_0 a0_1 bt408.1 bt408.2).bind fun bt410 => (if (bt410.1 == 0 && (bt410.2 == 0)) = true then ((riverbanklaw01_live.f k).bind fun t412 => (some t412)) else (none)))) else (none))))))) = some r := H
          have A21 := Aside0.mk A210
          clear A210
          replace H := Option.bind_eq_some_iff.mp H
          obtain ⟨t402, A220, H⟩ := H
          replace H : ((bits_Set_And.f a0_0 a0_1 a1_0 a1_1).bind fun bt403 => ((bits_Set_Count.f bt403.1 bt403.2).bind fun t405 => ((bits_Set_Count.f a0_0 a0_1).bind fun t406 => ((bits_Set_Count.f a1_0 a1_1).bind fun t407 => (if (wrap64 (t402 + t405)) = (wrap64 (t406 + t407)) then ((bits_Set_Not.f a0_0 a0_1).bind fun bt408 => ((bits_Set_And.f a0_0 a0_1 bt408.1 bt408.2).bind fun bt410 => (if (bt410.1 == 0 && (bt410.2 == 0)) = true then ((riverbanklaw01_live.f k).bind fun t412 => (some t412)) else (none)))) else (none)))))) = some r := H
          have A22 := Aside0.mk A220
          clear A220
          replace H := Option.bind_eq_some_iff.mp H
          obtain ⟨⟨t403, t404⟩, A230, H⟩ := H
          replace H : ((bits_Set_Count.f t403 t404).bind fun t405 => ((bits_Set_Count.f a0_0 a0_1).bind fun t406 => ((bits_Set_Count.f a1_0 a1_1).bind fun t407 => (if (wrap64 (t402 + t405)) = (wrap64 (t406 + t407)) then ((bits_Set_Not.f a0_0 a0_1).bind fun bt408 => ((bits_Set_And.f a0_0 a0_1 bt408.1 bt408.2).bind fun bt410 => (if (bt410.1 == 0 && (bt410.2 == 0)) = true then ((riverbanklaw01_live.f k).bind fun t412 => (some t412)) else (none)))) else (none))))) = some r := H
          have A23 := Aside0.mk A230
          clear A230
          replace H := Option.bind_eq_some_iff.mp H
          obtain ⟨t405, A240, H⟩ := H
          replace H : ((bits_Set_Count.f a0_0 a0_1).bind fun t406 => ((bits_Set_Count.f a1_0 a1_1).bind fun t407 => (if (wrap64 (t402 + t405)) = (wrap64 (t406 + t407)) then ((bits_Set_Not.f a0_0 a0_1).bind fun bt408 => ((bits_Set_And.f a0_0 a0_1 bt408.1 bt408.2).bind fun bt410 => (if (bt410.1 == 0 && (bt410.2 == 0)) = true then ((riverbanklaw01_live.f k).bind fun t412 => (some t412)) else (none)))) else (none)))) = some r := H
          have A24 := Aside0.mk A240
          clear A240
          replace H := Option.bind_eq_some_iff.mp H
          obtain ⟨t406, A250, H⟩ := H
          replace H : ((bits_Set_Count.f a1_0 a1_1).bind fun t407 => (if (wrap64 (t402 + t405)) = (wrap64 (t406 + t407)) then ((bits_Set_Not.f a0_0 a0_1).bind fun bt408 => ((bits_Set_And.f a0_0 a0_1 bt408.1 bt408.2).bind fun bt410 => (if (bt410.1 == 0 && (bt410.2 == 0)) = true then ((riverbanklaw01_live.f k).bind fun t412 => (some t412)) else (none)))) else (none))) = some r := H
          have A25 := Aside0.mk A250
          clear A250
          replace H := Option.bind_eq_some_iff.mp H
          obtain ⟨t407, A260, H⟩ := H
          replace H : (if (wrap64 (t402 + t405)) = (wrap64 (t406 + t407)) then ((bits_Set_Not.f a0_0 a0_1).bind fun bt408 => ((bits_Set_And.f a0_0 a0_1 bt408.1 bt408.2).bind fun bt410 => (if (bt410.1 == 0 && (bt410.2 == 0)) = true then ((riverbanklaw01_live.f k).bind fun t412 => (some t412)) else (none)))) else (none)) = some r := H
          have A26 := Aside0.mk A260
          clear A260
          by_cases c27 : (wrap64 (t402 + t405)) = (wrap64 (t406 + t407))
          · rw [if_pos c27] at H
            have c27b0 : ((wrap64 (t402 + t405)) == (wrap64 (t406 + t407))) = true := beq_iff_eq.mpr c27
            have c27b1 : ((wrap64 (t402 + t405)) != (wrap64 (t406 + t407))) = false := bne_eq_false_iff_eq.mpr c27
            clear c27
            replace H := Option.bind_eq_some_iff.mp H
            obtain ⟨⟨t408, t409⟩, A280, H⟩ := H
            replace H : ((bits_Set_And.f a0_0 a0_1 t408 t409).bind fun bt410 => (if (bt410.1 == 0 && (bt410.2 == 0)) = true then ((riverbanklaw01_live.f k).bind fun t412 => (some t412)) else (none))) = some r := H
            have A28 := Aside0.mk A280
            clear A280
            replace H := Option.bind_eq_some_iff.mp H
            obtain ⟨⟨t410, t411⟩, A290, H⟩ := H
            replace H : (if (t410 == 0 && (t411 == 0)) = true then ((riverbanklaw01_live.f k).bind fun t412 => (some t412)) else (none)) = some r := H
            have A29 := Aside0.mk A290
            clear A290
            by_cases c30 : (t410 == 0 && (t411 == 0)) = true
            · rw [if_pos c30] at H
              have c30b0 : (t410 == 0 && (t411 == 0)) = true := c30
              (try (have c30b1 : decide (t410 = 0 && (t411 == 0)) = true := by simpa using c30))
              (try (have c30b2 : (t410 == 0 && (t411 == 0)) = true := by simpa using c30))
              clear c30
              replace H := Option.bind_eq_some_iff.mp H
              obtain ⟨t412, A310, H⟩ := H
              replace H : (some t412) = some r := H
              have A31 := Aside0.mk A310
              clear A310
              obtain rfl := Option.some.inj H
              go_enter Tryd.func7, Tryd.ntmps7
              try go_wp2_with (first | ((with_reducible refine gate_dst (N := 2) rfl ?_); refine box_event ?hg (N := 2) ?hd (cs := #[.int .u64 a0_0, .int .u64 a0_1]) (t := 24) ?hr ?_; (case hd => rfl); (case hg => rfl); (case hr => first | (go_simp; done) | (go_simp; rfl)); intro gb372 hg w32 hbox hb; have n0_ := Aside0.mk (below_step (by repeat (first | (with_reducible first | exact HB.out | apply below_alloc | apply pw_below_drewN | apply below_drew1) | exact HB.out)) hb); have n1_ := Aside0.mk (hbox); have n2_ := Aside0.mk ((by rw [hg]; exact (below_size (by repeat (first | (with_reducible first | exact HB.out | apply below_alloc | apply pw_below_drewN | apply below_drew1) | exact HB.out))) : w.heap.size ≤ gb372)); have n3_ := Aside0.mk ((by rw [hg]; exact (below_size (by repeat (first | (with_reducible first | exact HB.out | apply below_alloc | apply pw_below_drewN | apply below_drew1) | exact HB.out))) : w.heap.size ≤ gb372)); clear HB; have HB := n0_; have BK372 := n1_; have GW372 := n2_; have GE372 := n3_; clear n0_ n1_ n2_ n3_; clear hb hbox hg) | ((with_reducible refine gate_dst (N := 3) rfl ?_); refine box_event ?hg (N := 3) ?hd (cs := #[.int .u64 a1_0, .int .u64 a1_1]) (t := 24) ?hr ?_; (case hd => rfl); (case hg => rfl); (case hr => first | (go_simp; done) | (go_simp; rfl)); intro gb373 hg w33 hbox hb; have n0_ := Aside0.mk (blk_below (g := gb372) (o := .cells #[.int .u64 a0_0, .int .u64 a0_1] 24 (0, 0)) (by (with_reducible repeat (first | refine blk_drewN ?_ _ | refine blk_drew ?_ | refine blk_alloc ?_ _)); exact BK372.out) hb); have n1_ := Aside0.mk (below_step (by repeat (first | (with_reducible first | exact HB.out | apply below_alloc | apply pw_below_drewN | apply below_drew1 | refine below_set ?_ GE372.out) | exact HB.out)) hb); have n2_ := Aside0.mk (hbox); have n3_ := Aside0.mk ((by rw [hg]; exact (below_size (by repeat (first | (with_reducible first | exact HB.out | apply below_alloc | apply pw_below_drewN | apply below_drew1 | refine below_set ?_ GE372.out) | exact HB.out))) : w.heap.size ≤ gb373)); have n4_ := Aside0.mk ((by rw [hg]; exact (below_size (by repeat (first | (with_reducible first | exact HB.out | apply below_alloc | apply pw_below_drewN | apply below_drew1 | refine below_set ?_ GE372.out) | exact HB.out))) : w.heap.size ≤ gb373)); have n5_ := Aside0.mk ((by rw [hg]; exact Nat.ne_of_lt (blk_lt (g := gb372) (o := .cells #[.int .u64 a0_0, .int .u64 a0_1] 24 (0, 0)) (by (with_reducible repeat (first | refine blk_drewN ?_ _ | refine blk_drew ?_ | refine blk_alloc ?_ _)); exact BK372.out)) : gb372 ≠ gb373)); have n6_ := Aside0.mk ((by rw [hg]; exact Nat.ne_of_gt (blk_lt (g := gb372) (o := .cells #[.int .u64 a0_0, .int .u64 a0_1] 24 (0, 0)) (by (with_reducible repeat (first | refine blk_drewN ?_ _ | refine blk_drew ?_ | refine blk_alloc ?_ _)); exact BK372.out)) : gb373 ≠ gb372)); clear BK372; clear HB; have BK372 := n0_; have HB := n1_; have BK373 := n2_; have GW373 := n3_; have GE373 := n4_; have NB372_373 := n5_; have NB373_372 := n6_; clear n0_ n1_ n2_ n3_ n4_ n5_ n6_; clear hb hbox hg))
              have n0_ := Aside0.mk (blk_drew BK372.out)
              have n1_ := Aside0.mk (blk_drew BK373.out)
              have n2_ := Aside0.mk (below_drew1 HB.out)
              clear BK372
              clear BK373
              clear HB
              have BK372 := n0_
              have BK373 := n1_
              have HB := n2_
              clear n0_ n1_ n2_
              refine start_ (n := 70) (S := fun w' => w'.cell? ⟨gb372, 0, none⟩ = some (.int .u64 a0_0) ∧ w'.cell? ⟨gb372, 1, none⟩ = some (.int .u64 a0_1) ∧ w'.cell? ⟨gb373, 0, none⟩ = some (.int .u64 a1_0) ∧ w'.cell? ⟨gb373, 1, none⟩ = some (.int .u64 a1_1)) (ds := []) #[false, false, false, false, false, false, false, false, false, false, false, false, false, false, false, false, false, false, false, false, false, false, false, false, false, false, false, false, false, false, false, false, false, false, false, false, false, false, false, false, false, false, false, false, false, false, false, false, false, false, false, false, false, false, false, false, false, false, false, false, false, false, false, false, false, false, false, false, false, false] (by kernel_rfl) rfl rfl ⟨(blk_cell BK372.out 0).trans rfl, (blk_cell BK372.out 1).trans rfl, (blk_cell BK373.out 0).trans rfl, (blk_cell BK373.out 1).trans rfl⟩ (fun hHeld => ?_); refine with_tabW riverbanklaw01_BitsLaws.tab1 riverbanklaw01_BitsLaws.bits1 (fun HT_ HW_ => ?_)
              generalize w33.drew = w34 at BK372 BK373 HB hHeld ⊢
              refine take_ (i := 0) (N := some 5) (v := ?_) (a' := ?_) #[true, false, false, false, false, false, false, false, false, false, false, false, false, false, false, false, false, false, false, false, false, false, false, false, false, false, false, false, false, false, false, false, false, false, false, false, false, false, false, false, false, false, false, false, false, false, false, false, false, false, false, false, false, false, false, false, false, false, false, false, false, false, false, false, false, false, false, false, false, false] rfl rfl (take_ofW HT_.out HW_.out (by kernel_rfl)) (fun _ _ _ h => h) (Or.inl ⟨by rfl, ?_⟩) hHeld ?_ ?_
              rotate_left
              · rintro w' ⟨s0, s1, s2, s3⟩
                go_simp
                with_reducible rfl
              rotate_left
              · simp only [Act.put, List.setIfInBounds_toArray, List.set_cons_zero, List.set_cons_succ, i64_w, i32_w]
                rfl
              refine take_ (i := 1) (N := some 6) (v := ?_) (a' := ?_) #[true, true, false, false, false, false, false, false, false, false, false, false, false, false, false, false, false, false, false, false, false, false, false, false, false, false, false, false, false, false, false, false, false, false, false, false, false, false, false, false, false, false, false, false, false, false, false, false, false, false, false, false, false, false, false, false, false, false, false, false, false, false, false, false, false, false, false, false, false, false] rfl rfl (take_ofW HT_.out HW_.out (by kernel_rfl)) (fun _ _ _ h => h) (Or.inl ⟨by rfl, ?_⟩) hHeld ?_ ?_
              rotate_left
              · rintro w' ⟨s0, s1, s2, s3⟩
                go_simp
                with_reducible rfl
              rotate_left
              · simp only [Act.put, List.setIfInBounds_toArray, List.set_cons_zero, List.set_cons_succ, i64_w, i32_w]
                rfl
              refine take_ (i := 4) (N := some 9) (v := ?_) (a' := ?_) #[true, true, false, false, true, false, false, false, false, false, false, false, false, false, false, false, false, false, false, false, false, false, false, false, false, false, false, false, false, false, false, false, false, false, false, false, false, false, false, false, false, false, false, false, false, false, false, false, false, false, false, false, false, false, false, false, false, false, false, false, false, false, false, false, false, false, false, false, false, false] rfl rfl (take_ofW HT_.out HW_.out (by kernel_rfl)) (fun _ _ _ h => h) (Or.inl ⟨by rfl, ?_⟩) hHeld ?_ ?_
              rotate_left
              · rintro w' ⟨s0, s1, s2, s3⟩
                go_simp
                with_reducible rfl
              rotate_left
              · simp only [Act.put, List.setIfInBounds_toArray, List.set_cons_zero, List.set_cons_succ, i64_w, i32_w]
                rfl
              refine take_ (i := 6) (N := some 11) (v := ?_) (a' := ?_) #[true, true, false, false, true, false, true, false, false, false, false, false, false, false, false, false, false, false, false, false, false, false, false, false, false, false, false, false, false, false, false, false, false, false, false, false, false, false, false, false, false, false, false, false, false, false, false, false, false, false, false, false, false, false, false, false, false, false, false, false, false, false, false, false, false, false, false, false, false, false] rfl rfl (take_ofW HT_.out HW_.out (by kernel_rfl)) (fun _ _ _ h => h) (Or.inl ⟨by rfl, ?_⟩) hHeld ?_ ?_
              rotate_left
              · rintro w' ⟨s0, s1, s2, s3⟩
                go_simp
                with_reducible rfl
              rotate_left
              · simp only [Act.put, List.setIfInBounds_toArray, List.set_cons_zero, List.set_cons_succ, i64_w, i32_w]
                rfl
              refine one_ (i := 2) (N := some 7) #[true, true, true, false, true, false, true, false, false, false, false, false, false, false, false, false, false, false, false, false, false, false, false, false, false, false, false, false, false, false, false, false, false, false, false, false, false, false, false, false, false, false, false, false, false, false, false, false, false, false, false, false, false, false, false, false, false, false, false, false, false, false, false, false, false, false, false, false, false, false] rfl rfl (one_of HT_.out (by kernel_rfl)) (by decide) (fun K hK => ?_)
              refine goes_ Tryd.func24 (by kernel_rfl) rfl #[.agg #[.int .u64 a0_0, .int .u64 a0_1], .agg #[.int .u64 a1_0, .int .u64 a1_1]] (by rfl) rfl rfl (by (try simp only [List.map_toArray, List.map_cons, List.map_nil]); first | done | rfl | (simp only [List.length_drop, List.length_take]; rfl)) ?_
              with_reducible refine (bits_Set_Or.calls a0_0 a0_1 a1_0 a1_1 t374 t375 _ A3.out).mono ?_
              rintro e w35 ⟨rfl, hb⟩
              refine ⟨_, rfl, ?_⟩
              have n0_ := Aside0.mk (blk_below (g := gb372) (o := .cells #[.int .u64 a0_0, .int .u64 a0_1] 24 (0, 0)) (by (with_reducible repeat (first | refine blk_drewN ?_ _ | refine blk_drew ?_ | refine blk_alloc ?_ _)); exact BK372.out) hb)
              have n1_ := Aside0.mk (blk_below (g := gb373) (o := .cells #[.int .u64 a1_0, .int .u64 a1_1] 24 (0, 0)) (by (with_reducible repeat (first | refine blk_drewN ?_ _ | refine blk_drew ?_ | refine blk_alloc ?_ _)); exact BK373.out) hb)
              have n2_ := Aside0.mk (below_step (by repeat (first | (with_reducible first | exact HB.out | apply below_alloc | apply pw_below_drewN | apply below_drew1 | refine below_set ?_ GE372.out | refine below_set ?_ GE373.out) | exact HB.out)) hb)
              clear BK372
              clear BK373
              clear HB
              have BK372 := n0_
              have BK373 := n1_
              have HB := n2_
              clear n0_ n1_ n2_
              (try clear hb)
              (try clear hb2)
              (try clear hk)
              (try clear hi)
              refine hK.out _ _ ⟨(blk_cell BK372.out 0).trans rfl, (blk_cell BK372.out 1).trans rfl, (blk_cell BK373.out 0).trans rfl, (blk_cell BK373.out 1).trans rfl⟩ (fun hHeld => ?_)
              clear hK K
              refine norm_ (a' := ?_) ?_ ?_
              rotate_left
              · show Act.put _ (some 7) _ = _
                simp only [Act.put, List.setIfInBounds_toArray, List.set_cons_zero, List.set_cons_succ, i64_w, i32_w]
                rfl
              refine one_ (i := 3) (N := some 8) #[true, true, true, true, true, false, true, false, false, false, false, false, false, false, false, false, false, false, false, false, false, false, false, false, false, false, false, false, false, false, false, false, false, false, false, false, false, false, false, false, false, false, false, false, false, false, false, false, false, false, false, false, false, false, false, false, false, false, false, false, false, false, false, false, false, false, false, false, false, false] rfl rfl (one_of HT_.out (by kernel_rfl)) (by decide) (fun K hK => ?_)
              refine goes_ Tryd.func28 (by kernel_rfl) rfl #[.agg #[.int .u64 t374, .int .u64 t375]] (by rfl) rfl rfl (by (try simp only [List.map_toArray, List.map_cons, List.map_nil]); first | done | rfl | (simp only [List.length_drop, List.length_take]; rfl)) ?_
              with_reducible refine (bits_Set_Not.calls t374 t375 t376 t377 _ A4.out).mono ?_
              rintro e w36 ⟨rfl, hb⟩
              refine ⟨_, rfl, ?_⟩
              have n0_ := Aside0.mk (blk_below (g := gb372) (o := .cells #[.int .u64 a0_0, .int .u64 a0_1] 24 (0, 0)) (by (with_reducible repeat (first | refine blk_drewN ?_ _ | refine blk_drew ?_ | refine blk_alloc ?_ _)); exact BK372.out) hb)
              have n1_ := Aside0.mk (blk_below (g := gb373) (o := .cells #[.int .u64 a1_0, .int .u64 a1_1] 24 (0, 0)) (by (with_reducible repeat (first | refine blk_drewN ?_ _ | refine blk_drew ?_ | refine blk_alloc ?_ _)); exact BK373.out) hb)
              have n2_ := Aside0.mk (below_step (by repeat (first | (with_reducible first | exact HB.out | apply below_alloc | apply pw_below_drewN | apply below_drew1 | refine below_set ?_ GE372.out | refine below_set ?_ GE373.out) | exact HB.out)) hb)
              clear BK372
              clear BK373
              clear HB
              have BK372 := n0_
              have BK373 := n1_
              have HB := n2_
              clear n0_ n1_ n2_
              (try clear hb)
              (try clear hb2)
              (try clear hk)
              (try clear hi)
              refine hK.out _ _ ⟨(blk_cell BK372.out 0).trans rfl, (blk_cell BK372.out 1).trans rfl, (blk_cell BK373.out 0).trans rfl, (blk_cell BK373.out 1).trans rfl⟩ (fun hHeld => ?_)
              clear hK K
              refine norm_ (a' := ?_) ?_ ?_
              rotate_left
              · show Act.put _ (some 8) _ = _
                simp only [Act.put, List.setIfInBounds_toArray, List.set_cons_zero, List.set_cons_succ, i64_w, i32_w]
                rfl
              refine one_ (i := 5) (N := some 10) #[true, true, true, true, true, true, true, false, false, false, false, false, false, false, false, false, false, false, false, false, false, false, false, false, false, false, false, false, false, false, false, false, false, false, false, false, false, false, false, false, false, false, false, false, false, false, false, false, false, false, false, false, false, false, false, false, false, false, false, false, false, false, false, false, false, false, false, false, false, false] rfl rfl (one_of HT_.out (by kernel_rfl)) (by decide) (fun K hK => ?_)
              refine goes_ Tryd.func28 (by kernel_rfl) rfl #[.agg #[.int .u64 a0_0, .int .u64 a0_1]] (by rfl) rfl rfl (by (try simp only [List.map_toArray, List.map_cons, List.map_nil]); first | done | rfl | (simp only [List.length_drop, List.length_take]; rfl)) ?_
              with_reducible refine (bits_Set_Not.calls a0_0 a0_1 t378 t379 _ A5.out).mono ?_
              rintro e w37 ⟨rfl, hb⟩
              refine ⟨_, rfl, ?_⟩
              have n0_ := Aside0.mk (blk_below (g := gb372) (o := .cells #[.int .u64 a0_0, .int .u64 a0_1] 24 (0, 0)) (by (with_reducible repeat (first | refine blk_drewN ?_ _ | refine blk_drew ?_ | refine blk_alloc ?_ _)); exact BK372.out) hb)
              have n1_ := Aside0.mk (blk_below (g := gb373) (o := .cells #[.int .u64 a1_0, .int .u64 a1_1] 24 (0, 0)) (by (with_reducible repeat (first | refine blk_drewN ?_ _ | refine blk_drew ?_ | refine blk_alloc ?_ _)); exact BK373.out) hb)
              have n2_ := Aside0.mk (below_step (by repeat (first | (with_reducible first | exact HB.out | apply below_alloc | apply pw_below_drewN | apply below_drew1 | refine below_set ?_ GE372.out | refine below_set ?_ GE373.out) | exact HB.out)) hb)
              clear BK372
              clear BK373
              clear HB
              have BK372 := n0_
              have BK373 := n1_
              have HB := n2_
              clear n0_ n1_ n2_
              (try clear hb)
              (try clear hb2)
              (try clear hk)
              (try clear hi)
              refine hK.out _ _ ⟨(blk_cell BK372.out 0).trans rfl, (blk_cell BK372.out 1).trans rfl, (blk_cell BK373.out 0).trans rfl, (blk_cell BK373.out 1).trans rfl⟩ (fun hHeld => ?_)
              clear hK K
              refine norm_ (a' := ?_) ?_ ?_
              rotate_left
              · show Act.put _ (some 10) _ = _
                simp only [Act.put, List.setIfInBounds_toArray, List.set_cons_zero, List.set_cons_succ, i64_w, i32_w]
                rfl
              refine one_ (i := 7) (N := some 12) #[true, true, true, true, true, true, true, true, false, false, false, false, false, false, false, false, false, false, false, false, false, false, false, false, false, false, false, false, false, false, false, false, false, false, false, false, false, false, false, false, false, false, false, false, false, false, false, false, false, false, false, false, false, false, false, false, false, false, false, false, false, false, false, false, false, false, false, false, false, false] rfl rfl (one_of HT_.out (by kernel_rfl)) (by decide) (fun K hK => ?_)
              refine goes_ Tryd.func28 (by kernel_rfl) rfl #[.agg #[.int .u64 a1_0, .int .u64 a1_1]] (by rfl) rfl rfl (by (try simp only [List.map_toArray, List.map_cons, List.map_nil]); first | done | rfl | (simp only [List.length_drop, List.length_take]; rfl)) ?_
              with_reducible refine (bits_Set_Not.calls a1_0 a1_1 t380 t381 _ A6.out).mono ?_
              rintro e w38 ⟨rfl, hb⟩
              refine ⟨_, rfl, ?_⟩
              have n0_ := Aside0.mk (blk_below (g := gb372) (o := .cells #[.int .u64 a0_0, .int .u64 a0_1] 24 (0, 0)) (by (with_reducible repeat (first | refine blk_drewN ?_ _ | refine blk_drew ?_ | refine blk_alloc ?_ _)); exact BK372.out) hb)
              have n1_ := Aside0.mk (blk_below (g := gb373) (o := .cells #[.int .u64 a1_0, .int .u64 a1_1] 24 (0, 0)) (by (with_reducible repeat (first | refine blk_drewN ?_ _ | refine blk_drew ?_ | refine blk_alloc ?_ _)); exact BK373.out) hb)
              have n2_ := Aside0.mk (below_step (by repeat (first | (with_reducible first | exact HB.out | apply below_alloc | apply pw_below_drewN | apply below_drew1 | refine below_set ?_ GE372.out | refine below_set ?_ GE373.out) | exact HB.out)) hb)
              clear BK372
              clear BK373
              clear HB
              have BK372 := n0_
              have BK373 := n1_
              have HB := n2_
              clear n0_ n1_ n2_
              (try clear hb)
              (try clear hb2)
              (try clear hk)
              (try clear hi)
              refine hK.out _ _ ⟨(blk_cell BK372.out 0).trans rfl, (blk_cell BK372.out 1).trans rfl, (blk_cell BK373.out 0).trans rfl, (blk_cell BK373.out 1).trans rfl⟩ (fun hHeld => ?_)
              clear hK K
              refine norm_ (a' := ?_) ?_ ?_
              rotate_left
              · show Act.put _ (some 12) _ = _
                simp only [Act.put, List.setIfInBounds_toArray, List.set_cons_zero, List.set_cons_succ, i64_w, i32_w]
                rfl
              refine one_ (i := 8) (N := some 13) #[true, true, true, true, true, true, true, true, true, false, false, false, false, false, false, false, false, false, false, false, false, false, false, false, false, false, false, false, false, false, false, false, false, false, false, false, false, false, false, false, false, false, false, false, false, false, false, false, false, false, false, false, false, false, false, false, false, false, false, false, false, false, false, false, false, false, false, false, false, false] rfl rfl (one_of HT_.out (by kernel_rfl)) (by decide) (fun K hK => ?_)
              refine goes_ Tryd.func26 (by kernel_rfl) rfl #[.agg #[.int .u64 t378, .int .u64 t379], .agg #[.int .u64 t380, .int .u64 t381]] (by rfl) rfl rfl (by (try simp only [List.map_toArray, List.map_cons, List.map_nil]); first | done | rfl | (simp only [List.length_drop, List.length_take]; rfl)) ?_
              with_reducible refine (bits_Set_And.calls t378 t379 t380 t381 t382 t383 _ A7.out).mono ?_
              rintro e w39 ⟨rfl, hb⟩
              refine ⟨_, rfl, ?_⟩
              have n0_ := Aside0.mk (blk_below (g := gb372) (o := .cells #[.int .u64 a0_0, .int .u64 a0_1] 24 (0, 0)) (by (with_reducible repeat (first | refine blk_drewN ?_ _ | refine blk_drew ?_ | refine blk_alloc ?_ _)); exact BK372.out) hb)
              have n1_ := Aside0.mk (blk_below (g := gb373) (o := .cells #[.int .u64 a1_0, .int .u64 a1_1] 24 (0, 0)) (by (with_reducible repeat (first | refine blk_drewN ?_ _ | refine blk_drew ?_ | refine blk_alloc ?_ _)); exact BK373.out) hb)
              have n2_ := Aside0.mk (below_step (by repeat (first | (with_reducible first | exact HB.out | apply below_alloc | apply pw_below_drewN | apply below_drew1 | refine below_set ?_ GE372.out | refine below_set ?_ GE373.out) | exact HB.out)) hb)
              clear BK372
              clear BK373
              clear HB
              have BK372 := n0_
              have BK373 := n1_
              have HB := n2_
              clear n0_ n1_ n2_
              (try clear hb)
              (try clear hb2)
              (try clear hk)
              (try clear hi)
              refine hK.out _ _ ⟨(blk_cell BK372.out 0).trans rfl, (blk_cell BK372.out 1).trans rfl, (blk_cell BK373.out 0).trans rfl, (blk_cell BK373.out 1).trans rfl⟩ (fun hHeld => ?_)
              clear hK K
              refine norm_ (a' := ?_) ?_ ?_
              rotate_left
              · show Act.put _ (some 13) _ = _
                simp only [Act.put, List.setIfInBounds_toArray, List.set_cons_zero, List.set_cons_succ, i64_w, i32_w]
                rfl
              refine pure_ (i := 9) (N := some 14) (v := ?_) (a' := ?_) #[true, true, true, true, true, true, true, true, true, true, false, false, false, false, false, false, false, false, false, false, false, false, false, false, false, false, false, false, false, false, false, false, false, false, false, false, false, false, false, false, false, false, false, false, false, false, false, false, false, false, false, false, false, false, false, false, false, false, false, false, false, false, false, false, false, false, false, false, false, false] rfl rfl (any_of HT_.out (by kernel_rfl)) (fun _ _ _ h => h) (Or.inl ⟨by rfl, ?_⟩) ?_ ?_
              rotate_left
              · intro w'
                go_simp
                with_reducible rfl
              rotate_left
              · simp only [Act.put, List.setIfInBounds_toArray, List.set_cons_zero, List.set_cons_succ, i64_w, i32_w]
                rfl
              refine pure_ (i := 10) (N := some 15) (v := ?_) (a' := ?_) #[true, true, true, true, true, true, true, true, true, true, true, false, false, false, false, false, false, false, false, false, false, false, false, false, false, false, false, false, false, false, false, false, false, false, false, false, false, false, false, false, false, false, false, false, false, false, false, false, false, false, false, false, false, false, false, false, false, false, false, false, false, false, false, false, false, false, false, false, false, false] rfl rfl (any_of HT_.out (by kernel_rfl)) (fun _ _ _ h => h) (Or.inl ⟨by rfl, ?_⟩) ?_ ?_
              rotate_left
              · intro w'
                go_simp
                with_reducible rfl
              rotate_left
              · simp only [Act.put, List.setIfInBounds_toArray, List.set_cons_zero, List.set_cons_succ, i64_w, i32_w]
                rfl
              refine take_ (i := 11) (N := some 16) (v := ?_) (a' := ?_) #[true, true, true, true, true, true, true, true, true, true, true, true, false, false, false, false, false, false, false, false, false, false, false, false, false, false, false, false, false, false, false, false, false, false, false, false, false, false, false, false, false, false, false, false, false, false, false, false, false, false, false, false, false, false, false, false, false, false, false, false, false, false, false, false, false, false, false, false, false, false] rfl rfl (take_ofW HT_.out HW_.out (by kernel_rfl)) (fun _ _ _ h => h) (Or.inl ⟨by rfl, ?_⟩) hHeld ?_ ?_
              rotate_left
              · rintro w' ⟨s0, s1, s2, s3⟩
                go_simp
                with_reducible rfl
              rotate_left
              · simp only [Act.put, List.setIfInBounds_toArray, List.set_cons_zero, List.set_cons_succ, i64_w, i32_w]
                rfl
              refine take_ (i := 12) (N := some 17) (v := ?_) (a' := ?_) #[true, true, true, true, true, true, true, true, true, true, true, true, true, false, false, false, false, false, false, false, false, false, false, false, false, false, false, false, false, false, false, false, false, false, false, false, false, false, false, false, false, false, false, false, false, false, false, false, false, false, false, false, false, false, false, false, false, false, false, false, false, false, false, false, false, false, false, false, false, false] rfl rfl (take_ofW HT_.out HW_.out (by kernel_rfl)) (fun _ _ _ h => h) (Or.inl ⟨by rfl, ?_⟩) hHeld ?_ ?_
              rotate_left
              · rintro w' ⟨s0, s1, s2, s3⟩
                go_simp
                with_reducible rfl
              rotate_left
              · simp only [Act.put, List.setIfInBounds_toArray, List.set_cons_zero, List.set_cons_succ, i64_w, i32_w]
                rfl
              refine take_ (i := 14) (N := some 19) (v := ?_) (a' := ?_) #[true, true, true, true, true, true, true, true, true, true, true, true, true, false, true, false, false, false, false, false, false, false, false, false, false, false, false, false, false, false, false, false, false, false, false, false, false, false, false, false, false, false, false, false, false, false, false, false, false, false, false, false, false, false, false, false, false, false, false, false, false, false, false, false, false, false, false, false, false, false] rfl rfl (take_ofW HT_.out HW_.out (by kernel_rfl)) (fun _ _ _ h => h) (Or.inl ⟨by rfl, ?_⟩) hHeld ?_ ?_
              rotate_left
              · rintro w' ⟨s0, s1, s2, s3⟩
                go_simp
                with_reducible rfl
              rotate_left
              · simp only [Act.put, List.setIfInBounds_toArray, List.set_cons_zero, List.set_cons_succ, i64_w, i32_w]
                rfl
              refine take_ (i := 15) (N := some 20) (v := ?_) (a' := ?_) #[true, true, true, true, true, true, true, true, true, true, true, true, true, false, true, true, false, false, false, false, false, false, false, false, false, false, false, false, false, false, false, false, false, false, false, false, false, false, false, false, false, false, false, false, false, false, false, false, false, false, false, false, false, false, false, false, false, false, false, false, false, false, false, false, false, false, false, false, false, false] rfl rfl (take_ofW HT_.out HW_.out (by kernel_rfl)) (fun _ _ _ h => h) (Or.inl ⟨by rfl, ?_⟩) hHeld ?_ ?_
              rotate_left
              · rintro w' ⟨s0, s1, s2, s3⟩
                go_simp
                with_reducible rfl
              rotate_left
              · simp only [Act.put, List.setIfInBounds_toArray, List.set_cons_zero, List.set_cons_succ, i64_w, i32_w]
                rfl
              refine one_ (i := 13) (N := some 18) #[true, true, true, true, true, true, true, true, true, true, true, true, true, true, true, true, false, false, false, false, false, false, false, false, false, false, false, false, false, false, false, false, false, false, false, false, false, false, false, false, false, false, false, false, false, false, false, false, false, false, false, false, false, false, false, false, false, false, false, false, false, false, false, false, false, false, false, false, false, false] rfl rfl (one_of HT_.out (by kernel_rfl)) (by decide) (fun K hK => ?_)
              refine goes_ Tryd.func24 (by kernel_rfl) rfl #[.agg #[.int .u64 a0_0, .int .u64 a0_1], .agg #[.int .u64 a1_0, .int .u64 a1_1]] (by rfl) rfl rfl (by (try simp only [List.map_toArray, List.map_cons, List.map_nil]); first | done | rfl | (simp only [List.length_drop, List.length_take]; rfl)) ?_
              with_reducible refine (bits_Set_Or.calls a0_0 a0_1 a1_0 a1_1 t384 t385 _ A9.out).mono ?_
              rintro e w40 ⟨rfl, hb⟩
              refine ⟨_, rfl, ?_⟩
              have n0_ := Aside0.mk (blk_below (g := gb372) (o := .cells #[.int .u64 a0_0, .int .u64 a0_1] 24 (0, 0)) (by (with_reducible repeat (first | refine blk_drewN ?_ _ | refine blk_drew ?_ | refine blk_alloc ?_ _)); exact BK372.out) hb)
              have n1_ := Aside0.mk (blk_below (g := gb373) (o := .cells #[.int .u64 a1_0, .int .u64 a1_1] 24 (0, 0)) (by (with_reducible repeat (first | refine blk_drewN ?_ _ | refine blk_drew ?_ | refine blk_alloc ?_ _)); exact BK373.out) hb)
              have n2_ := Aside0.mk (below_step (by repeat (first | (with_reducible first | exact HB.out | apply below_alloc | apply pw_below_drewN | apply below_drew1 | refine below_set ?_ GE372.out | refine below_set ?_ GE373.out) | exact HB.out)) hb)
              clear BK372
              clear BK373
              clear HB
              have BK372 := n0_
              have BK373 := n1_
              have HB := n2_
              clear n0_ n1_ n2_
              (try clear hb)
              (try clear hb2)
              (try clear hk)
              (try clear hi)
              refine hK.out _ _ ⟨(blk_cell BK372.out 0).trans rfl, (blk_cell BK372.out 1).trans rfl, (blk_cell BK373.out 0).trans rfl, (blk_cell BK373.out 1).trans rfl⟩ (fun hHeld => ?_)
              clear hK K
              refine norm_ (a' := ?_) ?_ ?_
              rotate_left
              · show Act.put _ (some 18) _ = _
                simp only [Act.put, List.setIfInBounds_toArray, List.set_cons_zero, List.set_cons_succ, i64_w, i32_w]
                rfl
              refine one_ (i := 16) (N := some 21) #[true, true, true, true, true, true, true, true, true, true, true, true, true, true, true, true, true, false, false, false, false, false, false, false, false, false, false, false, false, false, false, false, false, false, false, false, false, false, false, false, false, false, false, false, false, false, false, false, false, false, false, false, false, false, false, false, false, false, false, false, false, false, false, false, false, false, false, false, false, false] rfl rfl (one_of HT_.out (by kernel_rfl)) (by decide) (fun K hK => ?_)
              refine goes_ Tryd.func24 (by kernel_rfl) rfl #[.agg #[.int .u64 a1_0, .int .u64 a1_1], .agg #[.int .u64 a0_0, .int .u64 a0_1]] (by rfl) rfl rfl (by (try simp only [List.map_toArray, List.map_cons, List.map_nil]); first | done | rfl | (simp only [List.length_drop, List.length_take]; rfl)) ?_
              with_reducible refine (bits_Set_Or.calls a1_0 a1_1 a0_0 a0_1 t386 t387 _ A10.out).mono ?_
              rintro e w41 ⟨rfl, hb⟩
              refine ⟨_, rfl, ?_⟩
              have n0_ := Aside0.mk (blk_below (g := gb372) (o := .cells #[.int .u64 a0_0, .int .u64 a0_1] 24 (0, 0)) (by (with_reducible repeat (first | refine blk_drewN ?_ _ | refine blk_drew ?_ | refine blk_alloc ?_ _)); exact BK372.out) hb)
              have n1_ := Aside0.mk (blk_below (g := gb373) (o := .cells #[.int .u64 a1_0, .int .u64 a1_1] 24 (0, 0)) (by (with_reducible repeat (first | refine blk_drewN ?_ _ | refine blk_drew ?_ | refine blk_alloc ?_ _)); exact BK373.out) hb)
              have n2_ := Aside0.mk (below_step (by repeat (first | (with_reducible first | exact HB.out | apply below_alloc | apply pw_below_drewN | apply below_drew1 | refine below_set ?_ GE372.out | refine below_set ?_ GE373.out) | exact HB.out)) hb)
              clear BK372
              clear BK373
              clear HB
              have BK372 := n0_
              have BK373 := n1_
              have HB := n2_
              clear n0_ n1_ n2_
              (try clear hb)
              (try clear hb2)
              (try clear hk)
              (try clear hi)
              refine hK.out _ _ ⟨(blk_cell BK372.out 0).trans rfl, (blk_cell BK372.out 1).trans rfl, (blk_cell BK373.out 0).trans rfl, (blk_cell BK373.out 1).trans rfl⟩ (fun hHeld => ?_)
              clear hK K
              refine norm_ (a' := ?_) ?_ ?_
              rotate_left
              · show Act.put _ (some 21) _ = _
                simp only [Act.put, List.setIfInBounds_toArray, List.set_cons_zero, List.set_cons_succ, i64_w, i32_w]
                rfl
              refine pure_ (i := 17) (N := some 22) (v := ?_) (a' := ?_) #[true, true, true, true, true, true, true, true, true, true, true, true, true, true, true, true, true, true, false, false, false, false, false, false, false, false, false, false, false, false, false, false, false, false, false, false, false, false, false, false, false, false, false, false, false, false, false, false, false, false, false, false, false, false, false, false, false, false, false, false, false, false, false, false, false, false, false, false, false, false] rfl rfl (any_of HT_.out (by kernel_rfl)) (fun _ _ _ h => h) (Or.inl ⟨by rfl, ?_⟩) ?_ ?_
              rotate_left
              · intro w'
                go_simp
                with_reducible rfl
              rotate_left
              · simp only [Act.put, List.setIfInBounds_toArray, List.set_cons_zero, List.set_cons_succ, i64_w, i32_w]
                rfl
              refine pure_ (i := 18) (N := some 23) (v := ?_) (a' := ?_) #[true, true, true, true, true, true, true, true, true, true, true, true, true, true, true, true, true, true, true, false, false, false, false, false, false, false, false, false, false, false, false, false, false, false, false, false, false, false, false, false, false, false, false, false, false, false, false, false, false, false, false, false, false, false, false, false, false, false, false, false, false, false, false, false, false, false, false, false, false, false] rfl rfl (any_of HT_.out (by kernel_rfl)) (fun _ _ _ h => h) (Or.inl ⟨by rfl, ?_⟩) ?_ ?_
              rotate_left
              · intro w'
                go_simp
                with_reducible rfl
              rotate_left
              · simp only [Act.put, List.setIfInBounds_toArray, List.set_cons_zero, List.set_cons_succ, i64_w, i32_w]
                rfl
              refine pure_ (i := 19) (N := some 24) (v := ?_) (a' := ?_) #[true, true, true, true, true, true, true, true, true, true, true, true, true, true, true, true, true, true, true, true, false, false, false, false, false, false, false, false, false, false, false, false, false, false, false, false, false, false, false, false, false, false, false, false, false, false, false, false, false, false, false, false, false, false, false, false, false, false, false, false, false, false, false, false, false, false, false, false, false, false] rfl rfl (any_of HT_.out (by kernel_rfl)) (fun _ _ _ h => h) (Or.inl ⟨by rfl, ?_⟩) ?_ ?_
              rotate_left
              · intro w'
                go_simp
                with_reducible rfl
              rotate_left
              · simp only [Act.put, List.setIfInBounds_toArray, List.set_cons_zero, List.set_cons_succ, i64_w, i32_w]
                rfl
              refine pure_ (i := 28) (N := some 33) (v := ?_) (a' := ?_) #[true, true, true, true, true, true, true, true, true, true, true, true, true, true, true, true, true, true, true, true, false, false, false, false, false, false, false, false, true, false, false, false, false, false, false, false, false, false, false, false, false, false, false, false, false, false, false, false, false, false, false, false, false, false, false, false, false, false, false, false, false, false, false, false, false, false, false, false, false, false] rfl rfl (any_of HT_.out (by kernel_rfl)) (fun _ _ _ h => h) (Or.inl ⟨by rfl, ?_⟩) ?_ ?_
              rotate_left
              · intro w'
                go_simp
                with_reducible rfl
              rotate_left
              · simp only [Act.put, List.setIfInBounds_toArray, List.set_cons_zero, List.set_cons_succ, i64_w, i32_w]
                rfl
              refine take_ (i := 20) (N := some 25) (v := ?_) (a' := ?_) #[true, true, true, true, true, true, true, true, true, true, true, true, true, true, true, true, true, true, true, true, true, false, false, false, false, false, false, false, true, false, false, false, false, false, false, false, false, false, false, false, false, false, false, false, false, false, false, false, false, false, false, false, false, false, false, false, false, false, false, false, false, false, false, false, false, false, false, false, false, false] rfl rfl (take_ofW HT_.out HW_.out (by kernel_rfl)) (fun _ _ _ h => h) (Or.inl ⟨by rfl, ?_⟩) hHeld ?_ ?_
              rotate_left
              · rintro w' ⟨s0, s1, s2, s3⟩
                go_simp
                with_reducible rfl
              rotate_left
              · simp only [Act.put, List.setIfInBounds_toArray, List.set_cons_zero, List.set_cons_succ, i64_w, i32_w]
                rfl
              refine take_ (i := 21) (N := some 26) (v := ?_) (a' := ?_) #[true, true, true, true, true, true, true, true, true, true, true, true, true, true, true, true, true, true, true, true, true, true, false, false, false, false, false, false, true, false, false, false, false, false, false, false, false, false, false, false, false, false, false, false, false, false, false, false, false, false, false, false, false, false, false, false, false, false, false, false, false, false, false, false, false, false, false, false, false, false] rfl rfl (take_ofW HT_.out HW_.out (by kernel_rfl)) (fun _ _ _ h => h) (Or.inl ⟨by rfl, ?_⟩) hHeld ?_ ?_
              rotate_left
              · rintro w' ⟨s0, s1, s2, s3⟩
                go_simp
                with_reducible rfl
              rotate_left
              · simp only [Act.put, List.setIfInBounds_toArray, List.set_cons_zero, List.set_cons_succ, i64_w, i32_w]
                rfl
              refine take_ (i := 23) (N := some 28) (v := ?_) (a' := ?_) #[true, true, true, true, true, true, true, true, true, true, true, true, true, true, true, true, true, true, true, true, true, true, false, true, false, false, false, false, true, false, false, false, false, false, false, false, false, false, false, false, false, false, false, false, false, false, false, false, false, false, false, false, false, false, false, false, false, false, false, false, false, false, false, false, false, false, false, false, false, false] rfl rfl (take_ofW HT_.out HW_.out (by kernel_rfl)) (fun _ _ _ h => h) (Or.inl ⟨by rfl, ?_⟩) hHeld ?_ ?_
              rotate_left
              · rintro w' ⟨s0, s1, s2, s3⟩
                go_simp
                with_reducible rfl
              rotate_left
              · simp only [Act.put, List.setIfInBounds_toArray, List.set_cons_zero, List.set_cons_succ, i64_w, i32_w]
                rfl
              refine take_ (i := 24) (N := some 29) (v := ?_) (a' := ?_) #[true, true, true, true, true, true, true, true, true, true, true, true, true, true, true, true, true, true, true, true, true, true, false, true, true, false, false, false, true, false, false, false, false, false, false, false, false, false, false, false, false, false, false, false, false, false, false, false, false, false, false, false, false, false, false, false, false, false, false, false, false, false, false, false, false, false, false, false, false, false] rfl rfl (take_ofW HT_.out HW_.out (by kernel_rfl)) (fun _ _ _ h => h) (Or.inl ⟨by rfl, ?_⟩) hHeld ?_ ?_
              rotate_left
              · rintro w' ⟨s0, s1, s2, s3⟩
                go_simp
                with_reducible rfl
              rotate_left
              · simp only [Act.put, List.setIfInBounds_toArray, List.set_cons_zero, List.set_cons_succ, i64_w, i32_w]
                rfl
              refine take_ (i := 27) (N := some 32) (v := ?_) (a' := ?_) #[true, true, true, true, true, true, true, true, true, true, true, true, true, true, true, true, true, true, true, true, true, true, false, true, true, false, false, true, true, false, false, false, false, false, false, false, false, false, false, false, false, false, false, false, false, false, false, false, false, false, false, false, false, false, false, false, false, false, false, false, false, false, false, false, false, false, false, false, false, false] rfl rfl (take_ofW HT_.out HW_.out (by kernel_rfl)) (fun _ _ _ h => h) (Or.inl ⟨by rfl, ?_⟩) hHeld ?_ ?_
              rotate_left
              · rintro w' ⟨s0, s1, s2, s3⟩
                go_simp
                with_reducible rfl
              rotate_left
              · simp only [Act.put, List.setIfInBounds_toArray, List.set_cons_zero, List.set_cons_succ, i64_w, i32_w]
                rfl
              refine one_ (i := 22) (N := some 27) #[true, true, true, true, true, true, true, true, true, true, true, true, true, true, true, true, true, true, true, true, true, true, true, true, true, false, false, true, true, false, false, false, false, false, false, false, false, false, false, false, false, false, false, false, false, false, false, false, false, false, false, false, false, false, false, false, false, false, false, false, false, false, false, false, false, false, false, false, false, false] rfl rfl (one_of HT_.out (by kernel_rfl)) (by decide) (fun K hK => ?_)
              refine goes_ Tryd.func27 (by kernel_rfl) rfl #[.agg #[.int .u64 a0_0, .int .u64 a0_1], .agg #[.int .u64 a1_0, .int .u64 a1_1]] (by rfl) rfl rfl (by (try simp only [List.map_toArray, List.map_cons, List.map_nil]); first | done | rfl | (simp only [List.length_drop, List.length_take]; rfl)) ?_
              with_reducible refine (bits_Set_Minus.calls a0_0 a0_1 a1_0 a1_1 t388 t389 _ A12.out).mono ?_
              rintro e w42 ⟨rfl, hb⟩
              refine ⟨_, rfl, ?_⟩
              have n0_ := Aside0.mk (blk_below (g := gb372) (o := .cells #[.int .u64 a0_0, .int .u64 a0_1] 24 (0, 0)) (by (with_reducible repeat (first | refine blk_drewN ?_ _ | refine blk_drew ?_ | refine blk_alloc ?_ _)); exact BK372.out) hb)
              have n1_ := Aside0.mk (blk_below (g := gb373) (o := .cells #[.int .u64 a1_0, .int .u64 a1_1] 24 (0, 0)) (by (with_reducible repeat (first | refine blk_drewN ?_ _ | refine blk_drew ?_ | refine blk_alloc ?_ _)); exact BK373.out) hb)
              have n2_ := Aside0.mk (below_step (by repeat (first | (with_reducible first | exact HB.out | apply below_alloc | apply pw_below_drewN | apply below_drew1 | refine below_set ?_ GE372.out | refine below_set ?_ GE373.out) | exact HB.out)) hb)
              clear BK372
              clear BK373
              clear HB
              have BK372 := n0_
              have BK373 := n1_
              have HB := n2_
              clear n0_ n1_ n2_
              (try clear hb)
              (try clear hb2)
              (try clear hk)
              (try clear hi)
              refine hK.out _ _ ⟨(blk_cell BK372.out 0).trans rfl, (blk_cell BK372.out 1).trans rfl, (blk_cell BK373.out 0).trans rfl, (blk_cell BK373.out 1).trans rfl⟩ (fun hHeld => ?_)
              clear hK K
              refine norm_ (a' := ?_) ?_ ?_
              rotate_left
              · show Act.put _ (some 27) _ = _
                simp only [Act.put, List.setIfInBounds_toArray, List.set_cons_zero, List.set_cons_succ, i64_w, i32_w]
                rfl
              refine one_ (i := 25) (N := some 30) #[true, true, true, true, true, true, true, true, true, true, true, true, true, true, true, true, true, true, true, true, true, true, true, true, true, true, false, true, true, false, false, false, false, false, false, false, false, false, false, false, false, false, false, false, false, false, false, false, false, false, false, false, false, false, false, false, false, false, false, false, false, false, false, false, false, false, false, false, false, false] rfl rfl (one_of HT_.out (by kernel_rfl)) (by decide) (fun K hK => ?_)
              refine goes_ Tryd.func26 (by kernel_rfl) rfl #[.agg #[.int .u64 a0_0, .int .u64 a0_1], .agg #[.int .u64 a1_0, .int .u64 a1_1]] (by rfl) rfl rfl (by (try simp only [List.map_toArray, List.map_cons, List.map_nil]); first | done | rfl | (simp only [List.length_drop, List.length_take]; rfl)) ?_
              with_reducible refine (bits_Set_And.calls a0_0 a0_1 a1_0 a1_1 t390 t391 _ A13.out).mono ?_
              rintro e w43 ⟨rfl, hb⟩
              refine ⟨_, rfl, ?_⟩
              have n0_ := Aside0.mk (blk_below (g := gb372) (o := .cells #[.int .u64 a0_0, .int .u64 a0_1] 24 (0, 0)) (by (with_reducible repeat (first | refine blk_drewN ?_ _ | refine blk_drew ?_ | refine blk_alloc ?_ _)); exact BK372.out) hb)
              have n1_ := Aside0.mk (blk_below (g := gb373) (o := .cells #[.int .u64 a1_0, .int .u64 a1_1] 24 (0, 0)) (by (with_reducible repeat (first | refine blk_drewN ?_ _ | refine blk_drew ?_ | refine blk_alloc ?_ _)); exact BK373.out) hb)
              have n2_ := Aside0.mk (below_step (by repeat (first | (with_reducible first | exact HB.out | apply below_alloc | apply pw_below_drewN | apply below_drew1 | refine below_set ?_ GE372.out | refine below_set ?_ GE373.out) | exact HB.out)) hb)
              clear BK372
              clear BK373
              clear HB
              have BK372 := n0_
              have BK373 := n1_
              have HB := n2_
              clear n0_ n1_ n2_
              (try clear hb)
              (try clear hb2)
              (try clear hk)
              (try clear hi)
              refine hK.out _ _ ⟨(blk_cell BK372.out 0).trans rfl, (blk_cell BK372.out 1).trans rfl, (blk_cell BK373.out 0).trans rfl, (blk_cell BK373.out 1).trans rfl⟩ (fun hHeld => ?_)
              clear hK K
              refine norm_ (a' := ?_) ?_ ?_
              rotate_left
              · show Act.put _ (some 30) _ = _
                simp only [Act.put, List.setIfInBounds_toArray, List.set_cons_zero, List.set_cons_succ, i64_w, i32_w]
                rfl
              refine one_ (i := 26) (N := some 31) #[true, true, true, true, true, true, true, true, true, true, true, true, true, true, true, true, true, true, true, true, true, true, true, true, true, true, true, true, true, false, false, false, false, false, false, false, false, false, false, false, false, false, false, false, false, false, false, false, false, false, false, false, false, false, false, false, false, false, false, false, false, false, false, false, false, false, false, false, false, false] rfl rfl (one_of HT_.out (by kernel_rfl)) (by decide) (fun K hK => ?_)
              refine goes_ Tryd.func24 (by kernel_rfl) rfl #[.agg #[.int .u64 t388, .int .u64 t389], .agg #[.int .u64 t390, .int .u64 t391]] (by rfl) rfl rfl (by (try simp only [List.map_toArray, List.map_cons, List.map_nil]); first | done | rfl | (simp only [List.length_drop, List.length_take]; rfl)) ?_
              with_reducible refine (bits_Set_Or.calls t388 t389 t390 t391 t392 t393 _ A14.out).mono ?_
              rintro e w44 ⟨rfl, hb⟩
              refine ⟨_, rfl, ?_⟩
              have n0_ := Aside0.mk (blk_below (g := gb372) (o := .cells #[.int .u64 a0_0, .int .u64 a0_1] 24 (0, 0)) (by (with_reducible repeat (first | refine blk_drewN ?_ _ | refine blk_drew ?_ | refine blk_alloc ?_ _)); exact BK372.out) hb)
              have n1_ := Aside0.mk (blk_below (g := gb373) (o := .cells #[.int .u64 a1_0, .int .u64 a1_1] 24 (0, 0)) (by (with_reducible repeat (first | refine blk_drewN ?_ _ | refine blk_drew ?_ | refine blk_alloc ?_ _)); exact BK373.out) hb)
              have n2_ := Aside0.mk (below_step (by repeat (first | (with_reducible first | exact HB.out | apply below_alloc | apply pw_below_drewN | apply below_drew1 | refine below_set ?_ GE372.out | refine below_set ?_ GE373.out) | exact HB.out)) hb)
              clear BK372
              clear BK373
              clear HB
              have BK372 := n0_
              have BK373 := n1_
              have HB := n2_
              clear n0_ n1_ n2_
              (try clear hb)
              (try clear hb2)
              (try clear hk)
              (try clear hi)
              refine hK.out _ _ ⟨(blk_cell BK372.out 0).trans rfl, (blk_cell BK372.out 1).trans rfl, (blk_cell BK373.out 0).trans rfl, (blk_cell BK373.out 1).trans rfl⟩ (fun hHeld => ?_)
              clear hK K
              refine norm_ (a' := ?_) ?_ ?_
              rotate_left
              · show Act.put _ (some 31) _ = _
                simp only [Act.put, List.setIfInBounds_toArray, List.set_cons_zero, List.set_cons_succ, i64_w, i32_w]
                rfl
              refine one_ (i := 29) (N := some 34) #[true, true, true, true, true, true, true, true, true, true, true, true, true, true, true, true, true, true, true, true, true, true, true, true, true, true, true, true, true, true, false, false, false, false, false, false, false, false, false, false, false, false, false, false, false, false, false, false, false, false, false, false, false, false, false, false, false, false, false, false, false, false, false, false, false, false, false, false, false, false] rfl rfl (one_of HT_.out (by kernel_rfl)) (by decide) (fun K hK => ?_)
              refine goes_ Tryd.func24 (by kernel_rfl) rfl #[.agg #[.int .u64 a0_0, .int .u64 a0_1], .agg #[.int .u64 0, .int .u64 0]] (by rfl) rfl rfl (by (try simp only [List.map_toArray, List.map_cons, List.map_nil]); first | done | rfl | (simp only [List.length_drop, List.length_take]; rfl)) ?_
              with_reducible refine (bits_Set_Or.calls a0_0 a0_1 0 0 t394 t395 _ A15.out).mono ?_
              rintro e w45 ⟨rfl, hb⟩
              refine ⟨_, rfl, ?_⟩
              have n0_ := Aside0.mk (blk_below (g := gb372) (o := .cells #[.int .u64 a0_0, .int .u64 a0_1] 24 (0, 0)) (by (with_reducible repeat (first | refine blk_drewN ?_ _ | refine blk_drew ?_ | refine blk_alloc ?_ _)); exact BK372.out) hb)
              have n1_ := Aside0.mk (blk_below (g := gb373) (o := .cells #[.int .u64 a1_0, .int .u64 a1_1] 24 (0, 0)) (by (with_reducible repeat (first | refine blk_drewN ?_ _ | refine blk_drew ?_ | refine blk_alloc ?_ _)); exact BK373.out) hb)
              have n2_ := Aside0.mk (below_step (by repeat (first | (with_reducible first | exact HB.out | apply below_alloc | apply pw_below_drewN | apply below_drew1 | refine below_set ?_ GE372.out | refine below_set ?_ GE373.out) | exact HB.out)) hb)
              clear BK372
              clear BK373
              clear HB
              have BK372 := n0_
              have BK373 := n1_
              have HB := n2_
              clear n0_ n1_ n2_
              (try clear hb)
              (try clear hb2)
              (try clear hk)
              (try clear hi)
              refine hK.out _ _ ⟨(blk_cell BK372.out 0).trans rfl, (blk_cell BK372.out 1).trans rfl, (blk_cell BK373.out 0).trans rfl, (blk_cell BK373.out 1).trans rfl⟩ (fun hHeld => ?_)
              clear hK K
              refine norm_ (a' := ?_) ?_ ?_
              rotate_left
              · show Act.put _ (some 34) _ = _
                simp only [Act.put, List.setIfInBounds_toArray, List.set_cons_zero, List.set_cons_succ, i64_w, i32_w]
                rfl
              refine pure_ (i := 30) (N := some 35) (v := ?_) (a' := ?_) #[true, true, true, true, true, true, true, true, true, true, true, true, true, true, true, true, true, true, true, true, true, true, true, true, true, true, true, true, true, true, true, false, false, false, false, false, false, false, false, false, false, false, false, false, false, false, false, false, false, false, false, false, false, false, false, false, false, false, false, false, false, false, false, false, false, false, false, false, false, false] rfl rfl (any_of HT_.out (by kernel_rfl)) (fun _ _ _ h => h) (Or.inl ⟨by rfl, ?_⟩) ?_ ?_
              rotate_left
              · intro w'
                go_simp
                with_reducible rfl
              rotate_left
              · simp only [Act.put, List.setIfInBounds_toArray, List.set_cons_zero, List.set_cons_succ, i64_w, i32_w]
                rfl
              refine pure_ (i := 31) (N := some 36) (v := ?_) (a' := ?_) #[true, true, true, true, true, true, true, true, true, true, true, true, true, true, true, true, true, true, true, true, true, true, true, true, true, true, true, true, true, true, true, true, false, false, false, false, false, false, false, false, false, false, false, false, false, false, false, false, false, false, false, false, false, false, false, false, false, false, false, false, false, false, false, false, false, false, false, false, false, false] rfl rfl (any_of HT_.out (by kernel_rfl)) (fun _ _ _ h => h) (Or.inl ⟨by rfl, ?_⟩) ?_ ?_
              rotate_left
              · intro w'
                go_simp
                with_reducible rfl
              rotate_left
              · simp only [Act.put, List.setIfInBounds_toArray, List.set_cons_zero, List.set_cons_succ, i64_w, i32_w]
                rfl
              refine pure_ (i := 32) (N := some 37) (v := ?_) (a' := ?_) #[true, true, true, true, true, true, true, true, true, true, true, true, true, true, true, true, true, true, true, true, true, true, true, true, true, true, true, true, true, true, true, true, true, false, false, false, false, false, false, false, false, false, false, false, false, false, false, false, false, false, false, false, false, false, false, false, false, false, false, false, false, false, false, false, false, false, false, false, false, false] rfl rfl (any_of HT_.out (by kernel_rfl)) (fun _ _ _ h => h) (Or.inl ⟨by rfl, ?_⟩) ?_ ?_
              rotate_left
              · intro w'
                go_simp
                with_reducible rfl
              rotate_left
              · simp only [Act.put, List.setIfInBounds_toArray, List.set_cons_zero, List.set_cons_succ, i64_w, i32_w]
                rfl
              refine take_ (i := 33) (N := some 38) (v := ?_) (a' := ?_) #[true, true, true, true, true, true, true, true, true, true, true, true, true, true, true, true, true, true, true, true, true, true, true, true, true, true, true, true, true, true, true, true, true, true, false, false, false, false, false, false, false, false, false, false, false, false, false, false, false, false, false, false, false, false, false, false, false, false, false, false, false, false, false, false, false, false, false, false, false, false] rfl rfl (take_ofW HT_.out HW_.out (by kernel_rfl)) (fun _ _ _ h => h) (Or.inl ⟨by rfl, ?_⟩) hHeld ?_ ?_
              rotate_left
              · rintro w' ⟨s0, s1, s2, s3⟩
                go_simp
                with_reducible rfl
              rotate_left
              · simp only [Act.put, List.setIfInBounds_toArray, List.set_cons_zero, List.set_cons_succ, i64_w, i32_w]
                rfl
              refine take_ (i := 35) (N := some 40) (v := ?_) (a' := ?_) #[true, true, true, true, true, true, true, true, true, true, true, true, true, true, true, true, true, true, true, true, true, true, true, true, true, true, true, true, true, true, true, true, true, true, false, true, false, false, false, false, false, false, false, false, false, false, false, false, false, false, false, false, false, false, false, false, false, false, false, false, false, false, false, false, false, false, false, false, false, false] rfl rfl (take_ofW HT_.out HW_.out (by kernel_rfl)) (fun _ _ _ h => h) (Or.inl ⟨by rfl, ?_⟩) hHeld ?_ ?_
              rotate_left
              · rintro w' ⟨s0, s1, s2, s3⟩
                go_simp
                with_reducible rfl
              rotate_left
              · simp only [Act.put, List.setIfInBounds_toArray, List.set_cons_zero, List.set_cons_succ, i64_w, i32_w]
                rfl
              refine one_ (i := 34) (N := some 39) #[true, true, true, true, true, true, true, true, true, true, true, true, true, true, true, true, true, true, true, true, true, true, true, true, true, true, true, true, true, true, true, true, true, true, true, true, false, false, false, false, false, false, false, false, false, false, false, false, false, false, false, false, false, false, false, false, false, false, false, false, false, false, false, false, false, false, false, false, false, false] rfl rfl (one_of HT_.out (by kernel_rfl)) (by decide) (fun K hK => ?_)
              refine goes_ Tryd.func34 (by kernel_rfl) rfl #[.agg #[.int .u64 a0_0, .int .u64 a0_1]] (by rfl) rfl rfl (by (try simp only [List.map_toArray, List.map_cons, List.map_nil]); first | done | rfl | (simp only [List.length_drop, List.length_take]; rfl)) ?_
              with_reducible refine (bits_Set_Count.calls a0_0 a0_1 t396 _ A17.out).mono ?_
              rintro e w46 ⟨rfl, hb⟩
              refine ⟨_, rfl, ?_⟩
              have n0_ := Aside0.mk (blk_below (g := gb372) (o := .cells #[.int .u64 a0_0, .int .u64 a0_1] 24 (0, 0)) (by (with_reducible repeat (first | refine blk_drewN ?_ _ | refine blk_drew ?_ | refine blk_alloc ?_ _)); exact BK372.out) hb)
              have n1_ := Aside0.mk (blk_below (g := gb373) (o := .cells #[.int .u64 a1_0, .int .u64 a1_1] 24 (0, 0)) (by (with_reducible repeat (first | refine blk_drewN ?_ _ | refine blk_drew ?_ | refine blk_alloc ?_ _)); exact BK373.out) hb)
              have n2_ := Aside0.mk (below_step (by repeat (first | (with_reducible first | exact HB.out | apply below_alloc | apply pw_below_drewN | apply below_drew1 | refine below_set ?_ GE372.out | refine below_set ?_ GE373.out) | exact HB.out)) hb)
              clear BK372
              clear BK373
              clear HB
              have BK372 := n0_
              have BK373 := n1_
              have HB := n2_
              clear n0_ n1_ n2_
              (try clear hb)
              (try clear hb2)
              (try clear hk)
              (try clear hi)
              refine hK.out _ _ ⟨(blk_cell BK372.out 0).trans rfl, (blk_cell BK372.out 1).trans rfl, (blk_cell BK373.out 0).trans rfl, (blk_cell BK373.out 1).trans rfl⟩ (fun hHeld => ?_)
              clear hK K
              refine norm_ (a' := ?_) ?_ ?_
              rotate_left
              · show Act.put _ (some 39) _ = _
                simp only [Act.put, List.setIfInBounds_toArray, List.set_cons_zero, List.set_cons_succ, i64_w, i32_w]
                rfl
              refine one_ (i := 36) (N := some 41) #[true, true, true, true, true, true, true, true, true, true, true, true, true, true, true, true, true, true, true, true, true, true, true, true, true, true, true, true, true, true, true, true, true, true, true, true, true, false, false, false, false, false, false, false, false, false, false, false, false, false, false, false, false, false, false, false, false, false, false, false, false, false, false, false, false, false, false, false, false, false] rfl rfl (one_of HT_.out (by kernel_rfl)) (by decide) (fun K hK => ?_)
              refine goes_ Tryd.func28 (by kernel_rfl) rfl #[.agg #[.int .u64 a0_0, .int .u64 a0_1]] (by rfl) rfl rfl (by (try simp only [List.map_toArray, List.map_cons, List.map_nil]); first | done | rfl | (simp only [List.length_drop, List.length_take]; rfl)) ?_
              with_reducible refine (bits_Set_Not.calls a0_0 a0_1 t397 t398 _ A18.out).mono ?_
              rintro e w47 ⟨rfl, hb⟩
              refine ⟨_, rfl, ?_⟩
              have n0_ := Aside0.mk (blk_below (g := gb372) (o := .cells #[.int .u64 a0_0, .int .u64 a0_1] 24 (0, 0)) (by (with_reducible repeat (first | refine blk_drewN ?_ _ | refine blk_drew ?_ | refine blk_alloc ?_ _)); exact BK372.out) hb)
              have n1_ := Aside0.mk (blk_below (g := gb373) (o := .cells #[.int .u64 a1_0, .int .u64 a1_1] 24 (0, 0)) (by (with_reducible repeat (first | refine blk_drewN ?_ _ | refine blk_drew ?_ | refine blk_alloc ?_ _)); exact BK373.out) hb)
              have n2_ := Aside0.mk (below_step (by repeat (first | (with_reducible first | exact HB.out | apply below_alloc | apply pw_below_drewN | apply below_drew1 | refine below_set ?_ GE372.out | refine below_set ?_ GE373.out) | exact HB.out)) hb)
              clear BK372
              clear BK373
              clear HB
              have BK372 := n0_
              have BK373 := n1_
              have HB := n2_
              clear n0_ n1_ n2_
              (try clear hb)
              (try clear hb2)
              (try clear hk)
              (try clear hi)
              refine hK.out _ _ ⟨(blk_cell BK372.out 0).trans rfl, (blk_cell BK372.out 1).trans rfl, (blk_cell BK373.out 0).trans rfl, (blk_cell BK373.out 1).trans rfl⟩ (fun hHeld => ?_)
              clear hK K
              refine norm_ (a' := ?_) ?_ ?_
              rotate_left
              · show Act.put _ (some 41) _ = _
                simp only [Act.put, List.setIfInBounds_toArray, List.set_cons_zero, List.set_cons_succ, i64_w, i32_w]
                rfl
              refine one_ (i := 37) (N := some 42) #[true, true, true, true, true, true, true, true, true, true, true, true, true, true, true, true, true, true, true, true, true, true, true, true, true, true, true, true, true, true, true, true, true, true, true, true, true, true, false, false, false, false, false, false, false, false, false, false, false, false, false, false, false, false, false, false, false, false, false, false, false, false, false, false, false, false, false, false, false, false] rfl rfl (one_of HT_.out (by kernel_rfl)) (by decide) (fun K hK => ?_)
              refine goes_ Tryd.func34 (by kernel_rfl) rfl #[.agg #[.int .u64 t397, .int .u64 t398]] (by rfl) rfl rfl (by (try simp only [List.map_toArray, List.map_cons, List.map_nil]); first | done | rfl | (simp only [List.length_drop, List.length_take]; rfl)) ?_
              with_reducible refine (bits_Set_Count.calls t397 t398 t399 _ A19.out).mono ?_
              rintro e w48 ⟨rfl, hb⟩
              refine ⟨_, rfl, ?_⟩
              have n0_ := Aside0.mk (blk_below (g := gb372) (o := .cells #[.int .u64 a0_0, .int .u64 a0_1] 24 (0, 0)) (by (with_reducible repeat (first | refine blk_drewN ?_ _ | refine blk_drew ?_ | refine blk_alloc ?_ _)); exact BK372.out) hb)
              have n1_ := Aside0.mk (blk_below (g := gb373) (o := .cells #[.int .u64 a1_0, .int .u64 a1_1] 24 (0, 0)) (by (with_reducible repeat (first | refine blk_drewN ?_ _ | refine blk_drew ?_ | refine blk_alloc ?_ _)); exact BK373.out) hb)
              have n2_ := Aside0.mk (below_step (by repeat (first | (with_reducible first | exact HB.out | apply below_alloc | apply pw_below_drewN | apply below_drew1 | refine below_set ?_ GE372.out | refine below_set ?_ GE373.out) | exact HB.out)) hb)
              clear BK372
              clear BK373
              clear HB
              have BK372 := n0_
              have BK373 := n1_
              have HB := n2_
              clear n0_ n1_ n2_
              (try clear hb)
              (try clear hb2)
              (try clear hk)
              (try clear hi)
              refine hK.out _ _ ⟨(blk_cell BK372.out 0).trans rfl, (blk_cell BK372.out 1).trans rfl, (blk_cell BK373.out 0).trans rfl, (blk_cell BK373.out 1).trans rfl⟩ (fun hHeld => ?_)
              clear hK K
              refine norm_ (a' := ?_) ?_ ?_
              rotate_left
              · show Act.put _ (some 42) _ = _
                simp only [Act.put, List.setIfInBounds_toArray, List.set_cons_zero, List.set_cons_succ, i64_w, i32_w]
                rfl
              refine pure_ (i := 38) (N := some 43) (v := ?_) (a' := ?_) #[true, true, true, true, true, true, true, true, true, true, true, true, true, true, true, true, true, true, true, true, true, true, true, true, true, true, true, true, true, true, true, true, true, true, true, true, true, true, true, false, false, false, false, false, false, false, false, false, false, false, false, false, false, false, false, false, false, false, false, false, false, false, false, false, false, false, false, false, false, false] rfl rfl (any_of HT_.out (by kernel_rfl)) (fun _ _ _ h => h) (Or.inl ⟨by rfl, ?_⟩) ?_ ?_
              rotate_left
              · intro w'
                go_simp
                with_reducible rfl
              rotate_left
              · simp only [Act.put, List.setIfInBounds_toArray, List.set_cons_zero, List.set_cons_succ, i64_w, i32_w]
                rfl
              refine pure_ (i := 39) (N := some 44) (v := ?_) (a' := ?_) #[true, true, true, true, true, true, true, true, true, true, true, true, true, true, true, true, true, true, true, true, true, true, true, true, true, true, true, true, true, true, true, true, true, true, true, true, true, true, true, true, false, false, false, false, false, false, false, false, false, false, false, false, false, false, false, false, false, false, false, false, false, false, false, false, false, false, false, false, false, false] rfl rfl (any_of HT_.out (by kernel_rfl)) (fun _ _ _ h => h) (Or.inl ⟨by rfl, ?_⟩) ?_ ?_
              rotate_left
              · intro w'
                go_simp
                with_reducible rfl
              rotate_left
              · simp only [Act.put, List.setIfInBounds_toArray, List.set_cons_zero, List.set_cons_succ, i64_w, i32_w]
                rfl
              refine pure_ (i := 40) (N := some 45) (v := ?_) (a' := ?_) #[true, true, true, true, true, true, true, true, true, true, true, true, true, true, true, true, true, true, true, true, true, true, true, true, true, true, true, true, true, true, true, true, true, true, true, true, true, true, true, true, true, false, false, false, false, false, false, false, false, false, false, false, false, false, false, false, false, false, false, false, false, false, false, false, false, false, false, false, false, false] rfl rfl (any_of HT_.out (by kernel_rfl)) (fun _ _ _ h => h) (Or.inl ⟨by rfl, ?_⟩) ?_ ?_
              rotate_left
              · intro w'
                go_simp
                with_reducible rfl
              rotate_left
              · simp only [Act.put, List.setIfInBounds_toArray, List.set_cons_zero, List.set_cons_succ, i64_w, i32_w]
                rfl
              refine pure_ (i := 41) (N := some 46) (v := ?_) (a' := ?_) #[true, true, true, true, true, true, true, true, true, true, true, true, true, true, true, true, true, true, true, true, true, true, true, true, true, true, true, true, true, true, true, true, true, true, true, true, true, true, true, true, true, true, false, false, false, false, false, false, false, false, false, false, false, false, false, false, false, false, false, false, false, false, false, false, false, false, false, false, false, false] rfl rfl (any_of HT_.out (by kernel_rfl)) (fun _ _ _ h => h) (Or.inl ⟨by rfl, ?_⟩) ?_ ?_
              rotate_left
              · intro w'
                go_simp
                with_reducible rfl
              rotate_left
              · simp only [Act.put, List.setIfInBounds_toArray, List.set_cons_zero, List.set_cons_succ, i64_w, i32_w]
                rfl
              refine take_ (i := 42) (N := some 47) (v := ?_) (a' := ?_) #[true, true, true, true, true, true, true, true, true, true, true, true, true, true, true, true, true, true, true, true, true, true, true, true, true, true, true, true, true, true, true, true, true, true, true, true, true, true, true, true, true, true, true, false, false, false, false, false, false, false, false, false, false, false, false, false, false, false, false, false, false, false, false, false, false, false, false, false, false, false] rfl rfl (take_ofW HT_.out HW_.out (by kernel_rfl)) (fun _ _ _ h => h) (Or.inl ⟨by rfl, ?_⟩) hHeld ?_ ?_
              rotate_left
              · rintro w' ⟨s0, s1, s2, s3⟩
                go_simp
                with_reducible rfl
              rotate_left
              · simp only [Act.put, List.setIfInBounds_toArray, List.set_cons_zero, List.set_cons_succ, i64_w, i32_w]
                rfl
              refine take_ (i := 43) (N := some 48) (v := ?_) (a' := ?_) #[true, true, true, true, true, true, true, true, true, true, true, true, true, true, true, true, true, true, true, true, true, true, true, true, true, true, true, true, true, true, true, true, true, true, true, true, true, true, true, true, true, true, true, true, false, false, false, false, false, false, false, false, false, false, false, false, false, false, false, false, false, false, false, false, false, false, false, false, false, false] rfl rfl (take_ofW HT_.out HW_.out (by kernel_rfl)) (fun _ _ _ h => h) (Or.inl ⟨by rfl, ?_⟩) hHeld ?_ ?_
              rotate_left
              · rintro w' ⟨s0, s1, s2, s3⟩
                go_simp
                with_reducible rfl
              rotate_left
              · simp only [Act.put, List.setIfInBounds_toArray, List.set_cons_zero, List.set_cons_succ, i64_w, i32_w]
                rfl
              refine take_ (i := 46) (N := some 51) (v := ?_) (a' := ?_) #[true, true, true, true, true, true, true, true, true, true, true, true, true, true, true, true, true, true, true, true, true, true, true, true, true, true, true, true, true, true, true, true, true, true, true, true, true, true, true, true, true, true, true, true, false, false, true, false, false, false, false, false, false, false, false, false, false, false, false, false, false, false, false, false, false, false, false, false, false, false] rfl rfl (take_ofW HT_.out HW_.out (by kernel_rfl)) (fun _ _ _ h => h) (Or.inl ⟨by rfl, ?_⟩) hHeld ?_ ?_
              rotate_left
              · rintro w' ⟨s0, s1, s2, s3⟩
                go_simp
                with_reducible rfl
              rotate_left
              · simp only [Act.put, List.setIfInBounds_toArray, List.set_cons_zero, List.set_cons_succ, i64_w, i32_w]
                rfl
              refine take_ (i := 47) (N := some 52) (v := ?_) (a' := ?_) #[true, true, true, true, true, true, true, true, true, true, true, true, true, true, true, true, true, true, true, true, true, true, true, true, true, true, true, true, true, true, true, true, true, true, true, true, true, true, true, true, true, true, true, true, false, false, true, true, false, false, false, false, false, false, false, false, false, false, false, false, false, false, false, false, false, false, false, false, false, false] rfl rfl (take_ofW HT_.out HW_.out (by kernel_rfl)) (fun _ _ _ h => h) (Or.inl ⟨by rfl, ?_⟩) hHeld ?_ ?_
              rotate_left
              · rintro w' ⟨s0, s1, s2, s3⟩
                go_simp
                with_reducible rfl
              rotate_left
              · simp only [Act.put, List.setIfInBounds_toArray, List.set_cons_zero, List.set_cons_succ, i64_w, i32_w]
                rfl
              refine take_ (i := 51) (N := some 56) (v := ?_) (a' := ?_) #[true, true, true, true, true, true, true, true, true, true, true, true, true, true, true, true, true, true, true, true, true, true, true, true, true, true, true, true, true, true, true, true, true, true, true, true, true, true, true, true, true, true, true, true, false, false, true, true, false, false, false, true, false, false, false, false, false, false, false, false, false, false, false, false, false, false, false, false, false, false] rfl rfl (take_ofW HT_.out HW_.out (by kernel_rfl)) (fun _ _ _ h => h) (Or.inl ⟨by rfl, ?_⟩) hHeld ?_ ?_
              rotate_left
              · rintro w' ⟨s0, s1, s2, s3⟩
                go_simp
                with_reducible rfl
              rotate_left
              · simp only [Act.put, List.setIfInBounds_toArray, List.set_cons_zero, List.set_cons_succ, i64_w, i32_w]
                rfl
              refine take_ (i := 53) (N := some 58) (v := ?_) (a' := ?_) #[true, true, true, true, true, true, true, true, true, true, true, true, true, true, true, true, true, true, true, true, true, true, true, true, true, true, true, true, true, true, true, true, true, true, true, true, true, true, true, true, true, true, true, true, false, false, true, true, false, false, false, true, false, true, false, false, false, false, false, false, false, false, false, false, false, false, false, false, false, false] rfl rfl (take_ofW HT_.out HW_.out (by kernel_rfl)) (fun _ _ _ h => h) (Or.inl ⟨by rfl, ?_⟩) hHeld ?_ ?_
              rotate_left
              · rintro w' ⟨s0, s1, s2, s3⟩
                go_simp
                with_reducible rfl
              rotate_left
              · simp only [Act.put, List.setIfInBounds_toArray, List.set_cons_zero, List.set_cons_succ, i64_w, i32_w]
                rfl
              refine one_ (i := 44) (N := some 49) #[true, true, true, true, true, true, true, true, true, true, true, true, true, true, true, true, true, true, true, true, true, true, true, true, true, true, true, true, true, true, true, true, true, true, true, true, true, true, true, true, true, true, true, true, true, false, true, true, false, false, false, true, false, true, false, false, false, false, false, false, false, false, false, false, false, false, false, false, false, false] rfl rfl (one_of HT_.out (by kernel_rfl)) (by decide) (fun K hK => ?_)
              refine goes_ Tryd.func24 (by kernel_rfl) rfl #[.agg #[.int .u64 a0_0, .int .u64 a0_1], .agg #[.int .u64 a1_0, .int .u64 a1_1]] (by rfl) rfl rfl (by (try simp only [List.map_toArray, List.map_cons, List.map_nil]); first | done | rfl | (simp only [List.length_drop, List.length_take]; rfl)) ?_
              with_reducible refine (bits_Set_Or.calls a0_0 a0_1 a1_0 a1_1 t400 t401 _ A21.out).mono ?_
              rintro e w49 ⟨rfl, hb⟩
              refine ⟨_, rfl, ?_⟩
              have n0_ := Aside0.mk (blk_below (g := gb372) (o := .cells #[.int .u64 a0_0, .int .u64 a0_1] 24 (0, 0)) (by (with_reducible repeat (first | refine blk_drewN ?_ _ | refine blk_drew ?_ | refine blk_alloc ?_ _)); exact BK372.out) hb)
              have n1_ := Aside0.mk (blk_below (g := gb373) (o := .cells #[.int .u64 a1_0, .int .u64 a1_1] 24 (0, 0)) (by (with_reducible repeat (first | refine blk_drewN ?_ _ | refine blk_drew ?_ | refine blk_alloc ?_ _)); exact BK373.out) hb)
              have n2_ := Aside0.mk (below_step (by repeat (first | (with_reducible first | exact HB.out | apply below_alloc | apply pw_below_drewN | apply below_drew1 | refine below_set ?_ GE372.out | refine below_set ?_ GE373.out) | exact HB.out)) hb)
              clear BK372
              clear BK373
              clear HB
              have BK372 := n0_
              have BK373 := n1_
              have HB := n2_
              clear n0_ n1_ n2_
              (try clear hb)
              (try clear hb2)
              (try clear hk)
              (try clear hi)
              refine hK.out _ _ ⟨(blk_cell BK372.out 0).trans rfl, (blk_cell BK372.out 1).trans rfl, (blk_cell BK373.out 0).trans rfl, (blk_cell BK373.out 1).trans rfl⟩ (fun hHeld => ?_)
              clear hK K
              refine norm_ (a' := ?_) ?_ ?_
              rotate_left
              · show Act.put _ (some 49) _ = _
                simp only [Act.put, List.setIfInBounds_toArray, List.set_cons_zero, List.set_cons_succ, i64_w, i32_w]
                rfl
              refine one_ (i := 45) (N := some 50) #[true, true, true, true, true, true, true, true, true, true, true, true, true, true, true, true, true, true, true, true, true, true, true, true, true, true, true, true, true, true, true, true, true, true, true, true, true, true, true, true, true, true, true, true, true, true, true, true, false, false, false, true, false, true, false, false, false, false, false, false, false, false, false, false, false, false, false, false, false, false] rfl rfl (one_of HT_.out (by kernel_rfl)) (by decide) (fun K hK => ?_)
              refine goes_ Tryd.func34 (by kernel_rfl) rfl #[.agg #[.int .u64 t400, .int .u64 t401]] (by rfl) rfl rfl (by (try simp only [List.map_toArray, List.map_cons, List.map_nil]); first | done | rfl | (simp only [List.length_drop, List.length_take]; rfl)) ?_
              with_reducible refine (bits_Set_Count.calls t400 t401 t402 _ A22.out).mono ?_
              rintro e w50 ⟨rfl, hb⟩
              refine ⟨_, rfl, ?_⟩
              have n0_ := Aside0.mk (blk_below (g := gb372) (o := .cells #[.int .u64 a0_0, .int .u64 a0_1] 24 (0, 0)) (by (with_reducible repeat (first | refine blk_drewN ?_ _ | refine blk_drew ?_ | refine blk_alloc ?_ _)); exact BK372.out) hb)
              have n1_ := Aside0.mk (blk_below (g := gb373) (o := .cells #[.int .u64 a1_0, .int .u64 a1_1] 24 (0, 0)) (by (with_reducible repeat (first | refine blk_drewN ?_ _ | refine blk_drew ?_ | refine blk_alloc ?_ _)); exact BK373.out) hb)
              have n2_ := Aside0.mk (below_step (by repeat (first | (with_reducible first | exact HB.out | apply below_alloc | apply pw_below_drewN | apply below_drew1 | refine below_set ?_ GE372.out | refine below_set ?_ GE373.out) | exact HB.out)) hb)
              clear BK372
              clear BK373
              clear HB
              have BK372 := n0_
              have BK373 := n1_
              have HB := n2_
              clear n0_ n1_ n2_
              (try clear hb)
              (try clear hb2)
              (try clear hk)
              (try clear hi)
              refine hK.out _ _ ⟨(blk_cell BK372.out 0).trans rfl, (blk_cell BK372.out 1).trans rfl, (blk_cell BK373.out 0).trans rfl, (blk_cell BK373.out 1).trans rfl⟩ (fun hHeld => ?_)
              clear hK K
              refine norm_ (a' := ?_) ?_ ?_
              rotate_left
              · show Act.put _ (some 50) _ = _
                simp only [Act.put, List.setIfInBounds_toArray, List.set_cons_zero, List.set_cons_succ, i64_w, i32_w]
                rfl
              refine one_ (i := 48) (N := some 53) #[true, true, true, true, true, true, true, true, true, true, true, true, true, true, true, true, true, true, true, true, true, true, true, true, true, true, true, true, true, true, true, true, true, true, true, true, true, true, true, true, true, true, true, true, true, true, true, true, true, false, false, true, false, true, false, false, false, false, false, false, false, false, false, false, false, false, false, false, false, false] rfl rfl (one_of HT_.out (by kernel_rfl)) (by decide) (fun K hK => ?_)
              refine goes_ Tryd.func26 (by kernel_rfl) rfl #[.agg #[.int .u64 a0_0, .int .u64 a0_1], .agg #[.int .u64 a1_0, .int .u64 a1_1]] (by rfl) rfl rfl (by (try simp only [List.map_toArray, List.map_cons, List.map_nil]); first | done | rfl | (simp only [List.length_drop, List.length_take]; rfl)) ?_
              with_reducible refine (bits_Set_And.calls a0_0 a0_1 a1_0 a1_1 t403 t404 _ A23.out).mono ?_
              rintro e w51 ⟨rfl, hb⟩
              refine ⟨_, rfl, ?_⟩
              have n0_ := Aside0.mk (blk_below (g := gb372) (o := .cells #[.int .u64 a0_0, .int .u64 a0_1] 24 (0, 0)) (by (with_reducible repeat (first | refine blk_drewN ?_ _ | refine blk_drew ?_ | refine blk_alloc ?_ _)); exact BK372.out) hb)
              have n1_ := Aside0.mk (blk_below (g := gb373) (o := .cells #[.int .u64 a1_0, .int .u64 a1_1] 24 (0, 0)) (by (with_reducible repeat (first | refine blk_drewN ?_ _ | refine blk_drew ?_ | refine blk_alloc ?_ _)); exact BK373.out) hb)
              have n2_ := Aside0.mk (below_step (by repeat (first | (with_reducible first | exact HB.out | apply below_alloc | apply pw_below_drewN | apply below_drew1 | refine below_set ?_ GE372.out | refine below_set ?_ GE373.out) | exact HB.out)) hb)
              clear BK372
              clear BK373
              clear HB
              have BK372 := n0_
              have BK373 := n1_
              have HB := n2_
              clear n0_ n1_ n2_
              (try clear hb)
              (try clear hb2)
              (try clear hk)
              (try clear hi)
              refine hK.out _ _ ⟨(blk_cell BK372.out 0).trans rfl, (blk_cell BK372.out 1).trans rfl, (blk_cell BK373.out 0).trans rfl, (blk_cell BK373.out 1).trans rfl⟩ (fun hHeld => ?_)
              clear hK K
              refine norm_ (a' := ?_) ?_ ?_
              rotate_left
              · show Act.put _ (some 53) _ = _
                simp only [Act.put, List.setIfInBounds_toArray, List.set_cons_zero, List.set_cons_succ, i64_w, i32_w]
                rfl
              refine one_ (i := 49) (N := some 54) #[true, true, true, true, true, true, true, true, true, true, true, true, true, true, true, true, true, true, true, true, true, true, true, true, true, true, true, true, true, true, true, true, true, true, true, true, true, true, true, true, true, true, true, true, true, true, true, true, true, true, false, true, false, true, false, false, false, false, false, false, false, false, false, false, false, false, false, false, false, false] rfl rfl (one_of HT_.out (by kernel_rfl)) (by decide) (fun K hK => ?_)
              refine goes_ Tryd.func34 (by kernel_rfl) rfl #[.agg #[.int .u64 t403, .int .u64 t404]] (by rfl) rfl rfl (by (try simp only [List.map_toArray, List.map_cons, List.map_nil]); first | done | rfl | (simp only [List.length_drop, List.length_take]; rfl)) ?_
              with_reducible refine (bits_Set_Count.calls t403 t404 t405 _ A24.out).mono ?_
              rintro e w52 ⟨rfl, hb⟩
              refine ⟨_, rfl, ?_⟩
              have n0_ := Aside0.mk (blk_below (g := gb372) (o := .cells #[.int .u64 a0_0, .int .u64 a0_1] 24 (0, 0)) (by (with_reducible repeat (first | refine blk_drewN ?_ _ | refine blk_drew ?_ | refine blk_alloc ?_ _)); exact BK372.out) hb)
              have n1_ := Aside0.mk (blk_below (g := gb373) (o := .cells #[.int .u64 a1_0, .int .u64 a1_1] 24 (0, 0)) (by (with_reducible repeat (first | refine blk_drewN ?_ _ | refine blk_drew ?_ | refine blk_alloc ?_ _)); exact BK373.out) hb)
              have n2_ := Aside0.mk (below_step (by repeat (first | (with_reducible first | exact HB.out | apply below_alloc | apply pw_below_drewN | apply below_drew1 | refine below_set ?_ GE372.out | refine below_set ?_ GE373.out) | exact HB.out)) hb)
              clear BK372
              clear BK373
              clear HB
              have BK372 := n0_
              have BK373 := n1_
              have HB := n2_
              clear n0_ n1_ n2_
              (try clear hb)
              (try clear hb2)
              (try clear hk)
              (try clear hi)
              refine hK.out _ _ ⟨(blk_cell BK372.out 0).trans rfl, (blk_cell BK372.out 1).trans rfl, (blk_cell BK373.out 0).trans rfl, (blk_cell BK373.out 1).trans rfl⟩ (fun hHeld => ?_)
              clear hK K
              refine norm_ (a' := ?_) ?_ ?_
              rotate_left
              · show Act.put _ (some 54) _ = _
                simp only [Act.put, List.setIfInBounds_toArray, List.set_cons_zero, List.set_cons_succ, i64_w, i32_w]
                rfl
              refine pure_ (i := 50) (N := some 55) (v := ?_) (a' := ?_) #[true, true, true, true, true, true, true, true, true, true, true, true, true, true, true, true, true, true, true, true, true, true, true, true, true, true, true, true, true, true, true, true, true, true, true, true, true, true, true, true, true, true, true, true, true, true, true, true, true, true, true, true, false, true, false, false, false, false, false, false, false, false, false, false, false, false, false, false, false, false] rfl rfl (any_of HT_.out (by kernel_rfl)) (fun _ _ _ h => h) (Or.inl ⟨by rfl, ?_⟩) ?_ ?_
              rotate_left
              · intro w'
                go_simp
                with_reducible rfl
              rotate_left
              · simp only [Act.put, List.setIfInBounds_toArray, List.set_cons_zero, List.set_cons_succ, i64_w, i32_w]
                rfl
              refine one_ (i := 52) (N := some 57) #[true, true, true, true, true, true, true, true, true, true, true, true, true, true, true, true, true, true, true, true, true, true, true, true, true, true, true, true, true, true, true, true, true, true, true, true, true, true, true, true, true, true, true, true, true, true, true, true, true, true, true, true, true, true, false, false, false, false, false, false, false, false, false, false, false, false, false, false, false, false] rfl rfl (one_of HT_.out (by kernel_rfl)) (by decide) (fun K hK => ?_)
              refine goes_ Tryd.func34 (by kernel_rfl) rfl #[.agg #[.int .u64 a0_0, .int .u64 a0_1]] (by rfl) rfl rfl (by (try simp only [List.map_toArray, List.map_cons, List.map_nil]); first | done | rfl | (simp only [List.length_drop, List.length_take]; rfl)) ?_
              with_reducible refine (bits_Set_Count.calls a0_0 a0_1 t406 _ A25.out).mono ?_
              rintro e w53 ⟨rfl, hb⟩
              refine ⟨_, rfl, ?_⟩
              have n0_ := Aside0.mk (blk_below (g := gb372) (o := .cells #[.int .u64 a0_0, .int .u64 a0_1] 24 (0, 0)) (by (with_reducible repeat (first | refine blk_drewN ?_ _ | refine blk_drew ?_ | refine blk_alloc ?_ _)); exact BK372.out) hb)
              have n1_ := Aside0.mk (blk_below (g := gb373) (o := .cells #[.int .u64 a1_0, .int .u64 a1_1] 24 (0, 0)) (by (with_reducible repeat (first | refine blk_drewN ?_ _ | refine blk_drew ?_ | refine blk_alloc ?_ _)); exact BK373.out) hb)
              have n2_ := Aside0.mk (below_step (by repeat (first | (with_reducible first | exact HB.out | apply below_alloc | apply pw_below_drewN | apply below_drew1 | refine below_set ?_ GE372.out | refine below_set ?_ GE373.out) | exact HB.out)) hb)
              clear BK372
              clear BK373
              clear HB
              have BK372 := n0_
              have BK373 := n1_
              have HB := n2_
              clear n0_ n1_ n2_
              (try clear hb)
              (try clear hb2)
              (try clear hk)
              (try clear hi)
              refine hK.out _ _ ⟨(blk_cell BK372.out 0).trans rfl, (blk_cell BK372.out 1).trans rfl, (blk_cell BK373.out 0).trans rfl, (blk_cell BK373.out 1).trans rfl⟩ (fun hHeld => ?_)
              clear hK K
              refine norm_ (a' := ?_) ?_ ?_
              rotate_left
              · show Act.put _ (some 57) _ = _
                simp only [Act.put, List.setIfInBounds_toArray, List.set_cons_zero, List.set_cons_succ, i64_w, i32_w]
                rfl
              refine one_ (i := 54) (N := some 59) #[true, true, true, true, true, true, true, true, true, true, true, true, true, true, true, true, true, true, true, true, true, true, true, true, true, true, true, true, true, true, true, true, true, true, true, true, true, true, true, true, true, true, true, true, true, true, true, true, true, true, true, true, true, true, true, false, false, false, false, false, false, false, false, false, false, false, false, false, false, false] rfl rfl (one_of HT_.out (by kernel_rfl)) (by decide) (fun K hK => ?_)
              refine goes_ Tryd.func34 (by kernel_rfl) rfl #[.agg #[.int .u64 a1_0, .int .u64 a1_1]] (by rfl) rfl rfl (by (try simp only [List.map_toArray, List.map_cons, List.map_nil]); first | done | rfl | (simp only [List.length_drop, List.length_take]; rfl)) ?_
              with_reducible refine (bits_Set_Count.calls a1_0 a1_1 t407 _ A26.out).mono ?_
              rintro e w54 ⟨rfl, hb⟩
              refine ⟨_, rfl, ?_⟩
              have n0_ := Aside0.mk (blk_below (g := gb372) (o := .cells #[.int .u64 a0_0, .int .u64 a0_1] 24 (0, 0)) (by (with_reducible repeat (first | refine blk_drewN ?_ _ | refine blk_drew ?_ | refine blk_alloc ?_ _)); exact BK372.out) hb)
              have n1_ := Aside0.mk (blk_below (g := gb373) (o := .cells #[.int .u64 a1_0, .int .u64 a1_1] 24 (0, 0)) (by (with_reducible repeat (first | refine blk_drewN ?_ _ | refine blk_drew ?_ | refine blk_alloc ?_ _)); exact BK373.out) hb)
              have n2_ := Aside0.mk (below_step (by repeat (first | (with_reducible first | exact HB.out | apply below_alloc | apply pw_below_drewN | apply below_drew1 | refine below_set ?_ GE372.out | refine below_set ?_ GE373.out) | exact HB.out)) hb)
              clear BK372
              clear BK373
              clear HB
              have BK372 := n0_
              have BK373 := n1_
              have HB := n2_
              clear n0_ n1_ n2_
              (try clear hb)
              (try clear hb2)
              (try clear hk)
              (try clear hi)
              refine hK.out _ _ ⟨(blk_cell BK372.out 0).trans rfl, (blk_cell BK372.out 1).trans rfl, (blk_cell BK373.out 0).trans rfl, (blk_cell BK373.out 1).trans rfl⟩ (fun hHeld => ?_)
              clear hK K
              refine norm_ (a' := ?_) ?_ ?_
              rotate_left
              · show Act.put _ (some 59) _ = _
                simp only [Act.put, List.setIfInBounds_toArray, List.set_cons_zero, List.set_cons_succ, i64_w, i32_w]
                rfl
              refine pure_ (i := 55) (N := some 60) (v := ?_) (a' := ?_) #[true, true, true, true, true, true, true, true, true, true, true, true, true, true, true, true, true, true, true, true, true, true, true, true, true, true, true, true, true, true, true, true, true, true, true, true, true, true, true, true, true, true, true, true, true, true, true, true, true, true, true, true, true, true, true, true, false, false, false, false, false, false, false, false, false, false, false, false, false, false] rfl rfl (any_of HT_.out (by kernel_rfl)) (fun _ _ _ h => h) (Or.inl ⟨by rfl, ?_⟩) ?_ ?_
              rotate_left
              · intro w'
                go_simp
                with_reducible rfl
              rotate_left
              · simp only [Act.put, List.setIfInBounds_toArray, List.set_cons_zero, List.set_cons_succ, i64_w, i32_w]
                rfl
              refine pure_ (i := 56) (N := some 61) (v := ?_) (a' := ?_) #[true, true, true, true, true, true, true, true, true, true, true, true, true, true, true, true, true, true, true, true, true, true, true, true, true, true, true, true, true, true, true, true, true, true, true, true, true, true, true, true, true, true, true, true, true, true, true, true, true, true, true, true, true, true, true, true, true, false, false, false, false, false, false, false, false, false, false, false, false, false] rfl rfl (any_of HT_.out (by kernel_rfl)) (fun _ _ _ h => h) (Or.inl ⟨by rfl, ?_⟩) ?_ ?_
              rotate_left
              · intro w'
                go_simp
                with_reducible rfl
              rotate_left
              · simp only [Act.put, List.setIfInBounds_toArray, List.set_cons_zero, List.set_cons_succ, i64_w, i32_w]
                rfl
              refine pure_ (i := 57) (N := some 62) (v := ?_) (a' := ?_) #[true, true, true, true, true, true, true, true, true, true, true, true, true, true, true, true, true, true, true, true, true, true, true, true, true, true, true, true, true, true, true, true, true, true, true, true, true, true, true, true, true, true, true, true, true, true, true, true, true, true, true, true, true, true, true, true, true, true, false, false, false, false, false, false, false, false, false, false, false, false] rfl rfl (any_of HT_.out (by kernel_rfl)) (fun _ _ _ h => h) (Or.inl ⟨by rfl, ?_⟩) ?_ ?_
              rotate_left
              · intro w'
                go_simp
                with_reducible rfl
              rotate_left
              · simp only [Act.put, List.setIfInBounds_toArray, List.set_cons_zero, List.set_cons_succ, i64_w, i32_w]
                rfl
              refine pure_ (i := 58) (N := some 63) (v := ?_) (a' := ?_) #[true, true, true, true, true, true, true, true, true, true, true, true, true, true, true, true, true, true, true, true, true, true, true, true, true, true, true, true, true, true, true, true, true, true, true, true, true, true, true, true, true, true, true, true, true, true, true, true, true, true, true, true, true, true, true, true, true, true, true, false, false, false, false, false, false, false, false, false, false, false] rfl rfl (any_of HT_.out (by kernel_rfl)) (fun _ _ _ h => h) (Or.inl ⟨by rfl, ?_⟩) ?_ ?_
              rotate_left
              · intro w'
                go_simp
                with_reducible rfl
              rotate_left
              · simp only [Act.put, List.setIfInBounds_toArray, List.set_cons_zero, List.set_cons_succ, i64_w, i32_w]
                rfl
              refine pure_ (i := 63) (N := some 68) (v := ?_) (a' := ?_) #[true, true, true, true, true, true, true, true, true, true, true, true, true, true, true, true, true, true, true, true, true, true, true, true, true, true, true, true, true, true, true, true, true, true, true, true, true, true, true, true, true, true, true, true, true, true, true, true, true, true, true, true, true, true, true, true, true, true, true, false, false, false, false, true, false, false, false, false, false, false] rfl rfl (any_of HT_.out (by kernel_rfl)) (fun _ _ _ h => h) (Or.inl ⟨by rfl, ?_⟩) ?_ ?_
              rotate_left
              · intro w'
                go_simp
                with_reducible rfl
              rotate_left
              · simp only [Act.put, List.setIfInBounds_toArray, List.set_cons_zero, List.set_cons_succ, i64_w, i32_w]
                rfl
              refine take_ (i := 59) (N := some 64) (v := ?_) (a' := ?_) #[true, true, true, true, true, true, true, true, true, true, true, true, true, true, true, true, true, true, true, true, true, true, true, true, true, true, true, true, true, true, true, true, true, true, true, true, true, true, true, true, true, true, true, true, true, true, true, true, true, true, true, true, true, true, true, true, true, true, true, true, false, false, false, true, false, false, false, false, false, false] rfl rfl (take_ofW HT_.out HW_.out (by kernel_rfl)) (fun _ _ _ h => h) (Or.inl ⟨by rfl, ?_⟩) hHeld ?_ ?_
              rotate_left
              · rintro w' ⟨s0, s1, s2, s3⟩
                go_simp
                with_reducible rfl
              rotate_left
              · simp only [Act.put, List.setIfInBounds_toArray, List.set_cons_zero, List.set_cons_succ, i64_w, i32_w]
                rfl
              refine take_ (i := 60) (N := some 65) (v := ?_) (a' := ?_) #[true, true, true, true, true, true, true, true, true, true, true, true, true, true, true, true, true, true, true, true, true, true, true, true, true, true, true, true, true, true, true, true, true, true, true, true, true, true, true, true, true, true, true, true, true, true, true, true, true, true, true, true, true, true, true, true, true, true, true, true, true, false, false, true, false, false, false, false, false, false] rfl rfl (take_ofW HT_.out HW_.out (by kernel_rfl)) (fun _ _ _ h => h) (Or.inl ⟨by rfl, ?_⟩) hHeld ?_ ?_
              rotate_left
              · rintro w' ⟨s0, s1, s2, s3⟩
                go_simp
                with_reducible rfl
              rotate_left
              · simp only [Act.put, List.setIfInBounds_toArray, List.set_cons_zero, List.set_cons_succ, i64_w, i32_w]
                rfl
              refine one_ (i := 61) (N := some 66) #[true, true, true, true, true, true, true, true, true, true, true, true, true, true, true, true, true, true, true, true, true, true, true, true, true, true, true, true, true, true, true, true, true, true, true, true, true, true, true, true, true, true, true, true, true, true, true, true, true, true, true, true, true, true, true, true, true, true, true, true, true, true, false, true, false, false, false, false, false, false] rfl rfl (one_of HT_.out (by kernel_rfl)) (by decide) (fun K hK => ?_)
              refine goes_ Tryd.func28 (by kernel_rfl) rfl #[.agg #[.int .u64 a0_0, .int .u64 a0_1]] (by rfl) rfl rfl (by (try simp only [List.map_toArray, List.map_cons, List.map_nil]); first | done | rfl | (simp only [List.length_drop, List.length_take]; rfl)) ?_
              with_reducible refine (bits_Set_Not.calls a0_0 a0_1 t408 t409 _ A28.out).mono ?_
              rintro e w55 ⟨rfl, hb⟩
              refine ⟨_, rfl, ?_⟩
              have n0_ := Aside0.mk (blk_below (g := gb372) (o := .cells #[.int .u64 a0_0, .int .u64 a0_1] 24 (0, 0)) (by (with_reducible repeat (first | refine blk_drewN ?_ _ | refine blk_drew ?_ | refine blk_alloc ?_ _)); exact BK372.out) hb)
              have n1_ := Aside0.mk (blk_below (g := gb373) (o := .cells #[.int .u64 a1_0, .int .u64 a1_1] 24 (0, 0)) (by (with_reducible repeat (first | refine blk_drewN ?_ _ | refine blk_drew ?_ | refine blk_alloc ?_ _)); exact BK373.out) hb)
              have n2_ := Aside0.mk (below_step (by repeat (first | (with_reducible first | exact HB.out | apply below_alloc | apply pw_below_drewN | apply below_drew1 | refine below_set ?_ GE372.out | refine below_set ?_ GE373.out) | exact HB.out)) hb)
              clear BK372
              clear BK373
              clear HB
              have BK372 := n0_
              have BK373 := n1_
              have HB := n2_
              clear n0_ n1_ n2_
              (try clear hb)
              (try clear hb2)
              (try clear hk)
              (try clear hi)
              refine hK.out _ _ ⟨(blk_cell BK372.out 0).trans rfl, (blk_cell BK372.out 1).trans rfl, (blk_cell BK373.out 0).trans rfl, (blk_cell BK373.out 1).trans rfl⟩ (fun hHeld => ?_)
              clear hK K
              refine norm_ (a' := ?_) ?_ ?_
              rotate_left
              · show Act.put _ (some 66) _ = _
                simp only [Act.put, List.setIfInBounds_toArray, List.set_cons_zero, List.set_cons_succ, i64_w, i32_w]
                rfl
              refine one_ (i := 62) (N := some 67) #[true, true, true, true, true, true, true, true, true, true, true, true, true, true, true, true, true, true, true, true, true, true, true, true, true, true, true, true, true, true, true, true, true, true, true, true, true, true, true, true, true, true, true, true, true, true, true, true, true, true, true, true, true, true, true, true, true, true, true, true, true, true, true, true, false, false, false, false, false, false] rfl rfl (one_of HT_.out (by kernel_rfl)) (by decide) (fun K hK => ?_)
              refine goes_ Tryd.func26 (by kernel_rfl) rfl #[.agg #[.int .u64 a0_0, .int .u64 a0_1], .agg #[.int .u64 t408, .int .u64 t409]] (by rfl) rfl rfl (by (try simp only [List.map_toArray, List.map_cons, List.map_nil]); first | done | rfl | (simp only [List.length_drop, List.length_take]; rfl)) ?_
              with_reducible refine (bits_Set_And.calls a0_0 a0_1 t408 t409 t410 t411 _ A29.out).mono ?_
              rintro e w56 ⟨rfl, hb⟩
              refine ⟨_, rfl, ?_⟩
              have n0_ := Aside0.mk (blk_below (g := gb372) (o := .cells #[.int .u64 a0_0, .int .u64 a0_1] 24 (0, 0)) (by (with_reducible repeat (first | refine blk_drewN ?_ _ | refine blk_drew ?_ | refine blk_alloc ?_ _)); exact BK372.out) hb)
              have n1_ := Aside0.mk (blk_below (g := gb373) (o := .cells #[.int .u64 a1_0, .int .u64 a1_1] 24 (0, 0)) (by (with_reducible repeat (first | refine blk_drewN ?_ _ | refine blk_drew ?_ | refine blk_alloc ?_ _)); exact BK373.out) hb)
              have n2_ := Aside0.mk (below_step (by repeat (first | (with_reducible first | exact HB.out | apply below_alloc | apply pw_below_drewN | apply below_drew1 | refine below_set ?_ GE372.out | refine below_set ?_ GE373.out) | exact HB.out)) hb)
              clear BK372
              clear BK373
              clear HB
              have BK372 := n0_
              have BK373 := n1_
              have HB := n2_
              clear n0_ n1_ n2_
              (try clear hb)
              (try clear hb2)
              (try clear hk)
              (try clear hi)
              refine hK.out _ _ ⟨(blk_cell BK372.out 0).trans rfl, (blk_cell BK372.out 1).trans rfl, (blk_cell BK373.out 0).trans rfl, (blk_cell BK373.out 1).trans rfl⟩ (fun hHeld => ?_)
              clear hK K
              refine norm_ (a' := ?_) ?_ ?_
              rotate_left
              · show Act.put _ (some 67) _ = _
                simp only [Act.put, List.setIfInBounds_toArray, List.set_cons_zero, List.set_cons_succ, i64_w, i32_w]
                rfl
              refine pure_ (i := 64) (N := some 69) (v := ?_) (a' := ?_) #[true, true, true, true, true, true, true, true, true, true, true, true, true, true, true, true, true, true, true, true, true, true, true, true, true, true, true, true, true, true, true, true, true, true, true, true, true, true, true, true, true, true, true, true, true, true, true, true, true, true, true, true, true, true, true, true, true, true, true, true, true, true, true, true, true, false, false, false, false, false] rfl rfl (any_of HT_.out (by kernel_rfl)) (fun _ _ _ h => h) (Or.inl ⟨by rfl, ?_⟩) ?_ ?_
              rotate_left
              · intro w'
                go_simp
                with_reducible rfl
              rotate_left
              · simp only [Act.put, List.setIfInBounds_toArray, List.set_cons_zero, List.set_cons_succ, i64_w, i32_w]
                rfl
              refine pure_ (i := 65) (N := some 70) (v := ?_) (a' := ?_) #[true, true, true, true, true, true, true, true, true, true, true, true, true, true, true, true, true, true, true, true, true, true, true, true, true, true, true, true, true, true, true, true, true, true, true, true, true, true, true, true, true, true, true, true, true, true, true, true, true, true, true, true, true, true, true, true, true, true, true, true, true, true, true, true, true, true, false, false, false, false] rfl rfl (any_of HT_.out (by kernel_rfl)) (fun _ _ _ h => h) (Or.inl ⟨by rfl, ?_⟩) ?_ ?_
              rotate_left
              · intro w'
                go_simp
                with_reducible rfl
              rotate_left
              · simp only [Act.put, List.setIfInBounds_toArray, List.set_cons_zero, List.set_cons_succ, i64_w, i32_w]
                rfl
              refine pure_ (i := 66) (N := some 71) (v := ?_) (a' := ?_) #[true, true, true, true, true, true, true, true, true, true, true, true, true, true, true, true, true, true, true, true, true, true, true, true, true, true, true, true, true, true, true, true, true, true, true, true, true, true, true, true, true, true, true, true, true, true, true, true, true, true, true, true, true, true, true, true, true, true, true, true, true, true, true, true, true, true, true, false, false, false] rfl rfl (any_of HT_.out (by kernel_rfl)) (fun _ _ _ h => h) (Or.inl ⟨by rfl, ?_⟩) ?_ ?_
              rotate_left
              · intro w'
                go_simp
                with_reducible rfl
              rotate_left
              · simp only [Act.put, List.setIfInBounds_toArray, List.set_cons_zero, List.set_cons_succ, i64_w, i32_w]
                rfl
              refine one_ (i := 67) (N := some 72) #[true, true, true, true, true, true, true, true, true, true, true, true, true, true, true, true, true, true, true, true, true, true, true, true, true, true, true, true, true, true, true, true, true, true, true, true, true, true, true, true, true, true, true, true, true, true, true, true, true, true, true, true, true, true, true, true, true, true, true, true, true, true, true, true, true, true, true, true, false, false] rfl rfl (one_of HT_.out (by kernel_rfl)) (by decide) (fun K hK => ?_)
              refine goes_ Tryd.func29 (by kernel_rfl) rfl #[] (by rfl) rfl rfl (by (try simp only [List.map_toArray, List.map_cons, List.map_nil]); first | done | rfl | (simp only [List.length_drop, List.length_take]; rfl)) ?_
              with_reducible refine (riverbanklaw01_live.calls k  t412 _ (tab_of HT.out (by repeat (first | (with_reducible first | exact HB.out | apply below_alloc | apply pw_below_drewN | apply below_drew1 | refine below_set ?_ GE372.out | refine below_set ?_ GE373.out) | exact HB.out))) A31.out).mono ?_
              rintro e w57 ⟨rfl, hb⟩
              refine ⟨_, rfl, ?_⟩
              have n0_ := Aside0.mk (blk_below (g := gb372) (o := .cells #[.int .u64 a0_0, .int .u64 a0_1] 24 (0, 0)) (by (with_reducible repeat (first | refine blk_drewN ?_ _ | refine blk_drew ?_ | refine blk_alloc ?_ _)); exact BK372.out) hb)
              have n1_ := Aside0.mk (blk_below (g := gb373) (o := .cells #[.int .u64 a1_0, .int .u64 a1_1] 24 (0, 0)) (by (with_reducible repeat (first | refine blk_drewN ?_ _ | refine blk_drew ?_ | refine blk_alloc ?_ _)); exact BK373.out) hb)
              have n2_ := Aside0.mk (below_step (by repeat (first | (with_reducible first | exact HB.out | apply below_alloc | apply pw_below_drewN | apply below_drew1 | refine below_set ?_ GE372.out | refine below_set ?_ GE373.out) | exact HB.out)) hb)
              clear BK372
              clear BK373
              clear HB
              have BK372 := n0_
              have BK373 := n1_
              have HB := n2_
              clear n0_ n1_ n2_
              (try clear hb)
              (try clear hb2)
              (try clear hk)
              (try clear hi)
              refine hK.out _ _ ⟨(blk_cell BK372.out 0).trans rfl, (blk_cell BK372.out 1).trans rfl, (blk_cell BK373.out 0).trans rfl, (blk_cell BK373.out 1).trans rfl⟩ (fun hHeld => ?_)
              clear hK K
              refine norm_ (a' := ?_) ?_ ?_
              rotate_left
              · show Act.put _ (some 72) _ = _
                simp only [Act.put, List.setIfInBounds_toArray, List.set_cons_zero, List.set_cons_succ, i64_w, i32_w]
                rfl
              refine pure_ (i := 68) (N := some 73) (v := ?_) (a' := ?_) #[true, true, true, true, true, true, true, true, true, true, true, true, true, true, true, true, true, true, true, true, true, true, true, true, true, true, true, true, true, true, true, true, true, true, true, true, true, true, true, true, true, true, true, true, true, true, true, true, true, true, true, true, true, true, true, true, true, true, true, true, true, true, true, true, true, true, true, true, true, false] rfl rfl (any_of HT_.out (by kernel_rfl)) (fun _ _ _ h => h) (Or.inl ⟨by rfl, ?_⟩) ?_ ?_
              rotate_left
              · intro w'
                go_simp
                with_reducible rfl
              rotate_left
              · simp only [Act.put, List.setIfInBounds_toArray, List.set_cons_zero, List.set_cons_succ, i64_w, i32_w]
                rfl
              refine pure_ (i := 69) (N := some 4) (v := ?_) (a' := ?_) #[true, true, true, true, true, true, true, true, true, true, true, true, true, true, true, true, true, true, true, true, true, true, true, true, true, true, true, true, true, true, true, true, true, true, true, true, true, true, true, true, true, true, true, true, true, true, true, true, true, true, true, true, true, true, true, true, true, true, true, true, true, true, true, true, true, true, true, true, true, true] rfl rfl (any_of HT_.out (by kernel_rfl)) (fun _ _ _ h => h) (Or.inl ⟨by rfl, ?_⟩) ?_ ?_
              rotate_left
              · intro w'
                go_simp
                with_reducible rfl
              rotate_left
              · simp only [Act.put, List.setIfInBounds_toArray, List.set_cons_zero, List.set_cons_succ, i64_w, i32_w]
                rfl
              refine done_ (done_of HT_.out (by kernel_rfl)) ?_
              try go_wp2
              go_ret
              exact ⟨by first | rfl | (simp [errW_none, errW_some] <;> rfl) | (simp [*, errW_none, errW_some] <;> rfl), by repeat (first | (with_reducible first | exact HB.out | apply below_alloc | apply pw_below_drewN | apply below_drew1 | refine below_set ?_ GE372.out | refine below_set ?_ GE373.out) | exact HB.out)⟩
            · rw [if_neg c30] at H; cases H
          · rw [if_neg c27] at H; cases H
        · rw [if_neg c20] at H; cases H
      · rw [if_neg c16] at H; cases H
    · rw [if_neg c11] at H; cases H
  · rw [if_neg c8] at H; cases H

end Go.Proofs.YtkbimiimgcklaaaDoor.Print
