/- Merged by a program of this session (wip/gprint/merge.py): what this claim needs of this session's texts, each part as it was. -/
import Derived.Test.YtkbimiimgcklaaaDoorAllPlaceInside45
import Derived.Test.YtkbimiimgcklaaaDoorAllPlaceInside48
namespace Go.Proofs.YtkbimiimgcklaaaDoor.Print
end Go.Proofs.YtkbimiimgcklaaaDoor.Print
namespace Go.Proofs.YtkbimiimgcklaaaDoor.Pure
end Go.Proofs.YtkbimiimgcklaaaDoor.Pure
namespace Go.Proofs.YtkbimiimgcklaaaDoor.SetMath
end Go.Proofs.YtkbimiimgcklaaaDoor.SetMath

-- of YtkbimiimgcklaaaDoorPurePlaceInside
/- The plain law PlaceInside. -/
namespace Go.Proofs.YtkbimiimgcklaaaDoor.Pure
open Go.RowKit Go.Proofs.YtkbimiimgcklaaaDoor.Print Go.Proofs.YtkbimiimgcklaaaDoor.SetMath Go.Proofs.YtkbimiimgcklaaaDoorW.PrintWords Go.Proofs.YtkbimiimgcklaaaDoorW.PrintLast Go.Proofs.YtkbimiimgcklaaaDoorW.PrintMore
set_option maxRecDepth 100000 in
theorem inside_tab : ∀ j : Fin 14, ∀ n : Fin 90, riverbanklaw03_PlaceInside.f 50 (letters.getD j.val 0) (n.val : Int) = some true := by decide +kernel
theorem PlaceInside (a0 a1 : Int) : (Lit.int .u8 a0).wf = true → (Lit.int .i64 a1).wf = true → ∃ k, riverbanklaw03_PlaceInside.f k a0 a1 = some true := by
  intro w0 _
  have hc : 0 ≤ a0 ∧ a0 < 256 := by
    simp [Lit.wf, IntKind.min, IntKind.max, IntKind.signed, IntKind.bits] at w0
    omega
  obtain ⟨c, rfl⟩ : ∃ c : UInt8, a0 = (c.toNat : Int) := ⟨a0.toNat.toUInt8, by simp; omega⟩
  by_cases ho : a1 < 0 ∨ a1 > 89 ∨ sideOf (c.toNat : Int) = -1
  · obtain ⟨k, hk⟩ : ∃ k : Nat, 200 ≤ k := ⟨200, Nat.le_refl _⟩
    refine ⟨k, ?_⟩
    unfold riverbanklaw03_PlaceInside.f
    rw [side_ref c k (by omega), Option.bind_some, kind_ref c k (by omega), Option.bind_some, may_some _ _ k (by omega), may_out _ _ ho, Option.bind_some, if_neg (by decide)]
    rfl
  · rcases letter_or c with ⟨j, hj⟩ | h
    · have := inside_tab j ⟨a1.toNat, by omega⟩
      rw [hj, show (((⟨a1.toNat, by omega⟩ : Fin 90).val : Nat) : Int) = a1 from by show (a1.toNat : Int) = a1; omega] at this
      exact ⟨50, this⟩
    · exact absurd (Or.inr (Or.inr h)) ho
end Go.Proofs.YtkbimiimgcklaaaDoor.Pure
