/- Merged by a program of this session (wip/gprint/merge.py): what this claim needs of this session's texts, each part as it was. -/
import Derived.Test.YtkbimiimgcklaaaDoorAllBoardTells40
import Derived.Test.YtkbimiimgcklaaaDoorAllBoardTells42
namespace Go.Proofs.YtkbimiimgcklaaaDoor.Print
end Go.Proofs.YtkbimiimgcklaaaDoor.Print
namespace Go.Proofs.YtkbimiimgcklaaaDoor.Pure
end Go.Proofs.YtkbimiimgcklaaaDoor.Pure
namespace Go.Proofs.YtkbimiimgcklaaaDoor.SetMath
end Go.Proofs.YtkbimiimgcklaaaDoor.SetMath

-- of YtkbimiimgcklaaaDoorPureBoardTells
/- The plain law BoardTells. -/
namespace Go.Proofs.YtkbimiimgcklaaaDoor.Pure
open Go.RowKit Go.Proofs.YtkbimiimgcklaaaDoor.Print Go.Proofs.YtkbimiimgcklaaaDoor.SetMath Go.Proofs.YtkbimiimgcklaaaDoorW.PrintWords Go.Proofs.YtkbimiimgcklaaaDoorW.PrintLast Go.Proofs.YtkbimiimgcklaaaDoorW.PrintMore
theorem BoardTells (s : ByteArray) (a1 a2 : Int) : (Lit.int .i64 a1).wf = true → (Lit.int .u8 a2).wf = true → ∃ k, riverbanklaw02_BoardTells.f k s a1 a2 = some true := by
  intro _ w0
  have hc : 0 ≤ a2 ∧ a2 < 256 := by
    simp [Lit.wf, IntKind.min, IntKind.max, IntKind.signed, IntKind.bits] at w0
    omega
  obtain ⟨c, rfl⟩ : ∃ c : UInt8, a2 = (c.toNat : Int) := ⟨a2.toNat.toUInt8, by simp; omega⟩
  obtain ⟨k, hk⟩ : ∃ k : Nat, 130 ≤ k := ⟨130, Nat.le_refl _⟩
  refine ⟨k, ?_⟩
  unfold riverbanklaw02_BoardTells.f
  by_cases hs : (s.size : Int) ≤ 200
  case neg =>
    rw [show riverbanklaw02_small.f s = some false by unfold riverbanklaw02_small.f; rw [decide_eq_false hs], Option.bind_some, if_neg (by decide)]
    rfl
  rw [show riverbanklaw02_small.f s = some true by unfold riverbanklaw02_small.f; rw [decide_eq_true hs], Option.bind_some, if_pos rfl]
  obtain ⟨t, ht⟩ : ∃ t, board_Is.f s = some t := ⟨_, rfl⟩
  obtain ⟨v1, p1, q1⟩ := RAt_f s a1 k hk
  obtain ⟨v2, p2, q2⟩ := RPut_f s a1 c k hk
  obtain ⟨v3, p3, q3, z3⟩ := RFind_f s (c.toNat : Int) k hk
  obtain ⟨v4, p4, q4, z4⟩ := RPieces_f s (sideOf (c.toNat : Int)) k hk
  obtain ⟨v5, p5, q5⟩ := RTurn_f s k hk
  rw [side_ref c k (by omega), Option.bind_some, ht, Option.bind_some, RIs_f s k hk, ht, Option.bind_some, if_pos (by simp),
    p1, Option.bind_some, q1, Option.bind_some, if_pos rfl, p2, Option.bind_some, q2, Option.bind_some, if_pos rfl,
    p3, Option.bind_some, q3, Option.bind_some, Ints_f k v3 (by omega) (by omega), Option.bind_some, if_pos rfl,
    p4, Option.bind_some, q4, Option.bind_some, Ints_f k v4 (by omega) (by omega), Option.bind_some, if_pos rfl,
    p5, Option.bind_some, q5, Option.bind_some, if_pos rfl]
  rfl
end Go.Proofs.YtkbimiimgcklaaaDoor.Pure
