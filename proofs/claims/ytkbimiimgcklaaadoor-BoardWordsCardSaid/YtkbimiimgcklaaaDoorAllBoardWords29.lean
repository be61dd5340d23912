/- Merged by a program of this session (wip/gprint/merge.py): what this claim needs of this session's texts, each part as it was. -/
import Derived.Test.YtkbimiimgcklaaaDoorAllBoardWords28
namespace Go.Proofs.YtkbimiimgcklaaaDoor.Print
end Go.Proofs.YtkbimiimgcklaaaDoor.Print
namespace Go.Proofs.YtkbimiimgcklaaaDoor.Pure
end Go.Proofs.YtkbimiimgcklaaaDoor.Pure

-- of YtkbimiimgcklaaaDoorPureBoardWords
namespace Go.Proofs.YtkbimiimgcklaaaDoor.Pure
open Go.RowKit Go.Proofs.YtkbimiimgcklaaaDoor.Print Go.Proofs.YtkbimiimgcklaaaDoorW.PrintWords Go.Proofs.YtkbimiimgcklaaaDoorW.PrintLast
set_option maxRecDepth 100000 in
theorem words_c : (List.range 256).all (fun c => decide (board_Side.f (c : Int) = riverbankref02_Side.f 30 (c : Int) ∧ (board_Side.f (c : Int)).isSome = true ∧ board_Kind.f (c : Int) = riverbankref02_Kind.f 30 (c : Int) ∧ (board_Kind.f (c : Int)).isSome = true)) = true := by decide +kernel
set_option maxRecDepth 100000 in
theorem words_n : (List.range 90).all (fun n => decide (board_File.f (n : Int) = riverbankref02_File.f (n : Int) ∧ board_Rank.f (n : Int) = riverbankref02_Rank.f (n : Int) ∧ (board_File.f (n : Int)).bind (fun t => (board_Rank.f (n : Int)).bind fun r => if t < 0 then none else board_Square.f t r) = some (n : Int))) = true := by decide +kernel
theorem words_sq (a b : Int) : ∃ v, board_Square.f a b = some v ∧ riverbankref02_Square.f a b = some v := by
  by_cases c1 : a < 0
  · exact ⟨-1, by unfold board_Square.f; rw [if_pos c1], by unfold riverbankref02_Square.f; rw [if_pos c1]⟩
  by_cases c2 : a > 8
  · exact ⟨-1, by unfold board_Square.f; rw [if_neg c1, if_pos (show a ≥ 9 by omega)], by unfold riverbankref02_Square.f; rw [if_neg c1, if_pos c2]⟩
  by_cases c3 : b < 0
  · exact ⟨-1, by unfold board_Square.f; rw [if_neg c1, if_neg (show ¬ a ≥ 9 by omega), if_pos c3], by unfold riverbankref02_Square.f; rw [if_neg c1, if_neg c2, if_pos c3]⟩
  by_cases c4 : b > 9
  · exact ⟨-1, by unfold board_Square.f; rw [if_neg c1, if_neg (show ¬ a ≥ 9 by omega), if_neg c3, if_pos (show b ≥ 10 by omega)], by unfold riverbankref02_Square.f; rw [if_neg c1, if_neg c2, if_neg c3, if_pos c4]⟩
  · exact ⟨wrap64 (wrap64 (9 * b) + a), by unfold board_Square.f; rw [if_neg c1, if_neg (show ¬ a ≥ 9 by omega), if_neg c3, if_neg (show ¬ b ≥ 10 by omega)], by unfold riverbankref02_Square.f; rw [if_neg c1, if_neg c2, if_neg c3, if_neg c4]⟩
theorem words_out (n : Int) (h : n < 0 ∨ n > 89) : board_File.f n = some (-1) ∧ riverbankref02_File.f n = some (-1) ∧ board_Rank.f n = some (-1) ∧ riverbankref02_Rank.f n = some (-1) := by
  have hq : board_isSquare.f n = some false := by
    unfold board_isSquare.f
    by_cases c : n ≥ 0
    · rw [if_pos c, decide_eq_false (by omega)]
    · rw [if_neg c]
  have h1 : board_File.f n = some (-1) := by unfold board_File.f; rw [hq]; rfl
  have h2 : board_Rank.f n = some (-1) := by unfold board_Rank.f; rw [hq]; rfl
  refine ⟨h1, ?_, h2, ?_⟩
  · unfold riverbankref02_File.f
    by_cases c : n < 0
    · rw [if_pos c]
    · rw [if_neg c, if_pos (by omega)]
  · unfold riverbankref02_Rank.f
    by_cases c : n < 0
    · rw [if_pos c]
    · rw [if_neg c, if_pos (by omega)]
theorem BoardWords (a0_0 : Int) (a0_1 : Int) (a0_2 : Int) (a0_3 : Int) : (Lit.int .u8 a0_0).wf = true → (Lit.int .i64 a0_1).wf = true → (Lit.int .i64 a0_2).wf = true → (Lit.int .i64 a0_3).wf = true → ∃ k, riverbanklaw02_BoardWords.f k a0_0 a0_1 a0_2 a0_3 = some true := by
  intro w0 _ _ _
  have hc : 0 ≤ a0_0 ∧ a0_0 < 256 := by
    simp [Lit.wf, IntKind.min, IntKind.max, IntKind.signed, IntKind.bits] at w0
    omega
  obtain ⟨c, rfl⟩ : ∃ c : Nat, a0_0 = c := ⟨a0_0.toNat, by omega⟩
  have h := of_decide_eq_true (List.all_eq_true.1 words_c c (List.mem_range.2 (by omega)))
  obtain ⟨e1, s1, e2, s2⟩ := h
  obtain ⟨s, hs⟩ := Option.isSome_iff_exists.1 s1
  obtain ⟨q, hq⟩ := Option.isSome_iff_exists.1 s2
  have hs' := e1.symm.trans hs
  have hq' := e2.symm.trans hq
  obtain ⟨v, hv, hv'⟩ := words_sq a0_2 a0_3
  refine ⟨30, ?_⟩
  unfold riverbanklaw02_BoardWords.f
  by_cases ho : a0_1 < 0 ∨ a0_1 > 89
  · obtain ⟨f1, f2, f3, f4⟩ := words_out a0_1 ho
    simp only [hs, hs', hq, hq', hv, hv', f1, f2, f3, f4, Option.bind_some, if_true]
    rfl
  · obtain ⟨n, rfl⟩ : ∃ n : Nat, a0_1 = n := ⟨a0_1.toNat, by omega⟩
    obtain ⟨f1, f2, f3⟩ := of_decide_eq_true (List.all_eq_true.1 words_n n (List.mem_range.2 (by omega)))
    obtain ⟨f, hf, f3⟩ := Option.bind_eq_some_iff.mp f3
    obtain ⟨r, hr, f3⟩ := Option.bind_eq_some_iff.mp f3
    have hf' := f1.symm.trans hf
    have hr' := f2.symm.trans hr
    by_cases cf : f < 0
    · rw [if_pos cf] at f3; cases f3
    · rw [if_neg cf] at f3
      simp only [hs, hs', hq, hq', hv, hv', hf, hf', hr, hr', f3, Option.bind_some, if_true, if_neg cf]
      rfl
end Go.Proofs.YtkbimiimgcklaaaDoor.Pure
