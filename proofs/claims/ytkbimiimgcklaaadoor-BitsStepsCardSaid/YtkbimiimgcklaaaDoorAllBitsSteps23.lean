/- Merged by a program of this session (wip/gprint/merge.py): what this claim needs of this session's texts, each part as it was. -/
import Derived.Test.YtkbimiimgcklaaaDoorAllBitsSteps21
import Derived.Test.YtkbimiimgcklaaaDoorAllBitsSteps20
import Derived.Test.YtkbimiimgcklaaaDoorAllBitsSteps22
namespace Go.Proofs.YtkbimiimgcklaaaDoor.BitMath
end Go.Proofs.YtkbimiimgcklaaaDoor.BitMath
namespace Go.Proofs.YtkbimiimgcklaaaDoor.Print
end Go.Proofs.YtkbimiimgcklaaaDoor.Print
namespace Go.Proofs.YtkbimiimgcklaaaDoor.Pure
end Go.Proofs.YtkbimiimgcklaaaDoor.Pure
namespace Go.Proofs.YtkbimiimgcklaaaDoor.SetMath
end Go.Proofs.YtkbimiimgcklaaaDoor.SetMath

-- of YtkbimiimgcklaaaDoorPureBitsSteps
/- For any set of two words and any two numbers from 0 to 1000: shifted by the one and then by the other, on or back, it is what it is shifted by both; elsewhere the examples of live() hold; no condition. -/
namespace Go.Proofs.YtkbimiimgcklaaaDoor.Pure
open Go.RowKit Go.Proofs.YtkbimiimgcklaaaDoor.Print Go.Proofs.YtkbimiimgcklaaaDoor.BitMath Go.Proofs.YtkbimiimgcklaaaDoor.SetMath Go.Proofs.YtkbimiimgcklaaaDoorW.PrintWords Go.Proofs.YtkbimiimgcklaaaDoorW.PrintLast Go.Proofs.YtkbimiimgcklaaaDoorW.PrintMore
theorem u64_wf {x : Int} (h : (Lit.int .u64 x).wf = true) : U x := by
  simp [Lit.wf, IntKind.min, IntKind.max, IntKind.signed, IntKind.bits] at h
  exact ⟨by omega, by omega⟩
theorem live1 (k : Nat) (hk : 12 ≤ k) : riverbanklaw01_live.f k = some true := by
  have h : riverbanklaw01_live.f 12 = some true := by decide +kernel
  exact at_rounds riverbanklaw01_live.mono hk h
theorem shift_two (k : Nat) (hk : 3 ≤ k) {a b : Int} (ha : U a) (hb : U b) (n m : Int) (h : (0 ≤ n ∧ 0 ≤ m) ∨ (n ≤ 0 ∧ m ≤ 0)) : ∃ s r : Int × Int, bits_Set_Shift.f k a b n = some s ∧ bits_Set_Shift.f k s.1 s.2 m = some r ∧ bits_Set_Shift.f k a b (n + m) = some r := by
  obtain ⟨s, hs, ts⟩ := Shift_f k hk ha hb n
  obtain ⟨r, hr, tr⟩ := Shift_f k hk ts.can.lo ts.can.hi m
  obtain ⟨q, hq, tq⟩ := Shift_f k hk ha hb (n + m)
  refine ⟨s, r, hs, hr, ?_⟩
  rw [hq, tq.eq (q := shiftP (SetMath.mem s.1 s.2) m) tr (fun j hj => by rw [shiftP_congr ts.mem, shiftP_add _ n m h j hj])]
theorem BitsSteps (a b n m : Int) (ha : (Lit.int .u64 a).wf = true) (hb : (Lit.int .u64 b).wf = true) (hn : (Lit.int .i64 n).wf = true) (hm : (Lit.int .i64 m).wf = true) : ∃ k, riverbanklaw01_BitsSteps.f k a b n m = some true := by
  replace ha := u64_wf ha
  replace hb := u64_wf hb
  refine ⟨100, ?_⟩
  have hl := live1 99 (by decide)
  unfold riverbanklaw01_BitsSteps.f
  by_cases c1 : n < 0
  · rw [if_pos c1]; simp only [riverbanklaw01_BitsSteps.j0, hl]; rfl
  · rw [if_neg c1]
    by_cases c2 : m < 0
    · rw [if_pos c2]; simp only [riverbanklaw01_BitsSteps.j0, hl]; rfl
    · rw [if_neg c2]
      by_cases c3 : n > 1000
      · rw [if_pos c3]; simp only [riverbanklaw01_BitsSteps.j0, hl]; rfl
      · rw [if_neg c3]
        by_cases c4 : m > 1000
        · rw [decide_eq_true c4]; simp only [riverbanklaw01_BitsSteps.j0, hl]; rfl
        · rw [decide_eq_false c4]
          simp only [riverbanklaw01_BitsSteps.j0]
          obtain ⟨s, r, e1, e2, e3⟩ := shift_two 99 (by decide) ha hb n m (.inl ⟨by omega, by omega⟩)
          obtain ⟨t, q, f1, f2, f3⟩ := shift_two 99 (by decide) ha hb (-n) (-m) (.inr ⟨by omega, by omega⟩)
          rw [show wrap64 (n + m) = n + m by unfold wrap64; omega, show wrap64 (-n) = -n by unfold wrap64; omega, show wrap64 (-m) = -m by unfold wrap64; omega, show wrap64 (-n - m) = -n + -m by unfold wrap64; omega]
          simp only [Bool.false_eq_true, if_false, e1, e2, e3, f1, f2, f3, Option.bind_some, beq_self_eq_true, Bool.and_self, if_true, hl]
end Go.Proofs.YtkbimiimgcklaaaDoor.Pure
