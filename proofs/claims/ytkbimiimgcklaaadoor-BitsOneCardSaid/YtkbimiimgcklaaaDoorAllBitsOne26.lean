/- Merged by a program of this session (wip/gprint/merge.py): what this claim needs of this session's texts, each part as it was. -/
import Derived.Test.YtkbimiimgcklaaaDoorAllBitsOne5
import Derived.Test.YtkbimiimgcklaaaDoorAllBitsOne23
import Derived.Test.YtkbimiimgcklaaaDoorAllBitsOne15
import Derived.Test.YtkbimiimgcklaaaDoorAllBitsOne14
import Derived.Test.YtkbimiimgcklaaaDoorAllBitsOne8
import Derived.Test.YtkbimiimgcklaaaDoorAllBitsOne13
import Derived.Test.YtkbimiimgcklaaaDoorAllBitsOne25
namespace Go.Proofs.YtkbimiimgcklaaaDoor.BitMath
end Go.Proofs.YtkbimiimgcklaaaDoor.BitMath
namespace Go.Proofs.YtkbimiimgcklaaaDoor.Print
end Go.Proofs.YtkbimiimgcklaaaDoor.Print
namespace Go.Proofs.YtkbimiimgcklaaaDoor.SetMath
end Go.Proofs.YtkbimiimgcklaaaDoor.SetMath

-- of YtkbimiimgcklaaaDoorSetMathSeven
/- Sets made of lists; how many squares a set has, whether one, which last. -/
namespace Go.Proofs.YtkbimiimgcklaaaDoor.SetMath
open Go.RowKit Go.Proofs.YtkbimiimgcklaaaDoor.Print Go.Proofs.YtkbimiimgcklaaaDoor.BitMath Go.Proofs.YtkbimiimgcklaaaDoorW.PrintWords Go.Proofs.YtkbimiimgcklaaaDoorW.PrintLast Go.Proofs.YtkbimiimgcklaaaDoorW.PrintMore
theorem Has_f (k : Nat) {a b : Int} (ha : U a) (hb : U b) (n : Int) : bits_Set_Has.f (k + 1) a b n = some (decide (0 ≤ n ∧ n < 90) && mem a b n.toNat) := by
  obtain ⟨o, ho, ht⟩ := one_f k n
  obtain ⟨r, hr, tr⟩ := And_f ha hb ht.can.lo ht.can.hi
  unfold bits_Set_Has.f
  rw [ho]; simp only [Option.bind_some]; rw [hr]; simp only [Option.bind_some]
  congr 1
  have key : (!(r.1 == 0) || !(r.2 == 0)) = !decide (r.1 = 0 ∧ r.2 = 0) := by
    by_cases c1 : r.1 = 0 <;> by_cases c2 : r.2 = 0 <;> simp [c1, c2]
  rw [key]
  by_cases c : (0 ≤ n ∧ n < 90) ∧ mem a b n.toNat = true
  · rw [decide_eq_true c.1, c.2]
    have h1 := tr.mem n.toNat (by omega)
    rw [ht.mem _ (by omega), c.2, decide_eq_true (by omega)] at h1
    have : ¬ (r.1 = 0 ∧ r.2 = 0) := fun e => by rw [e.1, e.2, zero_mem] at h1; cases h1
    rw [decide_eq_false this]; rfl
  · have hz : Tells ((0 : Int), (0 : Int)) (fun i => SetMath.mem a b i && SetMath.mem o.1 o.2 i) := ⟨zero_can, fun j hj => by
      rw [zero_mem, ht.mem j hj]
      by_cases e : (j : Int) = n
      · have : ¬ mem a b j = true := fun h => c ⟨by omega, by rw [show n.toNat = j by omega]; exact h⟩
        rw [Bool.not_eq_true] at this
        rw [this]; rfl
      · rw [decide_eq_false e]; simp⟩
    have e := tr.eq hz (fun _ _ => rfl)
    rw [e, decide_eq_true ⟨rfl, rfl⟩]
    by_cases c1 : 0 ≤ n ∧ n < 90
    · have : ¬ mem a b n.toNat = true := fun h => c ⟨c1, h⟩
      rw [Bool.not_eq_true] at this
      rw [this]; simp
    · rw [decide_eq_false c1]; rfl
end Go.Proofs.YtkbimiimgcklaaaDoor.SetMath
