/- Merged by a program of this session (wip/gprint/merge.py): what this claim needs of this session's texts, each part as it was. -/
import Derived.Test.YtkbimiimgcklaaaDoorAllPlaceTurn23
import Derived.Test.YtkbimiimgcklaaaDoorAllPlaceTurn21
namespace Go.Proofs.YtkbimiimgcklaaaDoor.BitMath
end Go.Proofs.YtkbimiimgcklaaaDoor.BitMath
namespace Go.Proofs.YtkbimiimgcklaaaDoor.Print
end Go.Proofs.YtkbimiimgcklaaaDoor.Print
namespace Go.Proofs.YtkbimiimgcklaaaDoor.SetMath
end Go.Proofs.YtkbimiimgcklaaaDoor.SetMath

-- of YtkbimiimgcklaaaDoorSetMathTwo
/- A set with one square more. -/
namespace Go.Proofs.YtkbimiimgcklaaaDoor.SetMath
open Go.RowKit Go.Proofs.YtkbimiimgcklaaaDoor.Print Go.Proofs.YtkbimiimgcklaaaDoor.BitMath Go.Proofs.YtkbimiimgcklaaaDoorW.PrintWords Go.Proofs.YtkbimiimgcklaaaDoorW.PrintLast Go.Proofs.YtkbimiimgcklaaaDoorW.PrintMore
theorem With_f (k : Nat) {a b : Int} (ha : U a) (hb : U b) (n : Int) : ∃ r, bits_Set_With.f (k + 1) a b n = some r ∧ Tells r (fun i => SetMath.mem a b i || decide ((i : Int) = n)) := by
  obtain ⟨o, ho, ht⟩ := one_f k n
  obtain ⟨r, hr, tr⟩ := Or_f ha hb ht.can.lo ht.can.hi
  refine ⟨r, by unfold bits_Set_With.f; rw [ho]; simp only [Option.bind_some]; rw [hr]; rfl, tr.can, fun i hi => ?_⟩
  rw [tr.mem i hi, ht.mem i hi]
/-- The squares of which something is so, rising. -/
def soL (so : Nat → Bool) : List Int := ((List.range 90).filter so).map fun (n : Nat) => (n : Int)
theorem setL_so {a b : Int} {p : Nat → Bool} (h : ∀ n, n < 90 → mem a b n = p n) : setL a b = soL p := by
  unfold setL soL
  rw [List.filter_congr (fun n hn => h n (List.mem_range.1 hn))]
theorem zero_can : Can 0 0 := ⟨by decide, by decide, by decide, by decide⟩
theorem zero_mem (n : Nat) : mem 0 0 n = false := by unfold mem; split <;> exact tb_zero _
theorem setL_zero : setL 0 0 = [] := by
  unfold setL
  rw [List.map_eq_nil_iff, List.filter_eq_nil_iff]
  intro x _; rw [zero_mem]; decide
/-- One square more is asked. -/
structure UpTo (p : Nat → Bool) (k : Nat) (lo hi : Int) : Prop where
  can : Can lo hi
  mem : ∀ n, n < 90 → SetMath.mem lo hi n = (decide (n < k) && p n)
theorem UpTo.start (p : Nat → Bool) : UpTo p 0 0 0 := ⟨zero_can, fun n _ => by rw [zero_mem]; simp⟩
theorem UpTo.no {p : Nat → Bool} {k : Nat} {lo hi : Int} (h : UpTo p k lo hi) (hp : p k = false) : UpTo p (k + 1) lo hi := ⟨h.can, fun n hn => by
  rw [h.mem n hn]
  by_cases c : n = k
  · subst c; simp [hp]
  · congr 1; exact decide_eq_decide.2 (by omega)⟩
theorem UpTo.yes {p : Nat → Bool} {k : Nat} {lo hi : Int} (h : UpTo p k lo hi) (hp : p k = true) : ∃ x y, bits_Set_With.f 1 lo hi k = some (x, y) ∧ UpTo p (k + 1) x y := by
  obtain ⟨r, hr, tr⟩ := With_f 0 h.can.lo h.can.hi k
  refine ⟨r.1, r.2, hr, tr.can, fun n hn => ?_⟩
  rw [tr.mem n hn, h.mem n hn]
  by_cases c : n = k
  · subst c; simp [hp]
  · have : ¬ (n : Int) = (k : Int) := by omega
    simp only [this, decide_false, Bool.or_false]
    congr 1; exact decide_eq_decide.2 (by omega)
theorem UpTo.list {p : Nat → Bool} {lo hi : Int} (h : UpTo p 90 lo hi) : setL lo hi = soL p := setL_so (fun n hn => by rw [h.mem n hn]; simp [hn])
end Go.Proofs.YtkbimiimgcklaaaDoor.SetMath
