/- Merged by a program of this session (wip/gprint/merge.py): what this claim needs of this session's texts, each part as it was. -/
import Derived.Test.YtkbimiimgcklaaaDoorAllBitsOne5
import Derived.Test.YtkbimiimgcklaaaDoorAllBitsOne6
import Derived.Test.YtkbimiimgcklaaaDoorAllBitsOne11
import Derived.Test.YtkbimiimgcklaaaDoorAllBitsOne10
import Derived.Test.YtkbimiimgcklaaaDoorAllBitsOne15
import Derived.Test.YtkbimiimgcklaaaDoorAllBitsOne22
import Derived.Test.YtkbimiimgcklaaaDoorAllBitsOne23
import Derived.Test.YtkbimiimgcklaaaDoorAllBitsOne14
import Derived.Test.YtkbimiimgcklaaaDoorAllBitsOne8
import Derived.Test.YtkbimiimgcklaaaDoorAllBitsOne20
namespace Go.Proofs.YtkbimiimgcklaaaDoor.BitMath
end Go.Proofs.YtkbimiimgcklaaaDoor.BitMath
namespace Go.Proofs.YtkbimiimgcklaaaDoor.Print
end Go.Proofs.YtkbimiimgcklaaaDoor.Print
namespace Go.Proofs.YtkbimiimgcklaaaDoor.SetMath
end Go.Proofs.YtkbimiimgcklaaaDoor.SetMath

-- of YtkbimiimgcklaaaDoorSetMathSix
/- The document's Shift, Between, List, Put, Of; how many squares a set has, whether one, which last. -/
namespace Go.Proofs.YtkbimiimgcklaaaDoor.SetMath
open Go.RowKit Go.Proofs.YtkbimiimgcklaaaDoor.Print Go.Proofs.YtkbimiimgcklaaaDoor.BitMath Go.Proofs.YtkbimiimgcklaaaDoorW.PrintWords Go.Proofs.YtkbimiimgcklaaaDoorW.PrintLast Go.Proofs.YtkbimiimgcklaaaDoorW.PrintMore
theorem tl_lt (p : Nat → Bool) (i : Int) (h : i < 90) : i < ((tl p).length : Int) := by rw [tl_length]; omega
theorem Square_f (n : Int) : riverbankref01_Square.f n = some (decide (0 ≤ n ∧ n < 90)) := by
  unfold riverbankref01_Square.f
  by_cases c : n ≥ 0
  · rw [if_pos c]; congr 1; exact decide_eq_decide.2 (by omega)
  · rw [if_neg c, decide_eq_false (by omega)]
/-! The list of a set. -/
theorem soL_snoc (p : Nat → Bool) (i : Nat) : ((List.range (i + 1)).filter p).map (fun (n : Nat) => (n : Int)) = ((List.range i).filter p).map (fun (n : Nat) => (n : Int)) ++ if p i = true then [(i : Int)] else [] := by
  rw [List.range_succ, List.filter_append, List.map_append]
  by_cases c : p i = true <;> simp [c]
theorem RList_l0 (p : Nat → Bool) (d : Nat) : ∀ (k i : Nat), i + d = 90 → d < k →
    riverbankref01_List.l0 k (tl p) (((List.range i).filter p).map fun (n : Nat) => (n : Int)) (i : Int) = some (soL p) := by
  induction d with
  | zero =>
    intro k i hi hk
    obtain ⟨k, rfl⟩ : ∃ m, k = m + 1 := ⟨k - 1, by omega⟩
    obtain rfl : i = 90 := by omega
    simp only [riverbankref01_List.l0]
    rw [if_neg (by rw [tl_length]; omega)]; rfl
  | succ d ih =>
    intro k i hi hk
    obtain ⟨k, rfl⟩ : ∃ m, k = m + 1 := ⟨k - 1, by omega⟩
    have IH := ih k (i + 1) (by omega) (by omega)
    have hl : (((List.range i).filter p).map fun (n : Nat) => (n : Int)).length ≤ i := by
      have := List.length_filter_le p (List.range i)
      simp at this ⊢
      omega
    rw [soL_snoc] at IH
    simp only [riverbankref01_List.l0]
    rw [if_pos (tl_lt _ _ (by omega)), if_pos (by omega), tl_rd p i (by omega), wi i (by omega)]
    by_cases c : p i = true
    · rw [if_pos c] at IH ⊢
      rw [if_pos (by omega)]; exact IH
    · rw [if_neg c] at IH ⊢
      rw [List.append_nil] at IH; exact IH
theorem RList_f (k : Nat) (hk : 91 ≤ k) (p : Nat → Bool) : riverbankref01_List.f k (tl p) = some (soL p) := RList_l0 p 90 k 0 (by omega) (by omega)
theorem RPut_f (p : Nat → Bool) (n : Int) (b : Bool) : riverbankref01_Put.f (tl p) n b = some (tl fun i => if (i : Int) = n then b else p i) := by
  unfold riverbankref01_Put.f
  rw [if_pos (by rw [tl_length]; decide), Square_f]
  simp only [Option.bind_some, List.nil_append]
  by_cases c : 0 ≤ n ∧ n < 90
  · rw [if_pos (decide_eq_true c), if_pos c.1, if_pos (tl_lt _ _ c.2), tl_set]
    exact congrArg some (tl_congr fun j hj => by
      by_cases e : j = n.toNat
      · rw [if_pos e, if_pos (by omega)]
      · rw [if_neg e, if_neg (by omega)])
  · rw [if_neg (by rw [decide_eq_false c]; decide)]
    exact congrArg some (tl_congr fun j hj => by rw [if_neg (by omega)])
end Go.Proofs.YtkbimiimgcklaaaDoor.SetMath
