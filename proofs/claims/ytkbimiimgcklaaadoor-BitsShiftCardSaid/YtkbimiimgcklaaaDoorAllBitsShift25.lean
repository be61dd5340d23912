/- Merged by a program of this session (wip/gprint/merge.py): what this claim needs of this session's texts, each part as it was. -/
import Derived.Test.YtkbimiimgcklaaaDoorAllBitsShift23
import Derived.Test.YtkbimiimgcklaaaDoorAllBitsShift22
import Derived.Test.YtkbimiimgcklaaaDoorAllBitsShift5
import Derived.Test.YtkbimiimgcklaaaDoorAllBitsShift13
import Derived.Test.YtkbimiimgcklaaaDoorAllBitsShift15
import Derived.Test.YtkbimiimgcklaaaDoorAllBitsShift9
import Derived.Test.YtkbimiimgcklaaaDoorAllBitsShift24
namespace Go.Proofs.YtkbimiimgcklaaaDoor.BitMath
end Go.Proofs.YtkbimiimgcklaaaDoor.BitMath
namespace Go.Proofs.YtkbimiimgcklaaaDoor.Print
end Go.Proofs.YtkbimiimgcklaaaDoor.Print
namespace Go.Proofs.YtkbimiimgcklaaaDoor.SetMath
end Go.Proofs.YtkbimiimgcklaaaDoor.SetMath

-- of YtkbimiimgcklaaaDoorSetMathSix
/- The document's Shift, Between, List, Put, Of; how many squares a set has, whether one, which last. -/
namespace Go.Proofs.YtkbimiimgcklaaaDoor.SetMath
open Go.RowKit Go.Proofs.YtkbimiimgcklaaaDoor.Print Go.Proofs.YtkbimiimgcklaaaDoor.BitMath Go.Proofs.YtkbimiimgcklaaaDoorW.PrintWords Go.Proofs.YtkbimiimgcklaaaDoorW.PrintLast Go.Proofs.YtkbimiimgcklaaaDoorW.PrintMore
theorem tl_lt (p : Nat → Bool) (i : Int) (h : i < 90) : i < ((tl p).length : Int) := by rw [tl_length]; omega
theorem Square_f (n : Int) : riverbankref01_Square.f n = some (decide (0 ≤ n ∧ n < 90)) := by
  unfold riverbankref01_Square.f
  by_cases c : n ≥ 0
  · rw [if_pos c]; congr 1; exact decide_eq_decide.2 (by omega)
  · rw [if_neg c, decide_eq_false (by omega)]
/-- What has been shifted when i squares are done. -/
def shiftI (p : Nat → Bool) (n : Int) (i : Nat) (j : Nat) : Bool := decide (0 ≤ (j : Int) - n ∧ (j : Int) - n < i) && p ((j : Int) - n).toNat
theorem RShift_l0 (p : Nat → Bool) (n : Int) (hn : -1000 < n ∧ n < 1000) (d : Nat) : ∀ (k i : Nat), i + d = 90 → d < k →
    riverbankref01_Shift.l0 k (tl p) n (tl (shiftI p n i)) (i : Int) = some (tl (shiftI p n 90)) := by
  induction d with
  | zero =>
    intro k i hi hk
    obtain ⟨k, rfl⟩ : ∃ m, k = m + 1 := ⟨k - 1, by omega⟩
    simp only [riverbankref01_Shift.l0]
    rw [if_neg (by omega), show i = 90 by omega]
  | succ d ih =>
    intro k i hi hk
    obtain ⟨k, rfl⟩ : ∃ m, k = m + 1 := ⟨k - 1, by omega⟩
    have IH := ih k (i + 1) (by omega) (by omega)
    have e : wrap64 ((i : Int) + n) = (i : Int) + n := by unfold wrap64; omega
    have same : (p i = false ∨ ¬ (0 ≤ (i : Int) + n ∧ (i : Int) + n < 90)) → tl (shiftI p n i) = tl (shiftI p n (i + 1)) := fun h => tl_congr fun j hj => by
      unfold shiftI
      by_cases c : (j : Int) - n = i
      · rcases h with h | h
        · rw [show ((j : Int) - n).toNat = i by omega, h]; simp
        · omega
      · congr 1; exact decide_eq_decide.2 (by omega)
    simp only [riverbankref01_Shift.l0]
    rw [if_pos (by omega), if_pos (by omega), if_pos (tl_lt _ _ (by omega)), tl_rd p i (by omega), e, wi i (by omega), Square_f]
    by_cases c1 : p i = true
    · rw [if_pos c1, if_pos (by omega), if_pos (by omega)]
      simp only [Option.bind_some]
      by_cases c2 : 0 ≤ (i : Int) + n ∧ (i : Int) + n < 90
      · rw [if_pos (decide_eq_true c2), if_pos c2.1, if_pos (tl_lt _ _ c2.2), tl_set]
        rw [← IH]
        congr 1
        refine tl_congr fun j hj => ?_
        unfold shiftI
        by_cases c3 : j = ((i : Int) + n).toNat
        · rw [if_pos c3, decide_eq_true (by omega), show ((j : Int) - n).toNat = i by omega, c1]; rfl
        · rw [if_neg c3]; congr 1; exact decide_eq_decide.2 (by omega)
      · rw [if_neg (by rw [decide_eq_false c2]; decide), same (.inr c2)]; exact IH
    · rw [if_neg c1, same (.inl (by simpa using c1))]; exact IH
theorem RShift_no (p : Nat → Bool) (n : Int) (hn : ¬ (-1000 < n ∧ n < 1000)) (d : Nat) : ∀ (k i : Nat), i + d = 90 → d < k →
    riverbankref01_Shift.l0 k (tl p) n (tl fun _ => false) (i : Int) = some (tl fun _ => false) := by
  induction d with
  | zero =>
    intro k i hi hk
    obtain ⟨k, rfl⟩ : ∃ m, k = m + 1 := ⟨k - 1, by omega⟩
    simp only [riverbankref01_Shift.l0]
    rw [if_neg (by omega)]
  | succ d ih =>
    intro k i hi hk
    obtain ⟨k, rfl⟩ : ∃ m, k = m + 1 := ⟨k - 1, by omega⟩
    have IH := ih k (i + 1) (by omega) (by omega)
    simp only [riverbankref01_Shift.l0]
    rw [if_pos (by omega), if_pos (by omega), if_pos (tl_lt _ _ (by omega)), tl_rd p i (by omega), wi i (by omega)]
    by_cases c1 : p i = true
    · rw [if_pos c1]
      by_cases c2 : n > -1000
      · rw [if_pos c2, if_neg (by omega)]; exact IH
      · rw [if_neg c2]; exact IH
    · rw [if_neg c1]; exact IH
theorem RShift_f (k : Nat) (hk : 91 ≤ k) (p : Nat → Bool) (n : Int) : riverbankref01_Shift.f k (tl p) n = some (tl (shiftP p n)) := by
  unfold riverbankref01_Shift.f
  rw [if_pos (by decide), tl_replicate]
  by_cases hn : -1000 < n ∧ n < 1000
  · have e : tl (fun _ => false) = tl (shiftI p n 0) := tl_congr fun j _ => by unfold shiftI; rw [decide_eq_false (by omega)]; rfl
    rw [e]
    exact RShift_l0 p n hn 90 k 0 (by omega) (by omega)
  · have := RShift_no p n hn 90 k 0 (by omega) (by omega)
    rw [show ((0 : Nat) : Int) = 0 from rfl] at this
    rw [this]
    exact congrArg some (tl_congr fun j hj => by unfold shiftP; rw [decide_eq_false (by omega)]; rfl)
theorem RBetween_l0 (p : Nat → Bool) (x y : Int) (d : Nat) : ∀ (k i : Nat), i + d = 90 → d < k →
    riverbankref01_Between.l0 k (tl p) x y (tl fun n => decide (n < i) && betweenP p x y n) (i : Int) = some (tl (betweenP p x y)) := by
  induction d with
  | zero =>
    intro k i hi hk
    obtain ⟨k, rfl⟩ : ∃ m, k = m + 1 := ⟨k - 1, by omega⟩
    simp only [riverbankref01_Between.l0]
    rw [if_neg (by omega)]
    exact congrArg some (tl_congr fun n hn => by simp; omega)
  | succ d ih =>
    intro k i hi hk
    obtain ⟨k, rfl⟩ : ∃ m, k = m + 1 := ⟨k - 1, by omega⟩
    have IH := ih k (i + 1) (by omega) (by omega)
    have st : ∀ b, b = betweenP p x y i → (tl fun n => decide (n < i) && betweenP p x y n).set i b = tl fun n => decide (n < i + 1) && betweenP p x y n := fun b hb => by
      rw [tl_set]
      refine tl_congr fun n hn => ?_
      by_cases c : n = i
      · rw [if_pos c, hb, c]; simp
      · rw [if_neg c]; congr 1; exact decide_eq_decide.2 (by omega)
    simp only [riverbankref01_Between.l0]
    rw [if_pos (by omega), if_pos (by omega), if_pos (tl_lt _ _ (by omega)), tl_rd p i (by omega)]
    by_cases c1 : p i = true
    · rw [if_pos c1]
      by_cases c2 : (i : Int) > mn x y
      · rw [if_pos c2, if_pos (tl_lt _ _ (by omega)), Int.toNat_natCast, st _ (by unfold betweenP; rw [c1, decide_eq_true c2]; rfl), wi i (by omega)]; exact IH
      · rw [if_neg c2, if_pos (tl_lt _ _ (by omega)), Int.toNat_natCast, st _ (by unfold betweenP; rw [decide_eq_false c2]; simp), wi i (by omega)]; exact IH
    · rw [if_neg c1, if_pos (tl_lt _ _ (by omega)), Int.toNat_natCast, st _ (by unfold betweenP; simp [c1]), wi i (by omega)]; exact IH
theorem RBetween_f (k : Nat) (hk : 91 ≤ k) (p : Nat → Bool) (x y : Int) : riverbankref01_Between.f k (tl p) x y = some (tl (betweenP p x y)) := by
  unfold riverbankref01_Between.f
  have e : List.replicate 90 false = tl (fun n => decide (n < 0) && betweenP p x y n) := by rw [tl_replicate]; exact tl_congr (fun n _ => by simp)
  rw [if_pos (by decide), e]
  exact RBetween_l0 p x y 90 k 0 (by omega) (by omega)
end Go.Proofs.YtkbimiimgcklaaaDoor.SetMath
