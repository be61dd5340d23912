/- Merged by a program of this session (wip/gprint/merge.py): what this claim needs of this session's texts, each part as it was. -/
import Derived.Test.YtkbimiimgcklaaaDoorAllBitsMix19
namespace Go.Proofs.YtkbimiimgcklaaaDoor.BitMath
end Go.Proofs.YtkbimiimgcklaaaDoor.BitMath
namespace Go.Proofs.YtkbimiimgcklaaaDoor.Print
end Go.Proofs.YtkbimiimgcklaaaDoor.Print
namespace Go.Proofs.YtkbimiimgcklaaaDoor.SetMath
end Go.Proofs.YtkbimiimgcklaaaDoor.SetMath

-- of YtkbimiimgcklaaaDoorSetMathFour
/- The document's Mix of two sets, and the comparing of two lists. -/

namespace Go.Proofs.YtkbimiimgcklaaaDoor.SetMath
open Go.RowKit Go.Proofs.YtkbimiimgcklaaaDoor.Print Go.Proofs.YtkbimiimgcklaaaDoor.BitMath Go.Proofs.YtkbimiimgcklaaaDoorW.PrintWords Go.Proofs.YtkbimiimgcklaaaDoorW.PrintLast Go.Proofs.YtkbimiimgcklaaaDoorW.PrintMore
/-- What the document's Mix has. -/
def mixP (p q : Nat → Bool) (how : Int) (n : Nat) : Bool := if how = 0 then p n || q n else if how = 1 then p n && q n else p n && !q n
theorem Mix_step (p q : Nat → Bool) (how : Int) (i : Nat) (b : Bool) (hb : b = mixP p q how i) : (tl fun n => decide (n < i) && mixP p q how n).set i b = tl fun n => decide (n < i + 1) && mixP p q how n := by
  rw [tl_set]
  refine tl_congr fun n hn => ?_
  by_cases c : n = i
  · rw [if_pos c, hb, c]; simp
  · rw [if_neg c]; congr 1; exact decide_eq_decide.2 (by omega)
theorem Mix_l0 (p q : Nat → Bool) (how : Int) (d : Nat) : ∀ (k i : Nat), i + d = 90 → d < k →
    riverbankref01_Mix.l0 k (tl p) (tl q) how (tl fun n => decide (n < i) && mixP p q how n) (i : Int) = some (tl (mixP p q how)) := by
  induction d with
  | zero =>
    intro k i hi hk
    obtain ⟨k, rfl⟩ : ∃ m, k = m + 1 := ⟨k - 1, by omega⟩
    simp only [riverbankref01_Mix.l0]
    rw [if_neg (by omega)]
    exact congrArg some (tl_congr fun n hn => by simp; omega)
  | succ d ih =>
    intro k i hi hk
    obtain ⟨k, rfl⟩ : ∃ m, k = m + 1 := ⟨k - 1, by omega⟩
    have IH := ih k (i + 1) (by omega) (by omega)
    have hl : ∀ p : Nat → Bool, (i : Int) < ((tl p).length : Int) := fun p => by rw [tl_length]; omega
    have h0 : (0 : Int) ≤ (i : Int) := by omega
    have st := fun b hb => Mix_step p q how i b hb
    simp only [riverbankref01_Mix.l0]
    rw [if_pos (by omega)]
    by_cases c0 : how = 0
    · rw [if_pos c0, if_pos h0, if_pos (hl _), tl_rd p i (by omega)]
      by_cases b : p i = true
      · rw [if_pos b, if_pos (hl _), Int.toNat_natCast, st true (by unfold mixP; rw [if_pos c0, b]; rfl), wi i (by omega)]; exact IH
      · rw [if_neg b, if_pos (hl _), if_pos (hl _), tl_rd q i (by omega), Int.toNat_natCast, st (q i) (by unfold mixP; rw [if_pos c0]; simp [b]), wi i (by omega)]; exact IH
    · rw [if_neg c0]
      by_cases c1 : how = 1
      · rw [if_pos c1, if_pos h0, if_pos (hl _), tl_rd p i (by omega)]
        by_cases b : p i = true
        · rw [if_pos b, if_pos (hl _), if_pos (hl _), tl_rd q i (by omega), Int.toNat_natCast, st (q i) (by unfold mixP; rw [if_neg c0, if_pos c1, b]; rfl), wi i (by omega)]; exact IH
        · rw [if_neg b, if_pos (hl _), Int.toNat_natCast, st false (by unfold mixP; rw [if_neg c0, if_pos c1]; simp [b]), wi i (by omega)]; exact IH
      · rw [if_neg c1, if_pos h0, if_pos (hl _), tl_rd p i (by omega)]
        by_cases b : p i = true
        · rw [if_pos b, if_pos (hl _), if_pos (hl _), tl_rd q i (by omega), Int.toNat_natCast, st (!q i) (by unfold mixP; rw [if_neg c0, if_neg c1, b]; rfl), wi i (by omega)]; exact IH
        · rw [if_neg b, if_pos (hl _), Int.toNat_natCast, st false (by unfold mixP; rw [if_neg c0, if_neg c1]; simp [b]), wi i (by omega)]; exact IH
theorem Mix_f (k : Nat) (hk : 91 ≤ k) (p q : Nat → Bool) (how : Int) : riverbankref01_Mix.f k (tl p) (tl q) how = some (tl (mixP p q how)) := by
  unfold riverbankref01_Mix.f
  have e : List.replicate 90 false = tl (fun n => decide (n < 0) && mixP p q how n) := by rw [tl_replicate]; exact tl_congr (fun n _ => by simp)
  rw [if_pos (by decide), e]
  exact Mix_l0 p q how 90 k 0 (by omega) (by omega)
end Go.Proofs.YtkbimiimgcklaaaDoor.SetMath
