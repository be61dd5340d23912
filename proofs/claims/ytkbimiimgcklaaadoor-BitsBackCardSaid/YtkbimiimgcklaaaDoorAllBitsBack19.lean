/- Merged by a program of this session (wip/gprint/merge.py): what this claim needs of this session's texts, each part as it was. -/
import Derived.Test.YtkbimiimgcklaaaDoorAllBitsBack7
import Derived.Test.YtkbimiimgcklaaaDoorAllBitsBack8
import Derived.Test.YtkbimiimgcklaaaDoorAllBitsBack18
namespace Go.Proofs.YtkbimiimgcklaaaDoor.BitMath
end Go.Proofs.YtkbimiimgcklaaaDoor.BitMath
namespace Go.Proofs.YtkbimiimgcklaaaDoor.Print
end Go.Proofs.YtkbimiimgcklaaaDoor.Print
namespace Go.Proofs.YtkbimiimgcklaaaDoor.SetMath
end Go.Proofs.YtkbimiimgcklaaaDoor.SetMath

-- of YtkbimiimgcklaaaDoorSetMathThree
/- What the document's sets (lists of truths) are: each answer, square by square. -/
namespace Go.Proofs.YtkbimiimgcklaaaDoor.SetMath
open Go.RowKit Go.Proofs.YtkbimiimgcklaaaDoor.Print Go.Proofs.YtkbimiimgcklaaaDoor.BitMath Go.Proofs.YtkbimiimgcklaaaDoorW.PrintWords Go.Proofs.YtkbimiimgcklaaaDoorW.PrintLast Go.Proofs.YtkbimiimgcklaaaDoorW.PrintMore

/-- A list of 90 truths. -/
def tl (p : Nat → Bool) : List Bool := (List.range 90).map p
theorem tl_length (p : Nat → Bool) : (tl p).length = 90 := by simp [tl]
theorem tl_congr {p q : Nat → Bool} (h : ∀ n, n < 90 → p n = q n) : tl p = tl q := List.map_congr_left (fun n hn => h n (List.mem_range.1 hn))
theorem tl_set (p : Nat → Bool) (i : Nat) (b : Bool) : (tl p).set i b = tl (fun j => if j = i then b else p j) := by
  apply List.ext_getElem
  · simp [tl]
  · intro n h1 h2
    rw [List.getElem_set]
    simp only [tl, List.getElem_map, List.getElem_range]
    by_cases c : i = n
    · rw [if_pos c, if_pos c.symm]
    · rw [if_neg c, if_neg (fun e => c e.symm)]
theorem tl_rd (p : Nat → Bool) (i : Nat) (hi : i < 90) : rdOf false (tl p) (i : Int) = p i := by
  unfold rdOf
  rw [Int.toNat_natCast, List.getD_eq_getElem?_getD, List.getElem?_eq_getElem (by rw [tl_length]; exact hi)]
  simp [tl]
theorem tl_replicate : List.replicate 90 false = tl (fun _ => false) := by decide
theorem wi (i : Nat) (h : i < 4611686018427387904) : wrap64 ((i : Int) + 1) = ((i + 1 : Nat) : Int) := by unfold wrap64; omega
/-! The other way round. -/
/-- The number whose bits are told, from bit m up. -/
theorem up_bits (x : Int) (h : U x) (m : Nat) (hm : m < 45) : IntKind.u64.wrap (x / 2 ^ (m + 1) * 2) = x / 2 ^ (m + 1) * 2 ∧ x / 2 ^ m = x / 2 ^ (m + 1) * 2 + (if tb x m = true then 1 else 0) ∧ IntKind.u64.wrap (x / 2 ^ (m + 1) * 2 + 1) = x / 2 ^ (m + 1) * 2 + 1 := by
  have e1 : x / 2 ^ (m + 1) = x / 2 ^ m / 2 := by rw [Int.pow_succ, Int.ediv_ediv_of_nonneg (Int.pow_nonneg (by decide))]
  have h0 := U_shr h m
  have h1 := h0.1
  have h2 := h0.2
  have hb := tb_mod2 x h.1 m
  obtain ⟨z, hz⟩ : ∃ z, z = x / 2 ^ m := ⟨_, rfl⟩
  rw [← hz] at h1 h2 e1 hb ⊢
  rw [e1, u64_wrap, u64_wrap]
  refine ⟨by omega, ?_, by omega⟩
  by_cases c : tb x m = true
  · rw [if_pos c]; have : z % 2 = 1 := hb.mpr c; omega
  · rw [if_neg c]; have : ¬ z % 2 = 1 := fun e => c (hb ▸ e); omega
theorem Words_l0 {a b : Int} {p : Nat → Bool} (ha : U a) (hb : U b) (hp : ∀ n, n < 90 → mem a b n = p n) (d : Nat) : ∀ (k : Nat), d ≤ 45 → d < k →
    riverbankref01_Words.l0 k (tl p) (a / 2 ^ d) (b / 2 ^ d) ((d : Int) - 1) = some (a, b) := by
  induction d with
  | zero =>
    intro k hi hk
    obtain ⟨k, rfl⟩ : ∃ m, k = m + 1 := ⟨k - 1, by omega⟩
    simp only [riverbankref01_Words.l0]
    rw [if_neg (by omega)]; simp
  | succ d ih =>
    intro k hi hk
    obtain ⟨k, rfl⟩ : ∃ m, k = m + 1 := ⟨k - 1, by omega⟩
    have e0 : ((d + 1 : Nat) : Int) - 1 = (d : Int) := by omega
    have e1 : wrap64 (45 + (d : Int)) = ((45 + d : Nat) : Int) := by unfold wrap64; omega
    have e2 : wrap64 ((d : Int) - 1) = (d : Int) - 1 := by unfold wrap64; omega
    have m1 : tb a d = p d := by rw [← hp d (by omega)]; unfold mem; rw [if_pos (by omega)]
    have m2 : tb b d = p (45 + d) := by rw [← hp (45 + d) (by omega)]; unfold mem; rw [if_neg (by omega), show 45 + d - 45 = d by omega]
    obtain ⟨u1, u2, u3⟩ := up_bits a ha d (by omega)
    obtain ⟨v1, v2, v3⟩ := up_bits b hb d (by omega)
    have IH := ih k (by omega) (by omega)
    rw [u2, v2, m1, m2] at IH
    rw [e0]
    simp only [riverbankref01_Words.l0]
    rw [if_pos (by omega), if_pos (by omega), if_pos (by rw [tl_length]; omega), tl_rd p d (by omega), e1, e2, u1, u3, v1, v3]
    by_cases c1 : p d = true
    · rw [if_pos c1] at IH ⊢
      rw [if_pos (by omega), if_pos (by rw [tl_length]; omega), tl_rd p (45 + d) (by omega)]
      by_cases c2 : p (45 + d) = true
      · rw [if_pos c2] at IH ⊢; exact IH
      · rw [if_neg c2] at IH ⊢; rw [Int.add_zero] at IH; exact IH
    · rw [if_neg c1] at IH ⊢
      rw [if_pos (by omega), if_pos (by rw [tl_length]; omega), tl_rd p (45 + d) (by omega)]
      by_cases c2 : p (45 + d) = true
      · rw [if_pos c2] at IH ⊢; rw [Int.add_zero] at IH; exact IH
      · rw [if_neg c2] at IH ⊢; rw [Int.add_zero, Int.add_zero] at IH; exact IH
theorem small_div {x : Int} (h0 : 0 ≤ x) (h1 : x < 35184372088832) : x / 2 ^ 45 = 0 := by
  rw [show (2 : Int) ^ 45 = 35184372088832 by decide]; omega
/-- A set is what the document says, if it has just these squares. -/
theorem is_f (k : Nat) (hk : 46 ≤ k) {r : Int × Int} {p : Nat → Bool} (h : Tells r p) : riverbanklaw01_is.f k r.1 r.2 (tl p) = some true := by
  unfold riverbanklaw01_is.f riverbankref01_Words.f
  have e := Words_l0 h.can.lo h.can.hi h.mem 45 k (by omega) (by omega)
  rw [small_div h.can.l0 h.can.l1, small_div h.can.h0 h.can.h1] at e
  rw [show ((45 : Nat) : Int) - 1 = 44 by omega] at e
  rw [e]
  simp
end Go.Proofs.YtkbimiimgcklaaaDoor.SetMath
