/- Merged by a program of this session (wip/gprint/merge.py): what this claim needs of this session's texts, each part as it was. -/
import Derived.Test.YtkbimiimgcklaaaDoorAllBitsBack23
import Derived.Test.YtkbimiimgcklaaaDoorAllBitsBack13
import Derived.Test.YtkbimiimgcklaaaDoorAllBitsBack15
import Derived.Test.YtkbimiimgcklaaaDoorAllBitsBack10
import Derived.Test.YtkbimiimgcklaaaDoorAllBitsBack14
import Derived.Test.YtkbimiimgcklaaaDoorAllBitsBack25
namespace Go.Proofs.YtkbimiimgcklaaaDoor.BitMath
end Go.Proofs.YtkbimiimgcklaaaDoor.BitMath
namespace Go.Proofs.YtkbimiimgcklaaaDoor.Print
end Go.Proofs.YtkbimiimgcklaaaDoor.Print
namespace Go.Proofs.YtkbimiimgcklaaaDoor.SetMath
end Go.Proofs.YtkbimiimgcklaaaDoor.SetMath

-- of YtkbimiimgcklaaaDoorSetMathSeven
/- Sets made of lists; how many squares a set has, whether one, which last. -/
namespace Go.Proofs.YtkbimiimgcklaaaDoor.SetMath
open Go.RowKit Go.Proofs.YtkbimiimgcklaaaDoor.Print Go.Proofs.YtkbimiimgcklaaaDoor.BitMath Go.Proofs.YtkbimiimgcklaaaDoorW.PrintWords Go.Proofs.YtkbimiimgcklaaaDoorW.PrintLast Go.Proofs.YtkbimiimgcklaaaDoorW.PrintMore
/-- Does one of the first i numbers of a list name square j? -/
def ofP (l : List Int) (i : Nat) (j : Nat) : Bool := (l.take i).contains (j : Int)
theorem ofP_snoc (l : List Int) (i : Nat) (hi : i < l.length) (j : Nat) : ofP l (i + 1) j = (ofP l i j || decide ((j : Int) = rd l i)) := by
  unfold ofP rd
  have e : l.take (i + 1) = l.take i ++ [l[i]] := List.take_succ_eq_append_getElem hi
  rw [e, Int.toNat_natCast, List.contains_append, show l.getD i 0 = l[i] by simp [List.getD_eq_getElem?_getD, hi]]
  simp
theorem ROf_l0 (l : List Int) (hl : l.length < 4611686018427387904) (d : Nat) : ∀ (k i : Nat), i + d = l.length → d < k →
    riverbankref01_Of.l0 k l (tl (ofP l i)) (i : Int) = some (tl (ofP l l.length)) := by
  induction d with
  | zero =>
    intro k i hi hk
    obtain ⟨k, rfl⟩ : ∃ m, k = m + 1 := ⟨k - 1, by omega⟩
    simp only [riverbankref01_Of.l0]
    rw [if_neg (by omega), show i = l.length by omega]
  | succ d ih =>
    intro k i hi hk
    obtain ⟨k, rfl⟩ : ∃ m, k = m + 1 := ⟨k - 1, by omega⟩
    have IH := ih k (i + 1) (by omega) (by omega)
    simp only [riverbankref01_Of.l0]
    rw [if_pos (by omega), if_pos (by omega), wi i (by omega), Square_f]
    simp only [Option.bind_some]
    by_cases c : 0 ≤ rd l (i : Int) ∧ rd l (i : Int) < 90
    · rw [if_pos (decide_eq_true c), if_pos c.1, if_pos (tl_lt _ _ c.2), tl_set, ← IH]
      congr 1
      refine tl_congr fun j hj => ?_
      rw [ofP_snoc l i (by omega)]
      by_cases e : j = (rd l (i : Int)).toNat
      · rw [if_pos e, decide_eq_true (by omega)]; simp
      · rw [if_neg e, decide_eq_false (by omega)]; simp
    · rw [if_neg (by rw [decide_eq_false c]; decide), ← IH]
      congr 1
      refine tl_congr fun j hj => ?_
      rw [ofP_snoc l i (by omega), decide_eq_false (by omega)]; simp
theorem ROf_f (l : List Int) (k : Nat) (hk : l.length < k) (hl : l.length < 4611686018427387904) : riverbankref01_Of.f k l = some (tl (ofP l l.length)) := by
  unfold riverbankref01_Of.f
  have e : tl (fun _ => false) = tl (ofP l 0) := tl_congr fun j _ => by simp [ofP]
  rw [if_pos (by decide), tl_replicate, e]
  exact ROf_l0 l hl l.length k 0 (by omega) hk
theorem Of_l0 (l : List Int) (hl : l.length < 4611686018427387904) (d : Nat) : ∀ (k i : Nat) (a b : Int), i + d = l.length → d + 1 < k → Tells (a, b) (ofP l i) →
    ∃ r, bits_Of.l0 k l (l.length : Int) (i : Int) a b = some r ∧ Tells r (ofP l l.length) := by
  induction d with
  | zero =>
    intro k i a b hi hk t
    obtain ⟨k, rfl⟩ : ∃ m, k = m + 1 := ⟨k - 1, by omega⟩
    simp only [bits_Of.l0]
    rw [if_neg (by omega)]
    exact ⟨_, rfl, by rw [← show i = l.length by omega]; exact t⟩
  | succ d ih =>
    intro k i a b hi hk t
    obtain ⟨k, rfl⟩ : ∃ m, k = m + 1 := ⟨k - 1, by omega⟩
    obtain ⟨k2, hk2⟩ : ∃ m, k = m + 1 := ⟨k - 1, by omega⟩
    obtain ⟨r, hr, tr⟩ := With_f k2 t.can.lo t.can.hi (rd l (i : Int))
    rw [← hk2] at hr
    obtain ⟨q, hq, tq⟩ := ih k (i + 1) r.1 r.2 (by omega) (by omega) ⟨tr.can, fun j hj => by rw [tr.mem j hj, ofP_snoc l i (by omega), t.mem j hj]⟩
    refine ⟨q, ?_, tq⟩
    simp only [bits_Of.l0]
    rw [if_pos (by omega), if_pos (by omega), if_pos (by omega), hr]
    simp only [Option.bind_some]
    rw [wi i (by omega)]; exact hq
theorem Of_f (l : List Int) (k : Nat) (hk : l.length + 1 < k) (hl : l.length < 4611686018427387904) : ∃ r, bits_Of.f k l = some r ∧ Tells r (ofP l l.length) :=
  Of_l0 l hl l.length k 0 0 0 (by omega) hk ⟨zero_can, fun j _ => by rw [zero_mem]; simp [ofP]⟩
theorem soL_mem (p : Nat → Bool) (j : Nat) : (soL p).contains (j : Int) = (decide (j < 90) && p j) := by
  unfold soL
  rw [Bool.eq_iff_iff]
  simp only [List.contains_iff_mem, List.mem_map, List.mem_filter, List.mem_range, Bool.and_eq_true, decide_eq_true_eq]
  constructor
  · rintro ⟨a, h, e⟩
    have : a = j := by omega
    rw [← this]; exact h
  · intro h; exact ⟨j, h, rfl⟩
end Go.Proofs.YtkbimiimgcklaaaDoor.SetMath
