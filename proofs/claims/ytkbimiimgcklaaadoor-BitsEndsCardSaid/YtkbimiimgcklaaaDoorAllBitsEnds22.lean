/- Merged by a program of this session (wip/gprint/merge.py): what this claim needs of this session's texts, each part as it was. -/
import Derived.Test.YtkbimiimgcklaaaDoorAllBitsEnds10
import Derived.Test.YtkbimiimgcklaaaDoorAllBitsEnds15
import Derived.Test.YtkbimiimgcklaaaDoorAllBitsEnds5
import Derived.Test.YtkbimiimgcklaaaDoorAllBitsEnds7
import Derived.Test.YtkbimiimgcklaaaDoorAllBitsEnds11
import Derived.Test.YtkbimiimgcklaaaDoorAllBitsEnds20
import Derived.Test.YtkbimiimgcklaaaDoorAllBitsEnds8
import Derived.Test.YtkbimiimgcklaaaDoorAllBitsEnds16
import Derived.Test.YtkbimiimgcklaaaDoorAllBitsEnds18
namespace Go.Proofs.YtkbimiimgcklaaaDoor.BitMath
end Go.Proofs.YtkbimiimgcklaaaDoor.BitMath
namespace Go.Proofs.YtkbimiimgcklaaaDoor.Print
end Go.Proofs.YtkbimiimgcklaaaDoor.Print
namespace Go.Proofs.YtkbimiimgcklaaaDoor.SetMath
end Go.Proofs.YtkbimiimgcklaaaDoor.SetMath

-- of YtkbimiimgcklaaaDoorSetMathFive
/- Some squares on, or back; what lies between: the program's, and the document's. -/
namespace Go.Proofs.YtkbimiimgcklaaaDoor.SetMath
open Go.RowKit Go.Proofs.YtkbimiimgcklaaaDoor.Print Go.Proofs.YtkbimiimgcklaaaDoor.BitMath Go.Proofs.YtkbimiimgcklaaaDoorW.PrintWords Go.Proofs.YtkbimiimgcklaaaDoorW.PrintLast Go.Proofs.YtkbimiimgcklaaaDoorW.PrintMore
/-- A set, n squares on. -/
def shiftP (p : Nat → Bool) (n : Int) (j : Nat) : Bool := decide (0 ≤ (j : Int) - n ∧ (j : Int) - n < 90) && p ((j : Int) - n).toNat
theorem shiftP_add (p : Nat → Bool) (x y : Int) (h : (0 ≤ x ∧ 0 ≤ y) ∨ (x ≤ 0 ∧ y ≤ 0)) (j : Nat) (hj : j < 90) : shiftP (shiftP p x) y j = shiftP p (x + y) j := by
  unfold shiftP
  by_cases c : 0 ≤ (j : Int) - y ∧ (j : Int) - y < 90
  · rw [decide_eq_true c, Bool.true_and]
    have e : (((j : Int) - y).toNat : Int) - x = (j : Int) - (x + y) := by omega
    rw [e]
  · rw [decide_eq_false c, Bool.false_and]
    have : ¬ (0 ≤ (j : Int) - (x + y) ∧ (j : Int) - (x + y) < 90) := by omega
    rw [decide_eq_false this, Bool.false_and]
theorem tb_shl' {x : Int} (h : U x) (m i : Nat) (hm : m < 64) : tb (shl .u64 x (m : Int)) i = (decide (i < 64) && (decide (m ≤ i) && tb x (i - m))) := by
  unfold shl
  rw [show min (m : Int).toNat IntKind.u64.bits = m by simp [IntKind.bits]; omega]
  exact tb_shl h m i
theorem U_shl (x y : Int) : U (shl .u64 x y) := U_wrap _
theorem tb_shr' {x : Int} (h : U x) (m i : Nat) (hm : m < 64) : tb (shr .u64 x (m : Int)) i = tb x (i + m) := by
  unfold shr
  rw [show min (m : Int).toNat IntKind.u64.bits = m by simp [IntKind.bits]; omega]
  exact tb_shr h m i
theorem U_shr' {x : Int} (h : U x) (m : Nat) (hm : m < 64) : U (shr .u64 x (m : Int)) := by
  unfold shr
  rw [show min (m : Int).toNat IntKind.u64.bits = m by simp [IntKind.bits]; omega]
  exact U_shr h m
theorem Can.lo_hi {a b : Int} (h : Can a b) (i : Nat) (hi : 45 ≤ i) : tb a i = false ∧ tb b i = false := ⟨tb_small h.l0 h.l1 i hi, tb_small h.h0 h.h1 i hi⟩
theorem Shift_j2_up (k : Nat) {a b : Int} (h : Can a b) (m : Nat) (hm : m < 45) : ∃ r, bits_Set_Shift.j2 (k + 1) (m : Int) a b = some r ∧ Tells r (shiftP (SetMath.mem a b) m) := by
  have e : wrap64 (45 - (m : Int)) = ((45 - m : Nat) : Int) := by unfold wrap64; omega
  simp only [bits_Set_Shift.j2]
  rw [if_pos (by omega), if_pos (by omega), e, if_pos (by omega)]
  refine ⟨_, rfl, tells_pl (U_shl _ _) (U_bits _ _ _) _ fun j hj => ?_⟩
  unfold shiftP SetMath.mem
  by_cases c : j < 45
  · rw [if_pos c, tb_shl' h.lo m j (by omega)]
    by_cases c2 : m ≤ j
    · rw [decide_eq_true (by omega : j < 64), decide_eq_true c2, decide_eq_true (by omega), show ((j : Int) - (m : Int)).toNat = j - m by omega, if_pos (by omega)]; rfl
    · rw [decide_eq_false c2, decide_eq_false (by omega : ¬ (0 ≤ (j : Int) - (m : Int) ∧ (j : Int) - (m : Int) < 90))]; simp
  · rw [if_neg c, tb_or (U_shl _ _) (U_shr' h.lo _ (by omega)), tb_shl' h.hi m _ (by omega), tb_shr' h.lo _ _ (by omega), decide_eq_true (by omega : j - 45 < 64), decide_eq_true (by omega : 0 ≤ (j : Int) - (m : Int) ∧ (j : Int) - (m : Int) < 90), show ((j : Int) - (m : Int)).toNat = j - m by omega]
    by_cases c2 : m ≤ j - 45
    · rw [decide_eq_true c2, if_neg (by omega), (h.lo_hi (j - 45 + (45 - m)) (by omega)).1, show j - m - 45 = j - 45 - m by omega]; simp
    · rw [decide_eq_false c2, if_pos (by omega), show j - 45 + (45 - m) = j - m by omega]; simp
theorem Shift_j2_down (k : Nat) {a b : Int} (h : Can a b) (m : Nat) (h0 : 0 < m) (hm : m < 45) : ∃ r, bits_Set_Shift.j2 (k + 1) (-(m : Int)) a b = some r ∧ Tells r (shiftP (SetMath.mem a b) (-(m : Int))) := by
  have e : wrap64 (45 + -(m : Int)) = ((45 - m : Nat) : Int) := by unfold wrap64; omega
  have e2 : wrap64 (- -(m : Int)) = (m : Int) := by unfold wrap64; omega
  simp only [bits_Set_Shift.j2]
  rw [if_neg (by omega), e, e2, if_pos (by omega), if_pos (by omega)]
  refine ⟨_, rfl, tells_pl (U_bits _ _ _) (U_shr' h.hi _ (by omega)) _ fun j hj => ?_⟩
  unfold shiftP SetMath.mem
  rw [show ((j : Int) - -(m : Int)).toNat = j + m by omega]
  by_cases c : j < 45
  · rw [if_pos c, tb_or (U_shr' h.lo _ (by omega)) (U_shl _ _), tb_shr' h.lo _ _ (by omega), tb_shl' h.hi _ _ (by omega), decide_eq_true (by omega : j < 64), decide_eq_true (by omega : 0 ≤ (j : Int) - -(m : Int) ∧ (j : Int) - -(m : Int) < 90)]
    by_cases c2 : j + m < 45
    · rw [if_pos c2, decide_eq_false (by omega : ¬ 45 - m ≤ j)]; simp
    · rw [if_neg c2, decide_eq_true (by omega : 45 - m ≤ j), (h.lo_hi (j + m) (by omega)).1, show j - (45 - m) = j + m - 45 by omega]; simp
  · rw [if_neg c, tb_shr' h.hi _ _ (by omega), show j - 45 + m = j + m - 45 by omega, if_neg (by omega)]
    by_cases c2 : j + m < 90
    · rw [decide_eq_true (by omega)]; simp
    · rw [decide_eq_false (by omega), (h.lo_hi (j + m - 45) (by omega)).2]; simp
theorem Shift_j2 (k : Nat) {a b : Int} (h : Can a b) (n : Int) (h0 : -45 < n) (h1 : n < 45) : ∃ r, bits_Set_Shift.j2 (k + 1) n a b = some r ∧ Tells r (shiftP (SetMath.mem a b) n) := by
  by_cases c : 0 ≤ n
  · obtain ⟨m, rfl⟩ : ∃ m : Nat, n = m := ⟨n.toNat, by omega⟩
    exact Shift_j2_up k h m (by omega)
  · obtain ⟨m, rfl⟩ : ∃ m : Nat, n = -(m : Int) := ⟨(-n).toNat, by omega⟩
    exact Shift_j2_down k h m (by omega) (by omega)
theorem up45 {a b : Int} (h : Can a b) : Tells (0, a) (shiftP (SetMath.mem a b) 45) := ⟨⟨Int.le_refl 0, (by decide : (0 : Int) < 35184372088832), h.l0, h.l1⟩, fun j hj => by
  unfold shiftP SetMath.mem
  by_cases c : j < 45
  · rw [if_pos c, tb_zero, decide_eq_false (by omega)]; rfl
  · rw [if_neg c, decide_eq_true (by omega), show ((j : Int) - 45).toNat = j - 45 by omega, if_pos (by omega)]; rfl⟩
theorem down45 {a b : Int} (h : Can a b) : Tells (b, 0) (shiftP (SetMath.mem a b) (-45)) := ⟨⟨h.h0, h.h1, Int.le_refl 0, (by decide : (0 : Int) < 35184372088832)⟩, fun j hj => by
  unfold shiftP SetMath.mem
  by_cases c : j < 45
  · rw [if_pos c, decide_eq_true (by omega), show ((j : Int) - -45).toNat = j + 45 by omega, if_neg (by omega), show j + 45 - 45 = j by omega]; rfl
  · rw [if_neg c, tb_zero, decide_eq_false (by omega)]; rfl⟩
theorem shiftP_congr {p q : Nat → Bool} (h : ∀ n, n < 90 → p n = q n) (n : Int) (j : Nat) : shiftP p n j = shiftP q n j := by
  unfold shiftP
  by_cases c : 0 ≤ (j : Int) - n ∧ (j : Int) - n < 90
  · rw [decide_eq_true c, h _ (by omega)]
  · rw [decide_eq_false c]; rfl
theorem Shift_f (k : Nat) (hk : 3 ≤ k) {a b : Int} (ha : U a) (hb : U b) (n : Int) : ∃ r, bits_Set_Shift.f k a b n = some r ∧ Tells r (shiftP (SetMath.mem a b) n) := by
  obtain ⟨k, rfl⟩ : ∃ m, k = m + 3 := ⟨k - 3, by omega⟩
  have h := pl_can ha hb
  have hm := fun n hn => pl_mem ha hb n hn
  have z : (n ≤ -90 ∨ 90 ≤ n) → Tells ((0 : Int), (0 : Int)) (shiftP (SetMath.mem a b) n) := fun hn => ⟨zero_can, fun j hj => by rw [zero_mem]; unfold shiftP; rw [decide_eq_false (by omega)]; rfl⟩
  have fin : ∀ (r : Int × Int) (x y : Int), Tells r (shiftP (SetMath.mem x y) n) → (∀ j, j < 90 → SetMath.mem x y j = SetMath.mem a b j) → Tells r (shiftP (SetMath.mem a b) n) := fun r x y t e => ⟨t.can, fun j hj => (t.mem j hj).trans (shiftP_congr e n j)⟩
  unfold bits_Set_Shift.f
  rw [plain_f]
  simp only [Option.bind_some]
  by_cases c1 : n ≤ -90
  · rw [if_pos c1]
    exact ⟨(0, 0), by simp [bits_Set_Shift.j0], z (.inl c1)⟩
  · rw [if_neg c1]
    by_cases c2 : n ≥ 90
    · exact ⟨(0, 0), by simp [bits_Set_Shift.j0, c2], z (.inr c2)⟩
    · simp only [bits_Set_Shift.j0, decide_eq_false c2]
      rw [if_neg (by decide)]
      by_cases c3 : n ≥ 45
      · rw [if_pos c3, show wrap64 (n - 45) = n - 45 by unfold wrap64; omega]
        simp only [bits_Set_Shift.j1]
        rw [if_neg (by omega)]
        have u := up45 h
        obtain ⟨r, hr, t⟩ := Shift_j2 k u.can (n - 45) (by omega) (by omega)
        refine ⟨r, hr, t.can, fun j hj => ?_⟩
        rw [t.mem j hj, shiftP_congr u.mem, shiftP_add _ 45 (n - 45) (.inl ⟨by omega, by omega⟩) j hj, show 45 + (n - 45) = n by omega]
        exact shiftP_congr hm n j
      · rw [if_neg c3]
        simp only [bits_Set_Shift.j1]
        by_cases c4 : n ≤ -45
        · rw [if_pos c4, show wrap64 (n + 45) = n + 45 by unfold wrap64; omega]
          have u := down45 h
          obtain ⟨r, hr, t⟩ := Shift_j2 k u.can (n + 45) (by omega) (by omega)
          refine ⟨r, hr, t.can, fun j hj => ?_⟩
          rw [t.mem j hj, shiftP_congr u.mem, shiftP_add _ (-45) (n + 45) (.inr ⟨by omega, by omega⟩) j hj, show -45 + (n + 45) = n by omega]
          exact shiftP_congr hm n j
        · rw [if_neg c4]
          obtain ⟨r, hr, t⟩ := Shift_j2 k h n (by omega) (by omega)
          exact ⟨r, hr, fin r _ _ t hm⟩
/-- What lies between two numbers. -/
def betweenP (p : Nat → Bool) (x y : Int) (j : Nat) : Bool := p j && (decide ((j : Int) > mn x y) && decide ((j : Int) < mx x y))
theorem mn_le (x y : Int) : mn x y ≤ x ∧ mn x y ≤ y ∧ (mn x y = x ∨ mn x y = y) := by unfold mn; split <;> omega
theorem mx_ge (x y : Int) : x ≤ mx x y ∧ y ≤ mx x y ∧ (mx x y = x ∨ mx x y = y) := by unfold mx; split <;> omega
theorem Between_f (k : Nat) (hk : 4 ≤ k) {a b : Int} (ha : U a) (hb : U b) (x y : Int) (hx : -9223372036854775808 ≤ x) (hy : -9223372036854775808 ≤ y) : ∃ r, bits_Set_Between.f k a b x y = some r ∧ Tells r (betweenP (SetMath.mem a b) x y) := by
  obtain ⟨k, rfl⟩ : ∃ m, k = m + 4 := ⟨k - 4, by omega⟩
  unfold bits_Set_Between.f
  obtain ⟨m1, m2, m3⟩ := mn_le x y
  obtain ⟨M1, M2, M3⟩ := mx_ge x y
  obtain ⟨u, hu⟩ : ∃ u, u = mn x y := ⟨_, rfl⟩
  obtain ⟨v, hv⟩ : ∃ v, v = mx x y := ⟨_, rfl⟩
  have hbt : ∀ j, betweenP (SetMath.mem a b) x y j = (SetMath.mem a b j && (decide ((j : Int) > u) && decide ((j : Int) < v))) := fun j => by rw [hu, hv]; rfl
  rw [← hu] at m1 m2 m3 ⊢
  rw [← hv] at M1 M2 M3 ⊢
  have z : (∀ j : Nat, j < 90 → ¬ ((j : Int) > u ∧ (j : Int) < v)) → Tells ((0 : Int), (0 : Int)) (betweenP (SetMath.mem a b) x y) := fun hn => ⟨zero_can, fun j hj => by
    rw [zero_mem, hbt]
    have := hn j hj
    by_cases c : (j : Int) > u
    · rw [decide_eq_false (by omega : ¬ (j : Int) < v)]; simp
    · rw [decide_eq_false c]; simp⟩
  clear hu hv
  by_cases c1 : u ≥ 90
  · rw [if_pos c1]
    exact ⟨(0, 0), by simp [bits_Set_Between.j0], z fun j hj => by omega⟩
  · rw [if_neg c1, show wrap64 (u + 1) = u + 1 by unfold wrap64; omega]
    obtain ⟨L1, L2, L3⟩ := mx_ge (u + 1) 0
    obtain ⟨H1, H2, H3⟩ := mn_le v 90
    obtain ⟨lo, hlo⟩ : ∃ l, l = mx (u + 1) 0 := ⟨_, rfl⟩
    obtain ⟨hi, hhi⟩ : ∃ l, l = mn v 90 := ⟨_, rfl⟩
    rw [← hlo] at L1 L2 L3 ⊢
    rw [← hhi] at H1 H2 H3 ⊢
    by_cases c2 : lo ≥ hi
    · exact ⟨(0, 0), by simp [bits_Set_Between.j0, c2], z fun j hj => by omega⟩
    · simp only [bits_Set_Between.j0, decide_eq_false c2]
      rw [if_neg (by decide), show wrap64 (-lo) = -lo by unfold wrap64; omega, show wrap64 (lo + 90) = lo + 90 by unfold wrap64; omega, show wrap64 (lo + 90 - hi) = lo + 90 - hi by unfold wrap64; omega, show wrap64 (hi - 90) = hi - 90 by unfold wrap64; omega]
      obtain ⟨r1, e1, t1⟩ := Shift_f (k + 3) (by omega) ha hb (-lo)
      obtain ⟨r2, e2, t2⟩ := Shift_f (k + 3) (by omega) t1.can.lo t1.can.hi (lo + 90 - hi)
      obtain ⟨r3, e3, t3⟩ := Shift_f (k + 3) (by omega) t2.can.lo t2.can.hi (hi - 90)
      refine ⟨r3, by rw [e1]; simp only [Option.bind_some]; rw [e2]; simp only [Option.bind_some]; rw [e3]; rfl, t3.can, fun j hj => ?_⟩
      rw [t3.mem j hj, shiftP_congr t2.mem, shiftP_congr (fun n _ => shiftP_congr t1.mem _ n), hbt]
      unfold shiftP
      dsimp only
      by_cases d1 : (j : Int) < hi
      · rw [decide_eq_true (by omega : 0 ≤ (j : Int) - (hi - 90) ∧ (j : Int) - (hi - 90) < 90), Bool.true_and]
        by_cases d2 : lo ≤ (j : Int)
        · rw [decide_eq_true (by omega : 0 ≤ (((j : Int) - (hi - 90)).toNat : Int) - (lo + 90 - hi) ∧ (((j : Int) - (hi - 90)).toNat : Int) - (lo + 90 - hi) < 90), Bool.true_and, decide_eq_true (by omega), Bool.true_and, decide_eq_true (by omega), decide_eq_true (by omega)]
          rw [show (((((j : Int) - (hi - 90)).toNat : Int) - (lo + 90 - hi)).toNat - -lo).toNat = j by omega]; simp
        · rw [decide_eq_false (by omega), decide_eq_false (by omega : ¬ (j : Int) > u)]; simp
      · rw [decide_eq_false (by omega), decide_eq_false (by omega : ¬ (j : Int) < v)]; simp
end Go.Proofs.YtkbimiimgcklaaaDoor.SetMath
