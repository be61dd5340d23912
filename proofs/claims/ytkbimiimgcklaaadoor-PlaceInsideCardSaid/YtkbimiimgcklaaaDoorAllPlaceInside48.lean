/- Merged by a program of this session (wip/gprint/merge.py): what this claim needs of this session's texts, each part as it was. -/
import Derived.Test.YtkbimiimgcklaaaDoorAllPlaceInside46
import Derived.Test.YtkbimiimgcklaaaDoorAllPlaceInside47
namespace Go.Proofs.YtkbimiimgcklaaaDoor.Print
end Go.Proofs.YtkbimiimgcklaaaDoor.Print
namespace Go.Proofs.YtkbimiimgcklaaaDoor.Pure
end Go.Proofs.YtkbimiimgcklaaaDoor.Pure
namespace Go.Proofs.YtkbimiimgcklaaaDoor.SetMath
end Go.Proofs.YtkbimiimgcklaaaDoor.SetMath

-- of YtkbimiimgcklaaaDoorPurePlaceMays
/- The plain law PlaceMays. -/
namespace Go.Proofs.YtkbimiimgcklaaaDoor.Pure
open Go.RowKit Go.Proofs.YtkbimiimgcklaaaDoor.Print Go.Proofs.YtkbimiimgcklaaaDoor.SetMath Go.Proofs.YtkbimiimgcklaaaDoorW.PrintWords Go.Proofs.YtkbimiimgcklaaaDoorW.PrintLast Go.Proofs.YtkbimiimgcklaaaDoorW.PrintMore
set_option maxRecDepth 100000 in
theorem most_all : ∀ n : Fin 256, riverbankref03_Most.f 32 ((UInt8.ofNat n.val).toNat : Int) = some (mostP ((UInt8.ofNat n.val).toNat : Int)) ∧ riverbankref02_Kind.f 31 ((UInt8.ofNat n.val).toNat : Int) = some (kindP ((UInt8.ofNat n.val).toNat : Int)) := by decide +kernel
theorem most_ref (c : UInt8) (k : Nat) (hk : 32 ≤ k) : riverbankref03_Most.f k (c.toNat : Int) = some (mostP (c.toNat : Int)) := by
  have h := (most_all ⟨c.toNat, c.toNat_lt⟩).1
  have e : UInt8.ofNat (⟨c.toNat, c.toNat_lt⟩ : Fin 256).val = c := UInt8.ofNat_toNat
  rw [e] at h
  exact at_rounds (riverbankref03_Most.mono _) hk h
theorem kind_ref (c : UInt8) (k : Nat) (hk : 31 ≤ k) : riverbankref02_Kind.f k (c.toNat : Int) = some (kindP (c.toNat : Int)) := by
  have h := (most_all ⟨c.toNat, c.toNat_lt⟩).2
  have e : UInt8.ofNat (⟨c.toNat, c.toNat_lt⟩ : Fin 256).val = c := UInt8.ofNat_toNat
  rw [e] at h
  exact at_rounds (riverbankref02_Kind.mono _) hk h
theorem real_out (n t : Int) (h : n < 0 ∨ n > 89 ∨ (t ≠ 0 ∧ t ≠ 1)) : riverbankref03_real.f n t = some false := by
  unfold riverbankref03_real.f
  by_cases c2 : n ≥ 0
  · rw [if_pos c2]
    by_cases c3 : n < 90
    · rw [if_pos c3, if_neg (by omega), show (t == 1) = false by simp; omega]
    · rw [if_neg c3]
  · rw [if_neg c2]
set_option maxRecDepth 100000 in
theorem pal_tab : ∀ n : Fin 90, ∀ t : Fin 2, ((place_Palace.f 2 (n.val : Int) (t.val : Int)).isSome = true ∧ place_Palace.f 2 (n.val : Int) (t.val : Int) = riverbankref03_Palace.f (n.val : Int) (t.val : Int)) ∧ ((place_Over.f 2 (n.val : Int) (t.val : Int)).isSome = true ∧ place_Over.f 2 (n.val : Int) (t.val : Int) = riverbankref03_Over.f (n.val : Int) (t.val : Int)) := by decide +kernel
theorem pal_eq (n t : Int) (k : Nat) (hk : 2 ≤ k) : ∃ b d, place_Palace.f k n t = some b ∧ riverbankref03_Palace.f n t = some b ∧ place_Over.f k n t = some d ∧ riverbankref03_Over.f n t = some d := by
  by_cases h : n < 0 ∨ n > 89 ∨ (t ≠ 0 ∧ t ≠ 1)
  · obtain ⟨q, rfl⟩ : ∃ q, k = q + 1 := ⟨k - 1, by omega⟩
    have hf : ∃ v, riverbankref02_File.f n = some v := by
      unfold riverbankref02_File.f
      repeat (first | exact ⟨_, rfl⟩ | split)
    obtain ⟨v, hv⟩ := hf
    refine ⟨false, false, ?_, ?_, ?_, ?_⟩
    · unfold place_Palace.f; rw [seen_out q n t h, Option.bind_some, if_neg (by decide)]
    · unfold riverbankref03_Palace.f; rw [hv, Option.bind_some, real_out n t h, Option.bind_some, if_neg (by decide)]
    · unfold place_Over.f; rw [seen_out q n t h, Option.bind_some, if_neg (by decide)]
    · unfold riverbankref03_Over.f; rw [real_out n t h, Option.bind_some, if_neg (by decide)]
  · have h2 := pal_tab ⟨n.toNat, by omega⟩ ⟨t.toNat, by omega⟩
    rw [show (((⟨n.toNat, by omega⟩ : Fin 90).val : Nat) : Int) = n from by show (n.toNat : Int) = n; omega, show (((⟨t.toNat, by omega⟩ : Fin 2).val : Nat) : Int) = t from by show (t.toNat : Int) = t; omega] at h2
    obtain ⟨⟨s1, e1⟩, s2, e2⟩ := h2
    obtain ⟨b, hb⟩ := Option.isSome_iff_exists.1 s1
    obtain ⟨d, hd⟩ := Option.isSome_iff_exists.1 s2
    exact ⟨b, d, at_rounds (place_Palace.mono _ _) hk hb, e1.symm.trans hb, at_rounds (place_Over.mono _ _) hk hd, e2.symm.trans hd⟩
def pointsOk (c : Int) : Bool := match place_Points.f 200 c with
  | some l => decide (riverbankref03_Points.f 200 c = some l) && decide (l.length ≤ 90)
  | none => false
set_option maxRecDepth 100000 in
theorem points_tab : ∀ j : Fin 14, pointsOk (letters.getD j.val 0) = true := by decide +kernel
theorem points_no (c : Int) (hc : ∀ n, mayP c n = false) : ∀ (d i q : Nat), i + d = 90 → place_Points.l0 (q + 40 + d + 1) c (i : Int) 0 0 = some []
  | 0, i, q, h => by
    rw [place_Points.l0, if_neg (by omega), show bits_Set_List.f 0 0 = some [] by decide +kernel, Option.bind_some]
  | d + 1, i, q, h => by
    have ew : wrap64 ((i : Int) + 1) = ((i + 1 : Nat) : Int) := by unfold wrap64; omega
    rw [show q + 40 + (d + 1) + 1 = (q + 40 + d + 1) + 1 by omega, place_Points.l0, if_pos (by omega), may_some _ _ _ (by omega), hc, Option.bind_some, if_neg (by decide), ew]
    exact points_no c hc d (i + 1) q (by omega)
theorem points_ref_no (c : UInt8) (hc : ∀ n, mayP (c.toNat : Int) n = false) : ∀ (d i q : Nat), i + d = 90 → riverbankref03_Points.l0 (q + 40 + d + 1) (c.toNat : Int) [] (i : Int) = some []
  | 0, i, q, h => by
    rw [riverbankref03_Points.l0, if_neg (by omega)]
  | d + 1, i, q, h => by
    have ew : wrap64 ((i : Int) + 1) = ((i + 1 : Nat) : Int) := by unfold wrap64; omega
    rw [show q + 40 + (d + 1) + 1 = (q + 40 + d + 1) + 1 by omega, riverbankref03_Points.l0, if_pos (by omega), may_ref c _ _ (by omega), hc, Option.bind_some, if_neg (by decide), ew]
    exact points_ref_no c hc d (i + 1) q (by omega)
theorem Points_f (c : UInt8) (k : Nat) (hk : 200 ≤ k) : ∃ l, place_Points.f k (c.toNat : Int) = some l ∧ riverbankref03_Points.f k (c.toNat : Int) = some l ∧ l.length ≤ 90 := by
  rcases letter_or c with ⟨j, hj⟩ | h
  · have h := points_tab j
    rw [hj] at h
    unfold pointsOk at h
    split at h
    case h_2 => cases h
    case h_1 l hl =>
      rw [Bool.and_eq_true] at h
      exact ⟨l, at_rounds (place_Points.mono _) hk hl, at_rounds (riverbankref03_Points.mono _) hk (of_decide_eq_true h.1), of_decide_eq_true h.2⟩
  · have hc : ∀ n, mayP (c.toNat : Int) n = false := fun n => may_out _ _ (Or.inr (Or.inr h))
    refine ⟨[], ?_, ?_, by simp⟩
    · have := points_no (c.toNat : Int) hc 90 0 (k - 131) (by omega)
      rw [show k - 131 + 40 + 90 + 1 = k by omega] at this
      exact this
    · have := points_ref_no c hc 90 0 (k - 131) (by omega)
      rw [show k - 131 + 40 + 90 + 1 = k by omega] at this
      exact this
theorem PlaceMays (a0 a1 a2 : Int) : (Lit.int .u8 a0).wf = true → (Lit.int .i64 a1).wf = true → (Lit.int .i64 a2).wf = true → ∃ k, riverbanklaw03_PlaceMays.f k a0 a1 a2 = some true := by
  intro w0 _ _
  have hc : 0 ≤ a0 ∧ a0 < 256 := by
    simp [Lit.wf, IntKind.min, IntKind.max, IntKind.signed, IntKind.bits] at w0
    omega
  obtain ⟨c, rfl⟩ : ∃ c : UInt8, a0 = (c.toNat : Int) := ⟨a0.toNat.toUInt8, by simp; omega⟩
  obtain ⟨k, hk⟩ : ∃ k : Nat, 200 ≤ k := ⟨200, Nat.le_refl _⟩
  refine ⟨k, ?_⟩
  unfold riverbanklaw03_PlaceMays.f
  obtain ⟨l, p1, p2, p3⟩ := Points_f c k hk
  obtain ⟨b, d, q1, q2, q3, q4⟩ := pal_eq a1 a2 k (by omega)
  rw [may_some _ _ k (by omega), Option.bind_some, may_ref c a1 k (by omega), Option.bind_some, if_pos (by simp), p1, Option.bind_some, p2, Option.bind_some, Ints_f k l (by omega) (by omega), Option.bind_some, if_pos rfl, most_some, Option.bind_some, most_ref c k (by omega), Option.bind_some, if_pos rfl, q1, Option.bind_some, q2, Option.bind_some, if_pos (by simp), q3, Option.bind_some, q4, Option.bind_some, if_pos (by simp)]
  rfl
end Go.Proofs.YtkbimiimgcklaaaDoor.Pure
