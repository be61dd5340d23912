/- Merged by a program of this session (wip/gprint/merge.py): what this claim needs of this session's texts, each part as it was. -/
import Derived.Test.YtkbimiimgcklaaaDoorAllPlaceChecks44
import Derived.Test.YtkbimiimgcklaaaDoorAllPlaceChecks7
import Derived.Test.YtkbimiimgcklaaaDoorAllPlaceChecks11
import Derived.Test.YtkbimiimgcklaaaDoorAllPlaceChecks13
import Derived.Test.YtkbimiimgcklaaaDoorAllPlaceChecks36
import Derived.Test.YtkbimiimgcklaaaDoorAllPlaceChecks38
import Derived.Test.YtkbimiimgcklaaaDoorAllPlaceChecks40
import Derived.Test.YtkbimiimgcklaaaDoorAllPlaceChecks43
import Derived.Test.YtkbimiimgcklaaaDoorAllPlaceChecks45
namespace Go.Proofs.YtkbimiimgcklaaaDoor.Print
end Go.Proofs.YtkbimiimgcklaaaDoor.Print
namespace Go.Proofs.YtkbimiimgcklaaaDoor.Pure
end Go.Proofs.YtkbimiimgcklaaaDoor.Pure
namespace Go.Proofs.YtkbimiimgcklaaaDoor.SetMath
end Go.Proofs.YtkbimiimgcklaaaDoor.SetMath

-- of YtkbimiimgcklaaaDoorPurePlaceChecks
/- The plain law PlaceChecks. -/
namespace Go.Proofs.YtkbimiimgcklaaaDoor.Pure
open Go.RowKit Go.Proofs.YtkbimiimgcklaaaDoor.Print Go.Proofs.YtkbimiimgcklaaaDoor.SetMath Go.Proofs.YtkbimiimgcklaaaDoorW.PrintWords Go.Proofs.YtkbimiimgcklaaaDoorW.PrintLast Go.Proofs.YtkbimiimgcklaaaDoorW.PrintMore
/-- The document's letters. -/
def lettersB : ByteArray := ⟨#[75, 65, 66, 78, 82, 67, 80, 107, 97, 98, 110, 114, 99, 112]⟩
theorem lettersB_tab : ∀ j : Fin 14, bt lettersB (j.val : Int) = letters.getD j.val 0 ∧ letters.drop j.val = letters.getD j.val 0 :: letters.drop (j.val + 1) := by decide +kernel
theorem RCheck_l1 (l : List UInt8) (hl : l.length = 90) (a1 a2 a3 : Int) : ∀ (d i q : Nat), i + d = 90 → riverbankref03_Check.l1 (q + 40 + d + 1) (i : Int) ⟨l.toArray⟩ a1 a2 a3 = some (if (List.range' i d).all (okAt ⟨l.toArray⟩) = true then 0 else 2)
  | 0, i, q, h => by
    rw [riverbankref03_Check.l1, if_neg (by omega)]; rfl
  | d + 1, i, q, h => by
    have ew : wrap64 ((i : Int) + 1) = ((i + 1 : Nat) : Int) := by unfold wrap64; omega
    have e90 : (ByteArray.mk l.toArray).size = 90 := by rw [← hl]; rfl
    have hb := bt_list hl (show i < 90 by omega)
    have ih := RCheck_l1 l hl a1 a2 a3 d (i + 1) q (by omega)
    have ho : okAt ⟨l.toArray⟩ i = ((bt ⟨l.toArray⟩ (i : Int) == 46) || mayP (bt ⟨l.toArray⟩ (i : Int)) (i : Int)) := rfl
    rw [show q + 40 + (d + 1) + 1 = (q + 40 + d + 1) + 1 by omega, riverbankref03_Check.l1, if_pos (by omega), if_pos (by omega), e90, if_pos (by omega), ew, ih, List.range'_succ, List.all_cons, ho, hb, may_ref _ _ _ (by omega), Option.bind_some]
    by_cases e : ((l.getD i 0).toNat : Int) = 46
    · rw [if_pos e, e]; rfl
    · rw [if_neg e, show (((l.getD i 0).toNat : Int) == 46) = false by simpa using e]
      cases mayP ((l.getD i 0).toNat : Int) (i : Int) with
      | true => rfl
      | false => rfl
theorem find_len {s : ByteArray} {c : Int} (hI : board_Is.f s = some true) (k : Nat) (hk : 130 ≤ k) : ∃ L, riverbankref02_Find.f k s c = some L ∧ (L.length : Int) = cntB s c 90 := by
  obtain ⟨L, h1, h2, _⟩ := RFind_f s c k hk
  refine ⟨L, h2, ?_⟩
  unfold board_Find.f at h1
  rw [hI, Option.bind_some, if_pos rfl] at h1
  rw [← Option.some.inj h1]
  unfold soL
  rw [List.length_map]
  exact cntB_len s c 90
theorem RCheck_l0 (l : List UInt8) (hl : l.length = 90) (hI : board_Is.f ⟨l.toArray⟩ = some true) (a1 a2 a3 : Int) : ∀ (d i q : Nat), i + d = 14 → riverbankref03_Check.l0 (q + 140 + d + 1) lettersB (i : Int) ⟨l.toArray⟩ a1 a2 a3 = some (if (letters.drop i).any (badC ⟨l.toArray⟩) = true then 3 else if rightP ⟨l.toArray⟩ = true then 0 else 2)
  | 0, i, q, h => by
    obtain rfl : i = 14 := by omega
    have h1 := RCheck_l1 l hl a1 a2 a3 90 0 (q + 9) (by omega)
    rw [show q + 9 + 40 + 90 + 1 = q + 140 by omega, ← List.range_eq_range'] at h1
    rw [riverbankref03_Check.l0, if_neg (by decide)]
    exact h1
  | d + 1, i, q, h => by
    have hi : i < 14 := by omega
    obtain ⟨hb, hd⟩ := lettersB_tab ⟨i, hi⟩
    obtain ⟨_, _, hk, hm⟩ := letter_tab ⟨i, hi⟩
    have hb' : bt lettersB (i : Int) = letters.getD i 0 := hb
    have hd' : letters.drop i = letters.getD i 0 :: letters.drop (i + 1) := hd
    have hk' : riverbankref02_Kind.f (q + 140 + d + 1) (letters.getD i 0) = some (kindP (letters.getD i 0)) := at_rounds (riverbankref02_Kind.mono _) (by omega) hk
    have hm' : riverbankref03_Most.f (q + 140 + d + 1) (letters.getD i 0) = some (mostP (letters.getD i 0)) := at_rounds (riverbankref03_Most.mono _) (by omega) hm
    clear hb hd hk hm
    have ew : wrap64 ((i : Int) + 1) = ((i + 1 : Nat) : Int) := by unfold wrap64; omega
    have e14 : (lettersB.size : Int) = 14 := rfl
    have ih := RCheck_l0 l hl hI a1 a2 a3 d (i + 1) q (by omega)
    obtain ⟨L, h1, h2⟩ := find_len (c := letters.getD i 0) hI (q + 140 + d + 1) (by omega)
    have hbad : badC ⟨l.toArray⟩ (letters.getD i 0) = (decide (cntB ⟨l.toArray⟩ (letters.getD i 0) 90 > mostP (letters.getD i 0)) || (kindP (letters.getD i 0) == 75 && cntB ⟨l.toArray⟩ (letters.getD i 0) 90 != 1)) := rfl
    rw [show q + 140 + (d + 1) + 1 = (q + 140 + d + 1) + 1 by omega, riverbankref03_Check.l0, e14, if_pos (by omega), if_pos (by omega), hb', h1, Option.bind_some, hm', Option.bind_some, hk', Option.bind_some, ew, ih, hd', List.any_cons, hbad, h2]
    obtain ⟨x, hx⟩ : ∃ x, x = cntB ⟨l.toArray⟩ (letters.getD i 0) 90 := ⟨_, rfl⟩
    obtain ⟨c, hc⟩ : ∃ c, c = letters.getD i 0 := ⟨_, rfl⟩
    rw [← hx, ← hc]
    by_cases g : x > mostP c
    · rw [if_pos g, decide_eq_true g]; rfl
    · rw [if_neg g, decide_eq_false g]
      by_cases e : kindP c = 75
      · rw [if_pos e, e]
        by_cases n1 : x = 1
        · rw [if_pos n1, n1]; rfl
        · rw [if_neg n1, show (x != 1) = true by simpa using n1]; rfl
      · rw [if_neg e, show (kindP c == 75) = false by simpa using e]; rfl
theorem RCheck_no (s : ByteArray) (a1 a2 a3 : Int) (k : Nat) (hk : 1 ≤ k) : riverbankref03_Check.j0 k true s a1 a2 a3 = some 1 := by
  obtain ⟨q, rfl⟩ : ∃ q, k = q + 1 := ⟨k - 1, by omega⟩
  rw [riverbankref03_Check.j0, if_pos rfl]
theorem RCheck_eq (s : ByteArray) (a1 a2 a3 : Int) (k : Nat) (hk : 200 ≤ k) : ∃ v, place_Check.f k s a1 a2 a3 = some v ∧ riverbankref03_Check.f k s a1 a2 a3 = some v := by
  have hno : ∀ b, (board_Is.f s = some false ∨ ¬ (a1 = 0 ∨ a1 = 1) ∨ ¬ (0 ≤ a2 ∧ a2 ≤ 120) ∨ ¬ (1 ≤ a3 ∧ a3 ≤ 9999)) → b = some (1 : Int) → ∃ v, place_Check.f k s a1 a2 a3 = some v ∧ b = some v := fun b h hb => ⟨1, check_no s a1 a2 a3 k h, hb⟩
  unfold riverbankref03_Check.f
  rw [RIs_f s k (by omega)]
  obtain ⟨t, ht⟩ : ∃ t, board_Is.f s = some t := ⟨_, rfl⟩
  rw [ht, Option.bind_some]
  cases t with
  | false => exact hno _ (Or.inl ht) (by rw [if_neg (by decide)]; exact RCheck_no s a1 a2 a3 k (by omega))
  | true =>
    rw [if_pos rfl]
    by_cases c1 : a1 < 0
    · exact hno _ (by omega) (by rw [if_pos c1]; exact RCheck_no s a1 a2 a3 k (by omega))
    by_cases c2 : a1 > 1
    · exact hno _ (by omega) (by rw [if_neg c1, if_pos c2]; exact RCheck_no s a1 a2 a3 k (by omega))
    by_cases c3 : a2 < 0
    · exact hno _ (by omega) (by rw [if_neg c1, if_neg c2, if_pos c3]; exact RCheck_no s a1 a2 a3 k (by omega))
    by_cases c4 : a2 > 120
    · exact hno _ (by omega) (by rw [if_neg c1, if_neg c2, if_neg c3, if_pos c4]; exact RCheck_no s a1 a2 a3 k (by omega))
    by_cases c5 : a3 < 1
    · exact hno _ (by omega) (by rw [if_neg c1, if_neg c2, if_neg c3, if_neg c4, if_pos c5]; exact RCheck_no s a1 a2 a3 k (by omega))
    rw [if_neg c1, if_neg c2, if_neg c3, if_neg c4, if_neg c5]
    by_cases c6 : a3 > 9999
    · exact hno _ (by omega) (by rw [decide_eq_true c6]; exact RCheck_no s a1 a2 a3 k (by omega))
    refine ⟨verdict s, check_f s a1 a2 a3 k (by omega) ht (by omega) (by omega) (by omega), ?_⟩
    obtain ⟨q, rfl⟩ : ∃ q, k = q + 140 + 14 + 1 + 1 := ⟨k - 156, by omega⟩
    rw [decide_eq_false c6, riverbankref03_Check.j0, if_neg (by decide)]
    obtain ⟨l, rfl⟩ : ∃ l : List UInt8, s = ⟨l.toArray⟩ := ⟨s.data.toList, by simp⟩
    have hl : l.length = 90 := (is_true ht).1
    exact RCheck_l0 l hl ht a1 a2 a3 14 0 q (by omega)
theorem PlaceChecks (s : ByteArray) (a1 a2 a3 : Int) : (Lit.int .i64 a1).wf = true → (Lit.int .i64 a2).wf = true → (Lit.int .i64 a3).wf = true → ∃ k, riverbanklaw03_PlaceChecks.f k s a1 a2 a3 = some true := by
  intro _ _ _
  obtain ⟨k, hk⟩ : ∃ k : Nat, 200 ≤ k := ⟨200, Nat.le_refl _⟩
  refine ⟨k, ?_⟩
  unfold riverbanklaw03_PlaceChecks.f
  by_cases hs : (s.size : Int) > 200
  · rw [if_pos hs]; rfl
  · obtain ⟨v, h1, h2⟩ := RCheck_eq s a1 a2 a3 k hk
    rw [if_neg hs, h1, Option.bind_some, h2, Option.bind_some, if_pos rfl]
    rfl
end Go.Proofs.YtkbimiimgcklaaaDoor.Pure
