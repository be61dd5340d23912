/- Merged by a program of this session (wip/gprint/merge.py): what this claim needs of this session's texts, each part as it was. -/
import Derived.Test.YtkbimiimgcklaaaDoorAllPlaceChecks37
import Derived.Test.YtkbimiimgcklaaaDoorAllPlaceChecks35
import Derived.Test.YtkbimiimgcklaaaDoorAllPlaceChecks7
import Derived.Test.YtkbimiimgcklaaaDoorAllPlaceChecks10
import Derived.Test.YtkbimiimgcklaaaDoorAllPlaceChecks11
import Derived.Test.YtkbimiimgcklaaaDoorAllPlaceChecks13
import Derived.Test.YtkbimiimgcklaaaDoorAllPlaceChecks19
import Derived.Test.YtkbimiimgcklaaaDoorAllPlaceChecks25
import Derived.Test.YtkbimiimgcklaaaDoorAllPlaceChecks5
import Derived.Test.YtkbimiimgcklaaaDoorAllPlaceChecks20
import Derived.Test.YtkbimiimgcklaaaDoorAllPlaceChecks14
import Derived.Test.YtkbimiimgcklaaaDoorAllPlaceChecks23
namespace Go.Proofs.YtkbimiimgcklaaaDoor.Print
end Go.Proofs.YtkbimiimgcklaaaDoor.Print
namespace Go.Proofs.YtkbimiimgcklaaaDoor.Pure
end Go.Proofs.YtkbimiimgcklaaaDoor.Pure
namespace Go.Proofs.YtkbimiimgcklaaaDoor.SetMath
end Go.Proofs.YtkbimiimgcklaaaDoor.SetMath

-- of YtkbimiimgcklaaaDoorRefBoard
/- What the document's functions on boards compute. -/
namespace Go.Proofs.YtkbimiimgcklaaaDoor.Pure
open Go.RowKit Go.Proofs.YtkbimiimgcklaaaDoor.Print Go.Proofs.YtkbimiimgcklaaaDoor.SetMath Go.Proofs.YtkbimiimgcklaaaDoorW.PrintWords Go.Proofs.YtkbimiimgcklaaaDoorW.PrintLast Go.Proofs.YtkbimiimgcklaaaDoorW.PrintMore
set_option maxRecDepth 100000 in
theorem side_ref30 : ∀ n : Fin 256, riverbankref02_Side.f 30 ((UInt8.ofNat n.val).toNat : Int) = some (sideOf ((UInt8.ofNat n.val).toNat : Int)) := by decide +kernel
theorem side_ref (c : UInt8) (k : Nat) (hk : 30 ≤ k) : riverbankref02_Side.f k (c.toNat : Int) = some (sideOf (c.toNat : Int)) := by
  have h := side_ref30 ⟨c.toNat, c.toNat_lt⟩
  have e : UInt8.ofNat (⟨c.toNat, c.toNat_lt⟩ : Fin 256).val = c := UInt8.ofNat_toNat
  rw [e] at h
  exact at_rounds (riverbankref02_Side.mono _) hk h
theorem ok_side (c : UInt8) : okCell c = (decide ((c.toNat : Int) = 46) || !decide (sideOf (c.toNat : Int) < 0)) := by
  obtain ⟨_, s, hs, h1, h2⟩ := put_c c
  rw [side_some] at hs
  have e := Option.some.inj hs
  rw [e]
  cases h : okCell c with
  | false => obtain ⟨g1, g2⟩ := h1 h; simp [g1]; omega
  | true => rcases h2 h with g | g <;> simp [g]
theorem RIs_loop (l : List UInt8) (hl : l.length = 90) : ∀ (d i k : Nat), i + d = 90 → riverbankref02_Is.l0 (k + 30 + d + 1) ⟨l.toArray⟩ (i : Int) = some ((l.drop i).all okCell)
  | 0, i, k, h => by
    rw [riverbankref02_Is.l0, if_neg (by omega), List.drop_of_length_le (by omega)]; rfl
  | d + 1, i, k, h => by
    have hi : i < l.length := by omega
    have e90 : (ByteArray.mk l.toArray).size = 90 := by rw [← hl]; rfl
    have ew : wrap64 ((i : Int) + 1) = ((i + 1 : Nat) : Int) := by unfold wrap64; omega
    have ih := RIs_loop l hl d (i + 1) k (by omega)
    have hd : l.getD i 0 = l[i] := by simp [hi]
    rw [show k + 30 + (d + 1) + 1 = (k + 30 + d + 1) + 1 by omega, riverbankref02_Is.l0, if_pos (by omega), if_pos (by omega), e90, if_pos (by omega), bt_list hl (by omega), ew, ih, side_ref _ _ (by omega), Option.bind_some, hd, List.drop_eq_getElem_cons hi, List.all_cons, ok_side]
    by_cases c1 : ((l[i]).toNat : Int) = 46
    · rw [if_pos c1, decide_eq_true c1]; rfl
    · rw [if_neg c1, decide_eq_false c1]
      by_cases c2 : sideOf ((l[i]).toNat : Int) < 0
      · rw [if_pos c2, decide_eq_true c2]; rfl
      · rw [if_neg c2, decide_eq_false c2]; rfl
theorem RIs_f (s : ByteArray) (k : Nat) (hk : 130 ≤ k) : riverbankref02_Is.f k s = board_Is.f s := by
  obtain ⟨l, rfl⟩ : ∃ l : List UInt8, s = ⟨l.toArray⟩ := ⟨s.data.toList, by simp⟩
  have es : (ByteArray.mk l.toArray).size = l.length := rfl
  unfold riverbankref02_Is.f board_Is.f
  rw [es]
  by_cases h : l.length = 90
  · rw [if_pos (by omega), decide_eq_true h]
    have := RIs_loop l h 90 0 (k - 121) (by omega)
    rw [show k - 121 + 30 + 90 + 1 = k by omega] at this
    exact this.trans (by simp)
  · rw [if_neg (by omega), decide_eq_false h]; rfl
theorem RAt_f (s : ByteArray) (n : Int) (k : Nat) (hk : 130 ≤ k) : ∃ v, board_At.f s n = some v ∧ riverbankref02_At.f k s n = some v := by
  unfold riverbankref02_At.f
  rw [RIs_f s k hk]
  obtain ⟨t, ht⟩ : ∃ t, board_Is.f s = some t := ⟨_, rfl⟩
  rw [ht, Option.bind_some]
  cases t with
  | false =>
    rw [if_neg (by decide)]
    refine ⟨46, ?_, rfl⟩
    unfold board_At.f
    cases hq : board_isSquare.f n with
    | none => unfold board_isSquare.f at hq; split at hq <;> cases hq
    | some q =>
      rw [Option.bind_some]
      cases q with
      | false => rw [if_neg (by decide)]
      | true => rw [if_pos rfl, ht, Option.bind_some, if_neg (by decide)]
  | true =>
    rw [if_pos rfl]
    by_cases c : n < 0 ∨ n > 89
    · refine ⟨46, ?_, ?_⟩
      · have hq : board_isSquare.f n = some false := by
          unfold board_isSquare.f
          by_cases c : n ≥ 0
          · rw [if_pos c, decide_eq_false (by omega)]
          · rw [if_neg c]
        unfold board_At.f; rw [hq, Option.bind_some, if_neg (by decide)]
      · by_cases c1 : n < 0
        · rw [if_pos c1]
        · rw [if_neg c1, if_pos (by omega)]
    · obtain ⟨m, rfl⟩ : ∃ m : Nat, n = m := ⟨n.toNat, by omega⟩
      have hm : m < 90 := by omega
      have hz := (is_true ht).1
      refine ⟨bt s (m : Int), ?_, ?_⟩
      · unfold board_At.f
        rw [sq_true hm, Option.bind_some, if_pos rfl, ht, Option.bind_some, if_pos rfl, if_pos (by omega), if_pos (by omega)]
      · rw [if_neg (by omega), if_neg (by omega), if_pos (by omega), if_pos (by omega)]
theorem RFind_loop (l : List UInt8) (hl : l.length = 90) (c : Int) : ∀ (d i k : Nat) (acc : List Int), i + d = 90 → acc = ((List.range i).filter (fun (n : Nat) => bt ⟨l.toArray⟩ (n : Int) == c)).map (fun (n : Nat) => (n : Int)) → riverbankref02_Find.l0 (k + d + 1) ⟨l.toArray⟩ c acc (i : Int) = some (soL (fun (n : Nat) => bt ⟨l.toArray⟩ (n : Int) == c))
  | 0, i, k, acc, h, ha => by
    have e90 : (ByteArray.mk l.toArray).size = 90 := by rw [← hl]; rfl
    rw [riverbankref02_Find.l0, e90, if_neg (by omega), ha, show i = 90 by omega]; rfl
  | d + 1, i, k, acc, h, ha => by
    have e90 : (ByteArray.mk l.toArray).size = 90 := by rw [← hl]; rfl
    have ew : wrap64 ((i : Int) + 1) = ((i + 1 : Nat) : Int) := by unfold wrap64; omega
    have hlen : acc.length ≤ 90 := by
      rw [ha, List.length_map]
      have := List.length_filter_le (fun (n : Nat) => bt ⟨l.toArray⟩ (n : Int) == c) (List.range i)
      rw [List.length_range] at this; omega
    rw [show k + (d + 1) + 1 = (k + d + 1) + 1 by omega, riverbankref02_Find.l0, e90, if_pos (by omega), if_pos (by omega), ew]
    have hs : ((List.range (i + 1)).filter (fun (n : Nat) => bt ⟨l.toArray⟩ (n : Int) == c)).map (fun (n : Nat) => (n : Int)) = acc ++ if (bt ⟨l.toArray⟩ (i : Int) == c) = true then [(i : Int)] else [] := by
      rw [ha, List.range_succ, List.filter_append, List.map_append]
      congr 1
      cases hb : (bt ⟨l.toArray⟩ (i : Int) == c) <;> simp [hb]
    by_cases hc : bt ⟨l.toArray⟩ (i : Int) = c
    · rw [if_pos hc, if_pos (by omega)]
      exact RFind_loop l hl c d (i + 1) k _ (by omega) (by rw [hs, if_pos (by simp [hc])])
    · rw [if_neg hc]
      exact RFind_loop l hl c d (i + 1) k _ (by omega) (by rw [hs, if_neg (by simp [hc]), List.append_nil])
theorem RFind_f (s : ByteArray) (c : Int) (k : Nat) (hk : 130 ≤ k) : ∃ L, board_Find.f s c = some L ∧ riverbankref02_Find.f k s c = some L ∧ L.length ≤ 90 := by
  unfold riverbankref02_Find.f board_Find.f
  rw [RIs_f s k hk]
  obtain ⟨t, ht⟩ : ∃ t, board_Is.f s = some t := ⟨_, rfl⟩
  rw [ht, Option.bind_some, Option.bind_some]
  cases t with
  | false => exact ⟨[], rfl, rfl, by simp⟩
  | true =>
    obtain ⟨l, rfl⟩ : ∃ l : List UInt8, s = ⟨l.toArray⟩ := ⟨s.data.toList, by simp⟩
    have hl : l.length = 90 := (is_true ht).1
    refine ⟨_, rfl, ?_, soL_le _⟩
    rw [if_pos rfl]
    have := RFind_loop l hl c 90 0 (k - 91) [] (by omega) rfl
    rw [show k - 91 + 90 + 1 = k by omega] at this
    exact this
end Go.Proofs.YtkbimiimgcklaaaDoor.Pure
