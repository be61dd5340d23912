/- Merged by a program of this session (wip/gprint/merge.py): what this claim needs of this session's texts, each part as it was. -/
import Derived.Test.YtkbimiimgcklaaaDoorAllPlaceChecks42
import Derived.Test.YtkbimiimgcklaaaDoorAllPlaceChecks36
import Derived.Test.YtkbimiimgcklaaaDoorAllPlaceChecks40
import Derived.Test.YtkbimiimgcklaaaDoorAllPlaceChecks38
import Derived.Test.YtkbimiimgcklaaaDoorAllPlaceChecks37
import Derived.Test.YtkbimiimgcklaaaDoorAllPlaceChecks39
namespace Go.Proofs.YtkbimiimgcklaaaDoor.Print
end Go.Proofs.YtkbimiimgcklaaaDoor.Print
namespace Go.Proofs.YtkbimiimgcklaaaDoor.Pure
end Go.Proofs.YtkbimiimgcklaaaDoor.Pure
namespace Go.Proofs.YtkbimiimgcklaaaDoor.SetMath
end Go.Proofs.YtkbimiimgcklaaaDoor.SetMath

-- of YtkbimiimgcklaaaDoorPlaceMath
/- Where pieces may stand, and how many there may be: the program's answer and the document's. -/
namespace Go.Proofs.YtkbimiimgcklaaaDoor.Pure
open Go.RowKit Go.Proofs.YtkbimiimgcklaaaDoor.Print Go.Proofs.YtkbimiimgcklaaaDoor.SetMath Go.Proofs.YtkbimiimgcklaaaDoorW.PrintWords Go.Proofs.YtkbimiimgcklaaaDoorW.PrintLast Go.Proofs.YtkbimiimgcklaaaDoorW.PrintMore
def mostP (c : Int) : Int := (place_Most.f c).getD 0
def kindP (c : Int) : Int := (board_Kind.f c).getD 0
def mayP (c n : Int) : Bool := (place_May.f 40 c n).getD false
theorem kind_some (c : Int) : board_Kind.f c = some (kindP c) := by
  unfold kindP board_Kind.f
  rw [side_some, Option.bind_some]
  split
  · rfl
  · split <;> rfl
theorem most_some (c : Int) : place_Most.f c = some (mostP c) := by
  unfold mostP place_Most.f
  rw [kind_some, Option.bind_some]
  split
  · rfl
  · split
    · rfl
    · split <;> rfl
theorem seen_some (k : Nat) (n t : Int) : ∃ v, place_seen.f (k + 1) n t = some v := by
  unfold place_seen.f
  simp only [place_seen.j0]
  repeat (first | exact ⟨_, rfl⟩ | split)
theorem seen_out (k : Nat) (n t : Int) (h : n < 0 ∨ n > 89 ∨ (t ≠ 0 ∧ t ≠ 1)) : place_seen.f (k + 1) n t = some (0, 0, false) := by
  unfold place_seen.f
  simp only [place_seen.j0]
  by_cases c1 : n < 0
  · rw [if_pos c1, if_pos (by decide)]
  by_cases c2 : n > 89
  · rw [if_neg c1, if_pos c2, if_pos (by decide)]
  have c3 : t ≠ 0 := by omega
  have c4 : t ≠ 1 := by omega
  rw [if_neg c1, if_neg c2, if_neg c3, if_pos (by simpa using c4)]
theorem may_some0 (c n : Int) : place_May.f 40 c n = some (mayP c n) := by
  have h : ∃ b, place_May.f 40 c n = some b := by
    unfold place_May.f
    obtain ⟨v, hv⟩ := seen_some 39 n (sideOf c)
    rw [side_some, Option.bind_some, hv, Option.bind_some, kind_some]
    simp only [Option.bind_some, place_spot_palace.f, place_spot_advisor.f, place_spot_elephant.f, place_spot_pawn.f, place_spot_over.f]
    repeat (first | exact ⟨_, rfl⟩ | split | simp only [Option.bind_some])
  obtain ⟨b, hb⟩ := h
  unfold mayP
  rw [hb]; rfl
theorem may_some (c n : Int) (k : Nat) (hk : 40 ≤ k) : place_May.f k c n = some (mayP c n) := at_rounds (place_May.mono _ _) hk (may_some0 c n)
theorem may_out (c n : Int) (h : n < 0 ∨ n > 89 ∨ sideOf c = -1) : mayP c n = false := by
  have e : place_May.f 40 c n = some false := by
    unfold place_May.f
    rw [side_some, Option.bind_some, seen_out 39 n (sideOf c) (by omega), Option.bind_some, if_neg (by decide)]
  exact Option.some.inj ((may_some0 c n).symm.trans e)
set_option maxRecDepth 100000 in
theorem letter_or_all : ∀ n : Fin 256, (∃ j : Fin 14, letters.getD j.val 0 = ((UInt8.ofNat n.val).toNat : Int)) ∨ sideOf ((UInt8.ofNat n.val).toNat : Int) = -1 := by decide +kernel
theorem letter_or (c : UInt8) : (∃ j : Fin 14, letters.getD j.val 0 = (c.toNat : Int)) ∨ sideOf (c.toNat : Int) = -1 := by
  have h := letter_or_all ⟨c.toNat, c.toNat_lt⟩
  have e : UInt8.ofNat (⟨c.toNat, c.toNat_lt⟩ : Fin 256).val = c := UInt8.ofNat_toNat
  rw [e] at h
  exact h
set_option maxRecDepth 100000 in
theorem letter_tab : ∀ j : Fin 14, (sideOf (letters.getD j.val 0) = 0 ∨ sideOf (letters.getD j.val 0) = 1) ∧ riverbankref02_Side.f 30 (letters.getD j.val 0) = some (sideOf (letters.getD j.val 0)) ∧ riverbankref02_Kind.f 31 (letters.getD j.val 0) = some (kindP (letters.getD j.val 0)) ∧ riverbankref03_Most.f 32 (letters.getD j.val 0) = some (mostP (letters.getD j.val 0)) := by decide +kernel
set_option maxRecDepth 100000 in
theorem may_tab : ∀ j : Fin 14, ∀ n : Fin 90, riverbankref03_May.f 40 (letters.getD j.val 0) (n.val : Int) = some (mayP (letters.getD j.val 0) (n.val : Int)) := by decide +kernel
theorem may_ref (c : UInt8) (n : Int) (k : Nat) (hk : 40 ≤ k) : riverbankref03_May.f k (c.toNat : Int) n = some (mayP (c.toNat : Int) n) := by
  obtain ⟨q, rfl⟩ : ∃ q, k = q + 1 := ⟨k - 1, by omega⟩
  by_cases ho : n < 0 ∨ n > 89 ∨ sideOf (c.toNat : Int) = -1
  · rw [may_out _ _ ho]
    unfold riverbankref03_May.f
    rw [side_ref c _ (by omega), Option.bind_some]
    simp only [riverbankref03_May.j0]
    by_cases c1 : sideOf (c.toNat : Int) < 0
    · rw [if_pos c1, if_pos (by decide)]
    · rw [if_neg c1]
      have hr : riverbankref03_real.f n (sideOf (c.toNat : Int)) = some false := by
        unfold riverbankref03_real.f
        by_cases c2 : n ≥ 0
        · rw [if_pos c2, if_neg (by omega)]
        · rw [if_neg c2]
      rw [hr, Option.bind_some, if_pos (by decide)]
  · rcases letter_or c with ⟨j, hj⟩ | h
    · have := may_tab j ⟨n.toNat, by omega⟩
      rw [hj] at this
      rw [show (((⟨n.toNat, by omega⟩ : Fin 90).val : Nat) : Int) = n from by show (n.toNat : Int) = n; omega] at this
      exact at_rounds (riverbankref03_May.mono _ _) hk this
    · exact absurd (Or.inr (Or.inr h)) ho
/-- Is a byte on a square right? -/
def okAt (s : ByteArray) (i : Nat) : Bool := (bt s i == 46) || mayP (bt s i) i
/-- Is the number of a letter's pieces wrong? -/
def badC (s : ByteArray) (c : Int) : Bool := decide (cntB s c 90 > mostP c) || (kindP c == 75 && cntB s c 90 != 1)
theorem wrongB_f (s : ByteArray) : ∀ l, wrongB s l = some (l.any (badC s))
  | [] => rfl
  | c :: l => by
    have hb : badC s c = (decide (cntB s c 90 > mostP c) || (kindP c == 75 && cntB s c 90 != 1)) := rfl
    rw [wrongB, most_some, Option.bind_some, List.any_cons, hb]
    by_cases g : cntB s c 90 > mostP c
    · rw [if_pos g, decide_eq_true g]; rfl
    · rw [if_neg g, kind_some, Option.bind_some, wrongB_f s l, decide_eq_false g]
      by_cases e : kindP c = 75
      · rw [if_pos e, e]
        by_cases n1 : cntB s c 90 = 1
        · rw [if_pos n1, n1]; rfl
        · rw [if_neg n1, show (cntB s c 90 != 1) = true by simpa using n1]; rfl
      · rw [if_neg e, show (kindP c == 75) = false by simpa using e]; rfl
theorem rightB_f (s : ByteArray) (k : Nat) (hk : 40 ≤ k) : ∀ n, rightB k s n = some ((List.range n).all (okAt s))
  | 0 => rfl
  | n + 1 => by
    rw [rightB, rightB_f s k hk n, Option.bind_some, List.range_succ, List.all_append]
    cases h : (List.range n).all (okAt s) with
    | false => rw [if_neg (by decide)]; rfl
    | true =>
      rw [if_pos rfl]
      have ho : okAt s n = ((bt s n == 46) || mayP (bt s n) n) := rfl
      rw [List.all_cons, List.all_nil, ho]
      by_cases e : bt s n = 46
      · rw [if_pos e, e]; rfl
      · rw [if_neg e, may_some _ _ k hk, show (bt s n == 46) = false by simpa using e, Bool.false_or, Bool.true_and, Bool.and_true]
def rightP (s : ByteArray) : Bool := (List.range 90).all (okAt s)
def wrongP (s : ByteArray) : Bool := letters.any (badC s)
/-- What a board's pieces are worth: nothing is wrong, a place is, a number is. -/
def verdict (s : ByteArray) : Int := if wrongP s = true then 3 else if rightP s = true then 0 else 2
theorem check_f (s : ByteArray) (a1 a2 a3 : Int) (k : Nat) (hk : 40 ≤ k) (hI : board_Is.f s = some true) (h1 : a1 = 0 ∨ a1 = 1) (h2 : 0 ≤ a2 ∧ a2 ≤ 120) (h3 : 1 ≤ a3 ∧ a3 ≤ 9999) : place_Check.f k s a1 a2 a3 = some (verdict s) := by
  unfold place_Check.f
  rw [hI, Option.bind_some, if_neg (by simp; omega), rightB_f s k hk, Option.bind_some, wrongB_f, Option.bind_some]
  unfold verdict wrongP rightP
  split
  · rfl
  · rfl
theorem check_no (s : ByteArray) (a1 a2 a3 : Int) (k : Nat) (h : board_Is.f s = some false ∨ ¬ (a1 = 0 ∨ a1 = 1) ∨ ¬ (0 ≤ a2 ∧ a2 ≤ 120) ∨ ¬ (1 ≤ a3 ∧ a3 ≤ 9999)) : place_Check.f k s a1 a2 a3 = some 1 := by
  unfold place_Check.f
  obtain ⟨t, ht⟩ : ∃ t, board_Is.f s = some t := ⟨_, rfl⟩
  rw [ht, Option.bind_some, if_pos]
  rcases h with h | h
  · rw [ht] at h; exact Or.inl (Option.some.inj h)
  · right; omega
theorem cntB_len (s : ByteArray) (c : Int) : ∀ n, (((List.range n).filter (fun (i : Nat) => bt s (i : Int) == c)).length : Int) = cntB s c n
  | 0 => rfl
  | n + 1 => by
    rw [List.range_succ, List.filter_append, List.length_append, cntB, Int.natCast_add, cntB_len s c n]
    congr 1
    by_cases e : bt s (n : Int) = c
    · rw [if_pos e]; simp [e]
    · rw [if_neg e]; simp [e]
end Go.Proofs.YtkbimiimgcklaaaDoor.Pure
