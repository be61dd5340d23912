/- Merged by a program of this session (wip/gprint/merge.py): what this claim needs of this session's texts, each part as it was. -/
import Derived.Test.YtkbimiimgcklaaaDoorAllPlaceTurn7
import Derived.Test.YtkbimiimgcklaaaDoorAllPlaceTurn15
import Derived.Test.YtkbimiimgcklaaaDoorAllPlaceTurn16
import Derived.Test.YtkbimiimgcklaaaDoorAllPlaceTurn5
namespace Go.Proofs.YtkbimiimgcklaaaDoor.Print
end Go.Proofs.YtkbimiimgcklaaaDoor.Print

-- of YtkbimiimgcklaaaDoorPrint24
-- Written by a program of this session (wip/gprint/gprint.py) over the kit's print; the parts marked GIVEN by hand.
namespace Go.Proofs.YtkbimiimgcklaaaDoor.Print
open Go.RowKit Go.Proofs.YtkbimiimgcklaaaDoorW.PrintWords Go.Proofs.YtkbimiimgcklaaaDoorW.PrintLast Go.Proofs.YtkbimiimgcklaaaDoorW.PrintMore
attribute [local go_sem] max2_int min2_int max_two min_two max_three min_three max_four min_four   -- for this text's walks alone
set_option linter.unusedVariables false
set_option linter.unusedSimpArgs false

/-! GIVEN board_Is -/
-- GIVEN riverbank/board.Is
-- MAKES yes
-- NEEDS riverbank/board.isCell
-- IMPORT Derived.Test.YtkbimiimgcklaaaDoorShelf
/-- A byte that may stand on a square. -/
def okCell (b : UInt8) : Bool := b == 46 || b == 75 || b == 65 || b == 66 || b == 78 || b == 67 || b == 82 || b == 80 || b == 107 || b == 97 || b == 98 || b == 110 || b == 99 || b == 114 || b == 112
def strange (r : Nat) : Bool := decide (122 < r) || !okCell r.toUInt8

theorem decode_low (s : ByteArray) (i : Nat) (h : (s.get! i).toNat < 128) : Utf8.decode s i = ((s.get! i).toNat, 1) := by
  unfold Utf8.decode; simp [h]
theorem decode_high (s : ByteArray) (i : Nat) (h : ¬ (s.get! i).toNat < 128) : 122 < (Utf8.decode s i).1 := by
  rw [Lib.decode_at]; unfold Lib.decodeN
  repeat' split
  all_goals (simp; try omega)

theorem okCell_low (b : UInt8) (h : okCell b = true) : b.toNat ≤ 122 := by
  have := u8_all (fun b => !okCell b || decide (b.toNat ≤ 122)) (by decide +kernel) b
  simpa [h] using this
theorem okCell_hi (b : UInt8) (h : 122 < b.toNat) : okCell b = false := by
  cases e : okCell b with
  | false => rfl
  | true => have := okCell_low b e; omega

theorem idx_from (s : ByteArray) : ∀ (f pos : Nat), s.size - pos ≤ f → (Lib.idxFuncFrom strange true s f pos < 0 ↔ ∀ j, pos ≤ j → j < s.size → okCell (s.get! j) = true) := by
  intro f
  induction f with
  | zero => intro pos h; simp [Lib.idxFuncFrom]; intro j h1 h2; omega
  | succ f ih =>
    intro pos h
    unfold Lib.idxFuncFrom
    by_cases hp : pos < s.size
    · rw [if_pos hp]
      by_cases hb : (s.get! pos).toNat < 128
      · rw [decode_low s pos hb]
        simp only
        have e : strange (s.get! pos).toNat = !okCell (s.get! pos) := by
          unfold strange
          have : ((s.get! pos).toNat).toUInt8 = s.get! pos := by simp
          rw [this]
          by_cases h1 : 122 < (s.get! pos).toNat
          · simp [h1, okCell_hi _ h1]
          · simp [h1]
        rw [e]
        by_cases hk : okCell (s.get! pos) = true
        · rw [if_neg (by simp [hk]), ih (pos + 1) (by omega)]
          constructor
          · intro hh j h1 h2
            by_cases hj : j = pos
            · subst hj; exact hk
            · exact hh j (by omega) h2
          · intro hh j h1 h2; exact hh j (by omega) h2
        · rw [if_pos (by simp [hk])]
          constructor
          · intro hh; omega
          · intro hh; exact absurd (hh pos (Nat.le_refl _) hp) hk
      · have hd := decode_high s pos hb
        rw [if_pos (by unfold strange; simp [hd])]
        constructor
        · intro hh; omega
        · intro hh
          have := okCell_low _ (hh pos (Nat.le_refl _) hp); omega
    · rw [if_neg hp]
      constructor
      · intro _ j h1 h2; omega
      · intro _; decide

theorem all_okCell (s : ByteArray) : s.data.toList.all okCell = true ↔ ∀ j, j < s.size → okCell (s.get! j) = true := by
  rw [List.all_eq_true]
  constructor
  · intro h j hj
    have e : s.get! j = s.data[j]'hj := by
      simp [ByteArray.get!, hj]
    rw [e]; exact h _ (by simp)
  · intro h x hx
    obtain ⟨j, hj, rfl⟩ := List.getElem_of_mem hx
    have hj' : j < s.size := by simpa using hj
    have := h j hj'
    have e : s.get! j = s.data[j]'hj' := by simp [ByteArray.get!, hj']
    rw [e] at this
    exact this

theorem idx_board (s : ByteArray) : (Lib.idxFunc strange true s < 0) = (s.data.toList.all okCell = true) := by
  rw [all_okCell]; unfold Lib.idxFunc
  rw [idx_from s s.size 0 (by omega)]
  simp
theorem isCell_eq (b : UInt8) : board_isCell.f (b.toNat : Int) = some (okCell b) := by
  have := u8_all (fun b => board_isCell.f (b.toNat : Int) == some (okCell b)) (by decide +kernel) b
  simpa using this
set_option maxHeartbeats 1000000 in
theorem strange_pays (w : World) : PredAt Tryd.prog 95 #[] encR strange w := fun W r _ => by
  unfold FnGives
  by_cases h : 122 < r
  · have e : strange r = true := by simp [strange, h]
    rw [e]
    have hz : decide ((122 : Int) < (r : Int)) = true := decide_eq_true (by omega)
    go_enter Tryd.func95, Tryd.ntmps95
    go_wp2
    go_ret
    exact ⟨rfl, 0, rfl⟩
  · have hz : decide ((122 : Int) < (r : Int)) = false := decide_eq_false (by omega)
    have hm : (r : Int) % 256 = r := by omega
    have hu : (r.toUInt8.toNat : Int) = r := by simp; omega
    have e : strange r = !okCell r.toUInt8 := by simp [strange, h]
    rw [e]
    have hc := isCell_eq r.toUInt8
    rw [hu] at hc
    obtain ⟨b, hb⟩ : ∃ b, b = okCell r.toUInt8 := ⟨_, rfl⟩
    rw [← hb] at hc ⊢
    have HC := Aside0.mk hc
    clear hc hb e hu
    go_enter Tryd.func95, Tryd.ntmps95
    go_wp2_with (go_at_call 96; refine (board_isCell.calls _ b _ HC.out).mono ?_; rintro e w' ⟨rfl, ⟨q, rfl⟩⟩)
    go_ret
    exact ⟨rfl, _, rfl⟩
def board_Is.f (a0 : ByteArray) : Option (Bool) := some (decide (a0.size = 90) && a0.data.toList.all okCell)
set_option maxHeartbeats 1000000 in
theorem board_Is.calls (a0 : ByteArray) (r : Bool) (w : World) (h : board_Is.f a0 = some r) :
    Calls Tryd.prog 50 #[.string a0] w fun e w' => e = .returned (.bool r) ∧ Below w.heap.size w w' := by
  obtain rfl := Option.some.inj h
  by_cases hs : a0.size = 90
  · have hs0 : ((a0.size : Int) == 90) = true := by simp [hs]
    have hI := Tryd.strings_IndexFunc 95 #[] (enters_of Tryd.func95 (by kernel_rfl) rfl) strange a0 w (strange_pays w)
    obtain ⟨z, hz⟩ : ∃ z, z = Lib.idxFunc strange true a0 := ⟨_, rfl⟩
    rw [← hz] at hI
    have e : (decide (a0.size = 90) && a0.data.toList.all okCell) = decide (z < 0) := by
      rw [hz]; simp only [hs, decide_true, Bool.true_and, idx_board]; simp
    rw [e]
    clear hz e h
    have HI := Aside0.mk hI
    clear hI hs
    go_enter Tryd.func50, Tryd.ntmps50
    go_wp2_with (go_at_call 94; refine HI.out.mono ?_; rintro e w' ⟨rfl, hb⟩)
    go_ret
    exact ⟨rfl, hb⟩
  · have hs0 : ((a0.size : Int) == 90) = false := by simp; omega
    have e : (decide (a0.size = 90) && a0.data.toList.all okCell) = false := by simp [hs]
    rw [e]
    clear e h hs
    go_enter Tryd.func50, Tryd.ntmps50
    go_wp2
    go_ret
    exact ⟨rfl, Below.refl _ _⟩

end Go.Proofs.YtkbimiimgcklaaaDoor.Print
