/- The document's row and numbers, and that they are the program's. -/
import Derived.Test.YtmfbgcimfmgobaaKeyMath
import Derived.Test.YtmfbgcimfmgobaaPrint9
namespace Go.Proofs.Ytmfbgcimfmgobaa.KeyRef
open Go.RowKit Go.Proofs.Ytmfbgcimfmgobaa.Print Go.Proofs.Ytmfbgcimfmgobaa.KeyMath Go.Proofs.YtmfbgcimfmgobaaW.PrintWords Go.Proofs.YtmfbgcimfmgobaaW.PrintLast

theorem u8_of (c : Int) (h : (Lit.int .u8 c).wf = true) : ∃ b : UInt8, c = (b.toNat : Int) := by
  have h2 : 0 ≤ c ∧ c ≤ 255 := by
    simp [Lit.wf, IntKind.min, IntKind.max, IntKind.signed, IntKind.bits] at h; omega
  exact ⟨c.toNat.toUInt8, by simp; omega⟩
theorem u64_of (c : Int) (h : (Lit.int .u64 c).wf = true) : ∃ x : Nat, c = (x : Int) ∧ x < 18446744073709551616 := by
  have h2 : 0 ≤ c ∧ c ≤ 18446744073709551615 := by
    simp [Lit.wf, IntKind.min, IntKind.max, IntKind.signed, IntKind.bits] at h; omega
  exact ⟨c.toNat, by omega, by omega⟩
theorem i64_of (c : Int) (h : (Lit.int .i64 c).wf = true) : -9223372036854775808 ≤ c ∧ c ≤ 9223372036854775807 := by
  simp [Lit.wf, IntKind.min, IntKind.max, IntKind.signed, IntKind.bits] at h; omega

theorem rplace_eq (b : UInt8) : riverbankref10_place.f 2000 (b.toNat : Int) = some (Lib.indexByte [75, 65, 66, 78, 82, 67, 80, 107, 97, 98, 110, 114, 99, 112] b) := by
  have := u8_all (fun b => riverbankref10_place.f 2000 (b.toNat : Int) == some (Lib.indexByte [75, 65, 66, 78, 82, 67, 80, 107, 97, 98, 110, 114, 99, 112] b)) (by decide +kernel) b
  simpa using this

def rowsL : List Int := (List.range 1262).map rowN
theorem rows_len : rowsL.length = 1262 := by simp [rowsL]
theorem rows_get (i : Nat) (hi : i < 1262) : rd rowsL (i : Int) = (rowNat i : Int) := by
  unfold rd rowsL
  rw [← rowN_nat]
  simp [List.getD, hi]
theorem refNext_eq (x : Int) : riverbankref10_Next.f x = key_Next.f x := rfl
theorem row_loop (d : Nat) : ∀ (k i : Nat), i + d = 1262 → d < k → riverbankref10_Row.l0 k 1262 (rowN i) ((List.range i).map rowN) (i : Int) = some rowsL := by
  induction d with
  | zero =>
    intro k i hi hk
    obtain ⟨k, rfl⟩ : ∃ m, k = m + 1 := ⟨k - 1, by omega⟩
    obtain rfl : i = 1262 := by omega
    simp only [riverbankref10_Row.l0]; rw [if_neg (by omega)]; rfl
  | succ d ih =>
    intro k i hi hk
    obtain ⟨k, rfl⟩ : ∃ m, k = m + 1 := ⟨k - 1, by omega⟩
    simp only [riverbankref10_Row.l0]
    rw [if_pos (by omega), if_pos (by simp; omega), refNext_eq, next_is]
    simp only [Option.bind_some]
    rw [w64 _ (by omega) (by omega)]
    have := ih k (i + 1) (by omega) (by omega)
    rw [List.range_succ, List.map_append] at this
    exact this
theorem row_f : riverbankref10_Row.f 2000 1262 = some rowsL := row_loop 1262 2000 0 (by omega) (by omega)
theorem rturn_f : riverbankref10_Turn.f 2000 = some (rowNat 1261 : Int) := by
  unfold riverbankref10_Turn.f
  rw [row_f]; simp only [Option.bind_some]
  rw [rows_len, if_pos (by omega), show (1261 : Int) = ((1261 : Nat) : Int) from rfl, rows_get 1261 (by omega)]
/-- The number of a piece on a square, whatever square. -/
theorem cell_both (b : UInt8) (n : Int) : ∃ v : Nat, v < 18446744073709551616 ∧ key_Cell.f (b.toNat : Int) n = some (v : Int) ∧ riverbankref10_cell.f 2000 rowsL (b.toNat : Int) n = some (v : Int) ∧
    ((v = 0 ∧ key_place.f (b.toNat : Int) n = some 0) ∨ ∃ p : Nat, 0 < p ∧ p ≤ 1260 ∧ v = rowNat p ∧ 0 ≤ n ∧ n < 90 ∧ key_place.f (b.toNat : Int) n = some (p : Int) ∧ (p : Int) = 1 + 90 * Lib.indexByte [75, 65, 66, 78, 82, 67, 80, 107, 97, 98, 110, 114, 99, 112] b + n) := by
  have h1 := idx_lt [75, 65, 66, 78, 82, 67, 80, 107, 97, 98, 110, 114, 99, 112] b
  have h2 := Lib.indexByte_ge [75, 65, 66, 78, 82, 67, 80, 107, 97, 98, 110, 114, 99, 112] b
  have hr := rplace_eq b
  have hb : ((b.toNat : Int)).toNat.toUInt8 = b := by simp
  unfold key_Cell.f riverbankref10_cell.f key_place.f strings_IndexByte.f board_File.f board_isSquare.f
  rw [hr]
  simp only [Option.bind_some, hb]
  obtain ⟨t, ht⟩ : ∃ t, t = Lib.indexByte [75, 65, 66, 78, 82, 67, 80, 107, 97, 98, 110, 114, 99, 112] b := ⟨_, rfl⟩
  rw [← ht] at h1 h2 ⊢
  clear ht hr
  simp only [List.length_cons, List.length_nil] at h1
  by_cases e : t < 0
  · rw [if_pos e, if_pos e]
    exact ⟨0, by omega, by simp, rfl, .inl ⟨rfl, rfl⟩⟩
  · rw [if_neg e, if_neg e]
    by_cases n0 : n < 0
    · rw [if_neg (by omega), if_pos n0]
      exact ⟨0, by omega, by simp, rfl, .inl ⟨rfl, by simp⟩⟩
    · rw [if_pos (by omega), if_neg n0]
      by_cases n1 : n > 89
      · rw [if_pos n1]
        have e2 : decide (n < 90) = false := decide_eq_false (by omega)
        exact ⟨0, by omega, by simp [e2], rfl, .inl ⟨rfl, by simp [e2]⟩⟩
      · rw [if_neg n1]
        have e2 : decide (n < 90) = true := decide_eq_true (by omega)
        have e3 : ¬ Int.tmod n 9 < 0 := by have := Int.tmod_nonneg (a := n) 9 (by omega); omega
        rw [w64 (90 * t) (by omega) (by omega), w64 (1 + 90 * t) (by omega) (by omega), w64 (1 + 90 * t + n) (by omega) (by omega)]
        simp only [e2, Option.bind_some, if_true, if_neg e3]
        obtain ⟨p, hp⟩ : ∃ p : Nat, (p : Int) = 1 + 90 * t + n := ⟨(1 + 90 * t + n).toNat, by omega⟩
        rw [← hp]
        refine ⟨rowNat p, rowNat_lt p, ?_, ?_, .inr ⟨p, by omega, by omega, rfl, by omega, by omega, rfl, rfl⟩⟩
        · rw [if_neg (by omega)]
          unfold key_number.f
          rw [if_pos (by omega), rowN_nat]; rfl
        · rw [if_pos (by omega), rows_len, if_pos (by omega), rows_get p (by omega)]
theorem rCell_f (b : UInt8) (n : Int) : riverbankref10_Cell.f 2000 (b.toNat : Int) n = key_Cell.f (b.toNat : Int) n := by
  obtain ⟨v, _, h1, h2, _⟩ := cell_both b n
  unfold riverbankref10_Cell.f
  rw [row_f]; simp only [Option.bind_some]
  rw [h2, h1]; rfl
end Go.Proofs.Ytmfbgcimfmgobaa.KeyRef
