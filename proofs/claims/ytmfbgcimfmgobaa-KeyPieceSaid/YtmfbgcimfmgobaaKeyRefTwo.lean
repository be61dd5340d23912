/- The document's boards and keys, and that they are the program's. -/
import Derived.Test.YtmfbgcimfmgobaaKeyRef
import Derived.Test.YtmfbgcimfmgobaaPrint10
namespace Go.Proofs.Ytmfbgcimfmgobaa.KeyRef
open Go.RowKit Go.Proofs.Ytmfbgcimfmgobaa.Print Go.Proofs.Ytmfbgcimfmgobaa.KeyMath Go.Proofs.YtmfbgcimfmgobaaW.PrintWords Go.Proofs.YtmfbgcimfmgobaaW.PrintLast

theorem rside_k (k : Nat) (a : Int) : riverbankref02_Side.f (k + 1) a = riverbankref02_Side.f 1 a := rfl
theorem rside_eq (k : Nat) (b : UInt8) : riverbankref02_Side.f (k + 1) (b.toNat : Int) = board_Side.f (b.toNat : Int) := by
  rw [rside_k]
  have := u8_all (fun b => riverbankref02_Side.f 1 (b.toNat : Int) == board_Side.f (b.toNat : Int)) (by decide +kernel) b
  simpa using this
/-- A byte's side. -/
def sideU (b : UInt8) : Int := (board_Side.f (b.toNat : Int)).getD 0
theorem side_f (b : UInt8) : board_Side.f (b.toNat : Int) = some (sideU b) := by
  have := u8_all (fun b => board_Side.f (b.toNat : Int) == some (sideU b)) (by decide +kernel) b
  simpa using this
theorem side_cell (b : UInt8) : okCell b = (b == 46 || decide (0 ≤ sideU b)) := by
  have := u8_all (fun b => okCell b == (b == 46 || decide (0 ≤ sideU b))) (by decide +kernel) b
  simpa using this
theorem side_range (b : UInt8) : sideU b = -1 ∨ sideU b = 0 ∨ sideU b = 1 := by
  have := u8_all (fun b => sideU b == -1 || (sideU b == 0 || sideU b == 1)) (by decide +kernel) b
  simpa using this
theorem bt_get (s : ByteArray) (i : Nat) (h : i < s.size) : bt s (i : Int) = ((s.get! i).toNat : Int) := by
  unfold bt
  rw [dif_pos (by simpa using h)]
  have e : s.get! i = s.data[i]'h := by
    simp [ByteArray.get!, h]
  rw [e]; rfl
theorem rside_eq' (k : Nat) (hk : 1 ≤ k) (b : UInt8) : riverbankref02_Side.f k (b.toNat : Int) = some (sideU b) := by
  obtain ⟨m, rfl⟩ : ∃ m, k = m + 1 := ⟨k - 1, by omega⟩
  rw [rside_eq, side_f]
theorem eq46 (b : UInt8) : ((b.toNat : Int) = 46) = (b = 46) := by
  apply propext
  constructor
  · intro h; exact UInt8.toNat_inj.mp (by simpa using (by omega : b.toNat = 46))
  · intro h; subst h; rfl
theorem is_loop (s : ByteArray) (hs : s.size = 90) (d : Nat) : ∀ (k i : Nat), i + d = 90 → d + 1 < k → ∃ b, riverbankref02_Is.l0 k s (i : Int) = some b ∧ (b = true ↔ ∀ j, i ≤ j → j < 90 → okCell (s.get! j) = true) := by
  induction d with
  | zero =>
    intro k i hi hk
    obtain ⟨k, rfl⟩ : ∃ m, k = m + 1 := ⟨k - 1, by omega⟩
    refine ⟨true, by simp only [riverbankref02_Is.l0]; rw [if_neg (by omega)], ?_⟩
    simp; intro j h1 h2; omega
  | succ d ih =>
    intro k i hi hk
    obtain ⟨k, rfl⟩ : ∃ m, k = m + 1 := ⟨k - 1, by omega⟩
    obtain ⟨b, hb, hiff⟩ := ih k (i + 1) (by omega) (by omega)
    have hw : wrap64 ((i : Int) + 1) = ((i + 1 : Nat) : Int) := by rw [w64 _ (by omega) (by omega)]; rfl
    simp only [riverbankref02_Is.l0]
    rw [if_pos (by omega), if_pos (by omega), if_pos (by omega), bt_get s i (by omega), rside_eq' k (by omega), hw, hb]
    simp only [Option.bind_some]
    have hc := side_cell (s.get! i)
    by_cases h46 : ((s.get! i).toNat : Int) = 46
    · rw [if_pos h46]
      rw [eq46] at h46
      refine ⟨b, rfl, hiff.trans ⟨fun h j h1 h2 => ?_, fun h j h1 h2 => h j (by omega) h2⟩⟩
      by_cases e : j = i
      · subst e; rw [hc, h46]; rfl
      · exact h j (by omega) h2
    · rw [if_neg h46]
      rw [eq46] at h46
      by_cases h0 : sideU (s.get! i) < 0
      · rw [if_pos h0]
        refine ⟨false, rfl, ⟨fun h => (by cases h), fun h => ?_⟩⟩
        have := h i (Nat.le_refl _) (by omega)
        rw [hc] at this
        simp [h46] at this; omega
      · rw [if_neg h0]
        refine ⟨b, rfl, hiff.trans ⟨fun h j h1 h2 => ?_, fun h j h1 h2 => h j (by omega) h2⟩⟩
        by_cases e : j = i
        · subst e; rw [hc]; simp; right; omega
        · exact h j (by omega) h2
theorem rIs_eq (k : Nat) (hk : 100 ≤ k) (s : ByteArray) : riverbankref02_Is.f k s = board_Is.f s := by
  unfold riverbankref02_Is.f board_Is.f
  by_cases hs : s.size = 90
  · rw [if_pos (by omega)]
    obtain ⟨b, hb, hiff⟩ := is_loop s hs 90 k 0 (by omega) (by omega)
    rw [show ((0 : Nat) : Int) = 0 from rfl] at hb
    rw [hb]
    have h2 := all_okCell s
    rw [hs] at h2
    congr 1
    cases b with
    | true => simp only [hs, decide_true, Bool.true_and]; exact (h2.mpr (fun j hj => (hiff.mp rfl) j (by omega) hj)).symm
    | false =>
      simp only [hs, decide_true, Bool.true_and]
      cases e : s.data.toList.all okCell with
      | false => rfl
      | true => exact absurd (hiff.mpr (fun j _ hj => h2.mp e j hj)) (by simp)
  · rw [if_neg (by omega)]; simp [hs]
theorem board_size {s : ByteArray} (h : board_Is.f s = some true) : s.size = 90 := by
  unfold board_Is.f at h; have := Option.some.inj h; simp at this; exact this.1
theorem board_cell {s : ByteArray} (h : board_Is.f s = some true) (j : Nat) (hj : j < 90) : okCell (s.get! j) = true := by
  have hs := board_size h
  unfold board_Is.f at h; have := Option.some.inj h; simp only [Bool.and_eq_true] at this
  exact (all_okCell s).mp this.2 j (by omega)
theorem board_tf (s : ByteArray) : board_Is.f s = some true ∨ board_Is.f s = some false := by
  unfold board_Is.f
  cases (decide (s.size = 90) && s.data.toList.all okCell) <;> simp

/-- What a piece counts on a square, off its byte. -/
def cellV (b : UInt8) (n : Int) : Nat := if 0 < (key_place.f (b.toNat : Int) n).getD 0 then rowNat ((key_place.f (b.toNat : Int) n).getD 0).toNat else 0
theorem cell_V (b : UInt8) (n : Int) : key_Cell.f (b.toNat : Int) n = some (cellV b n : Int) ∧ riverbankref10_cell.f 2000 rowsL (b.toNat : Int) n = some (cellV b n : Int) ∧ cellV b n < 18446744073709551616 := by
  obtain ⟨v, hv, h1, h2, h3⟩ := cell_both b n
  have e : cellV b n = v := by
    unfold cellV
    rcases h3 with ⟨rfl, h⟩ | ⟨p, hp0, hp1, rfl, _, _, h, _⟩
    · rw [h]; rfl
    · rw [h]; simp only [Option.getD_some]; rw [if_pos (by omega)]; simp
  rw [e]; exact ⟨h1, h2, hv⟩
theorem vN_cell (s : ByteArray) (j : Nat) (hj : j < s.size) : vN s j = cellV (s.get! j) (j : Int) := by
  unfold vN placeN cellV; rw [bt_get s j hj]
theorem rcell_k (k : Nat) (h : 2000 ≤ k) (b : UInt8) (n : Int) : riverbankref10_cell.f k rowsL (b.toNat : Int) n = some (cellV b n : Int) := by
  obtain ⟨d, rfl⟩ : ∃ d, k = 2000 + d := ⟨k - 2000, by omega⟩
  induction d with
  | zero => exact (cell_V b n).2.1
  | succ d ih => exact riverbankref10_cell.mono _ _ _ _ _ (ih (by omega))
theorem vSum_lt (s : ByteArray) (n : Nat) (hn : n ≤ 90) (hs : s.size = 90) : vSum s n < 18446744073709551616 := by
  induction n with
  | zero => unfold vSum; omega
  | succ n ih =>
    unfold vSum
    refine xor_lt (ih (by omega)) ?_
    rw [vN_cell s n (by omega)]; exact (cell_V _ _).2.2
theorem of_loop (s : ByteArray) (side c f : Int) (hs : s.size = 90) (d : Nat) : ∀ (k i : Nat), i + d = 90 → d + 2000 < k → riverbankref10_Of.l0 k rowsL (vSum s i : Int) (i : Int) s side c f = some (keyV s side : Int) := by
  induction d with
  | zero =>
    intro k i hi hk
    obtain ⟨k, rfl⟩ : ∃ m, k = m + 1 := ⟨k - 1, by omega⟩
    obtain rfl : i = 90 := by omega
    simp only [riverbankref10_Of.l0]
    rw [if_neg (by omega)]
    unfold keyV turnV
    by_cases e : side = 1
    · rw [if_pos e, if_pos e, rows_len, if_pos (by omega), show (1261 : Int) = ((1261 : Nat) : Int) from rfl, rows_get 1261 (by omega), bits_xor_u64_nat _ _ (vSum_lt s 90 (by omega) hs) (rowNat_lt _), Nat.xor_comm]
    · rw [if_neg e, if_neg e, Nat.zero_xor]
  | succ d ih =>
    intro k i hi hk
    obtain ⟨k, rfl⟩ : ∃ m, k = m + 1 := ⟨k - 1, by omega⟩
    have hw : wrap64 ((i : Int) + 1) = ((i + 1 : Nat) : Int) := by rw [w64 _ (by omega) (by omega)]; rfl
    simp only [riverbankref10_Of.l0]
    rw [if_pos (by omega), if_pos (by omega), if_pos (by omega), bt_get s i (by omega), rcell_k k (by omega), hw]
    simp only [Option.bind_some]
    have e : Go.bits .xor .u64 (vSum s i : Int) (cellV (s.get! i) (i : Int) : Int) = (vSum s (i + 1) : Int) := by
      rw [bits_xor_u64_nat _ _ (vSum_lt s i (by omega) hs) (cell_V _ _).2.2]
      show _ = ((vSum s i ^^^ vN s i : Nat) : Int)
      rw [vN_cell s i (by omega)]
    rw [e]
    exact ih k (i + 1) (by omega) (by omega)
theorem row_k (k : Nat) (hk : 2000 ≤ k) : riverbankref10_Row.f k 1262 = some rowsL := row_loop 1262 k 0 (by omega) (by omega)
theorem rOf_eq (k : Nat) (hk : 3000 ≤ k) (s : ByteArray) (a b c : Int) : riverbankref10_Of.f k s a b c = key_Of.f s a b c := by
  unfold riverbankref10_Of.f
  rw [rIs_eq k (by omega)]
  rcases board_tf s with h | h
  · rw [h, key_Of_board s a b c h]
    simp only [Option.bind_some, if_true]
    rw [row_k k (by omega)]
    simp only [Option.bind_some]
    have := of_loop s a b c (board_size h) 90 k 0 (by omega) (by omega)
    rw [show ((vSum s 0 : Nat) : Int) = 0 from rfl, show ((0 : Nat) : Int) = 0 from rfl] at this
    exact this
  · rw [h, key_Of_other s a b c h]; rfl
end Go.Proofs.Ytmfbgcimfmgobaa.KeyRef
