/- Merged by a program of this session (wip/gprint/merge.py): what this claim needs of this session's texts, each part as it was. -/
import Derived.Test.YtmfbgcimfmgobaaAllValueTurn2

-- of YtmfbgcimfmgobaaValueMathTwo
/- The document's worth of a board; boards turned round. -/
namespace Go.Proofs.Ytmfbgcimfmgobaa.ValueMath
open Go.RowKit Go.Proofs.Ytmfbgcimfmgobaa.Print Go.Proofs.Ytmfbgcimfmgobaa.KeyRef Go.Proofs.YtmfbgcimfmgobaaW.PrintWords Go.Proofs.YtmfbgcimfmgobaaW.PrintLast
theorem flip_ref (b : UInt8) (h : sideU b ≥ 0) : ∃ t, riverbankref02_Kind.f 1 (b.toNat : Int) = some t ∧ riverbankref02_Of.f t (wrap64 (1 - sideU b)) = some ((flipU b).toNat : Int) := by
  have := u8_all (fun b => !decide (sideU b ≥ 0) || (match riverbankref02_Kind.f 1 (b.toNat : Int) with | some t => riverbankref02_Of.f t (wrap64 (1 - sideU b)) == some ((flipU b).toNat : Int) | none => false)) (by decide +kernel) b
  simp [h] at this
  split at this
  · rename_i t ht; exact ⟨t, ht, by simpa using this⟩
  · cases this
theorem rkind_k (k : Nat) (hk : 1 ≤ k) (b : UInt8) : riverbankref02_Kind.f k (b.toNat : Int) = riverbankref02_Kind.f 1 (b.toNat : Int) := by
  unfold riverbankref02_Kind.f; rw [rside_eq' k hk, rside_eq' 1 (by omega)]
set_option maxRecDepth 100000 in
theorem flip_dec : ((List.range 256).all fun c => (List.range 90).all fun n => decide (value_Piece.f 200 ((flipU (UInt8.ofNat c)).toNat : Int) (n : Int) = value_Piece.f 200 (c : Int) ((89 - n : Nat) : Int))) = true := by decide +kernel
theorem flip_pv (b : UInt8) (n : Nat) (hn : n < 90) : pv (flipU b) n = pv b ((89 - n : Nat) : Int) := by
  have h := of_decide_eq_true (List.all_eq_true.mp (List.all_eq_true.mp flip_dec b.toNat (List.mem_range.mpr b.toNat_lt)) n (List.mem_range.mpr hn))
  rw [UInt8.ofNat_toNat] at h
  unfold pv; rw [h]
/-- The first n squares of a board turned round. -/
def turnN (s : ByteArray) (n : Nat) : ByteArray := ⟨((List.range n).map fun j => flipU (s.get! (89 - j))).toArray⟩
theorem turnN_size (s : ByteArray) (n : Nat) : (turnN s n).size = n := by show (List.toArray _).size = n; simp
theorem turnN_get (s : ByteArray) (n j : Nat) (h : j < n) : (turnN s n).get! j = flipU (s.get! (89 - j)) := by
  rw [get_list _ _ (by rw [turnN_size]; exact h)]
  simp [turnN]
theorem turnN_step (s : ByteArray) (n : Nat) (c : UInt8) (h : c = flipU (s.get! (89 - n))) : turnN s n ++ strOfNums [(c.toNat : Int)] = turnN s (n + 1) := by
  subst h
  apply ByteArray.ext
  apply Array.toList_inj.mp
  simp [turnN, strOfNums, ByteArray.data_append, List.range_succ]
theorem turn_loop (s : ByteArray) (hs : s.size = 90) (d : Nat) : ∀ (k i : Nat), i + d = 90 → d + 2 < k → riverbankref02_Turn.l0 k s (turnN s i) (89 - (i : Int)) = some (turnN s 90) := by
  induction d with
  | zero =>
    intro k i hi hk
    obtain ⟨k, rfl⟩ : ∃ m, k = m + 1 := ⟨k - 1, by omega⟩
    obtain rfl : i = 90 := by omega
    unfold riverbankref02_Turn.l0
    rw [if_neg (by omega)]
  | succ d ih =>
    intro k i hi hk
    obtain ⟨k, rfl⟩ : ∃ m, k = m + 1 := ⟨k - 1, by omega⟩
    unfold riverbankref02_Turn.l0
    have e89 : (89 : Int) - (i : Int) = ((89 - i : Nat) : Int) := by omega
    rw [if_pos (by omega), if_pos (by omega), if_pos (by omega), e89, bt_get s (89 - i) (by omega), rside_eq' k (by omega)]
    simp only [Option.bind_some]
    have hi1 : wrap64 (((89 - i : Nat) : Int) - 1) = 89 - ((i + 1 : Nat) : Int) := by rw [wrap_mid (by omega) (by omega)]; omega
    have e := ih k (i + 1) (by omega) (by omega)
    by_cases h : sideU (s.get! (89 - i)) ≥ 0
    · obtain ⟨t, h1, h2⟩ := flip_ref _ h
      rw [if_pos h, rkind_k k (by omega), h1]
      simp only [Option.bind_some]
      rw [h2]
      simp only [Option.bind_some]
      rw [if_pos (by rw [turnN_size, strOfNums_size]; simp; omega), turnN_step s i _ rfl, hi1]
      exact e
    · rw [if_neg h]
      rw [if_pos (by rw [turnN_size, strOfNums_size]; simp; omega), turnN_step s i _ (by unfold flipU; rw [if_neg (by omega), if_neg (by omega)]), hi1]
      exact e
theorem turn_board (k : Nat) (hk : 100 ≤ k) (s : ByteArray) (h : board_Is.f s = some true) : riverbankref02_Turn.f k s = some (turnN s 90) := by
  unfold riverbankref02_Turn.f
  rw [rIs_eq k hk, h]
  simp only [Option.bind_some, if_true]
  exact turn_loop s (board_size h) 90 k 0 (by omega) (by omega)
theorem turnN_board (s : ByteArray) (h : board_Is.f s = some true) : board_Is.f (turnN s 90) = some true := by
  have h2 := (all_okCell (turnN s 90)).mpr (fun j hj => by
    rw [turnN_size] at hj
    rw [turnN_get s 90 j hj]
    exact flip_cell _ (board_cell h (89 - j) (by omega)))
  unfold board_Is.f
  rw [h2, turnN_size]; rfl
theorem sSum_turn (s : ByteArray) (side : Int) (h01 : side = 0 ∨ side = 1) (n : Nat) (hn : n ≤ 90) : sSum (turnN s 90) side n + sSum s (1 - side) (90 - n) = sSum s (1 - side) 90 := by
  induction n with
  | zero => exact Int.zero_add _
  | succ n ih =>
    have ih := ih (by omega)
    have e : 90 - n = (90 - (n + 1)) + 1 := by omega
    rw [e] at ih
    have e2 : 90 - (n + 1) = 89 - n := by omega
    rw [e2] at ih ⊢
    rw [sSum_succ] at ih
    rw [sSum_succ, turnN_get s 90 n (by omega), flip_side, flip_pv _ n (by omega)]
    have hiff : ((if sideU (s.get! (89 - n)) = -1 then (-1 : Int) else 1 - sideU (s.get! (89 - n))) = side) ↔ sideU (s.get! (89 - n)) = 1 - side := by
      rcases side_range (s.get! (89 - n)) with h | h | h <;> rw [h] <;> rcases h01 with rfl | rfl <;> decide
    by_cases hc : sideU (s.get! (89 - n)) = 1 - side
    · rw [if_pos hc] at ih; rw [if_pos (hiff.mpr hc)]; omega
    · rw [if_neg hc] at ih; rw [if_neg (fun x => hc (hiff.mp x))]; omega
theorem ofV_turn (s : ByteArray) (a : Int) (h : a = 0 ∨ a = 1) : ofV (turnN s 90) (1 - a) = ofV s a := by
  have h0 := sSum_turn s 0 (.inl rfl) 90 (Nat.le_refl _)
  have h1 := sSum_turn s 1 (.inr rfl) 90 (Nat.le_refl _)
  have z0 : sSum s (1 - 0) (90 - 90) = 0 := rfl
  have z1 : sSum s (1 - 1) (90 - 90) = 0 := rfl
  rw [z0] at h0
  rw [z1] at h1
  have e0 : ((1 : Int) - 0) = 1 := rfl
  have e1 : ((1 : Int) - 1) = 0 := rfl
  rw [e0] at h0
  rw [e1] at h1
  unfold ofV
  rcases h with rfl | rfl
  · rw [if_neg (by decide), if_pos rfl]; omega
  · rw [if_pos (by decide), if_neg (by decide)]; omega
end Go.Proofs.Ytmfbgcimfmgobaa.ValueMath

-- of YtmfbgcimfmgobaaPureValueTurn
/- For every board with side 0 or 1: turned round it is worth the same, and with the other side to move as much less; at other inputs the examples of live() hold; no condition. -/
namespace Go.Proofs.Ytmfbgcimfmgobaa.Pure
open Go.RowKit Go.Proofs.Ytmfbgcimfmgobaa.Print Go.Proofs.Ytmfbgcimfmgobaa.KeyRef Go.Proofs.Ytmfbgcimfmgobaa.ValueMath Go.Proofs.YtmfbgcimfmgobaaW.PrintWords Go.Proofs.YtmfbgcimfmgobaaW.PrintLast
theorem ValueTurn (s : ByteArray) (a b c : Int) (_ : (Lit.int .i64 a).wf = true) (_ : (Lit.int .i64 b).wf = true) (_ : (Lit.int .i64 c).wf = true) : ∃ k, riverbanklaw14_ValueTurn.f k s a b c = some true := by
  refine ⟨301, ?_⟩
  have live : ∀ s a b c, riverbanklaw14_ValueTurn.j0 301 true s a b c = some true := by
    intro s a b c; simp [riverbanklaw14_ValueTurn.j0, riverbanklaw14_live.f]
  unfold riverbanklaw14_ValueTurn.f
  by_cases h : (s.size : Int) > 200
  · rw [if_pos h]; exact live _ _ _ _
  · rw [if_neg h]
    rcases board_tf s with hb | hb
    · rw [hb]
      simp only [Option.bind_some, if_true]
      by_cases ha : a < 0
      · rw [if_pos ha]; exact live _ _ _ _
      · rw [if_neg ha]
        by_cases ha1 : a > 1
        · rw [decide_eq_true ha1]; exact live _ _ _ _
        · rw [decide_eq_false ha1]
          have hw : wrap64 (1 - a) = 1 - a := wrap_mid (by omega) (by omega)
          simp only [riverbanklaw14_ValueTurn.j0, riverbankref03_Turn.f]
          rw [if_neg (by decide), turn_board 300 (by omega) s hb]
          simp only [Option.bind_some]
          rw [of_board _ _ _ _ (turnN_board s hb), of_board s a b c hb, hw, of_board s (1 - a) b c hb]
          simp only [Option.bind_some]
          have hr := ofV_range s a
          have ho : ofV s (1 - a) = - ofV s a := by
            unfold ofV
            rcases (by omega : a = 0 ∨ a = 1) with rfl | rfl
            · rw [if_neg (by decide), if_pos rfl]; omega
            · rw [if_pos (by decide), if_neg (by decide)]; omega
          rw [ofV_turn s a (by omega), if_pos rfl, wrap_mid (by omega) (by omega), ho, if_pos rfl]; rfl
    · rw [hb]
      simp only [Option.bind_some]
      rw [if_neg (by decide)]; exact live _ _ _ _
end Go.Proofs.Ytmfbgcimfmgobaa.Pure
