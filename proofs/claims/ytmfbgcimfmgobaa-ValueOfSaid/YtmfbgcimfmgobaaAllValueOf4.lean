/- Merged by a program of this session (wip/gprint/merge.py): what this claim needs of this session's texts, each part as it was. -/
import Derived.Test.YtmfbgcimfmgobaaAllValueOf3

-- of YtmfbgcimfmgobaaKeyRef
/- The document's row and numbers, and that they are the program's. -/
namespace Go.Proofs.Ytmfbgcimfmgobaa.KeyRef
open Go.RowKit Go.Proofs.Ytmfbgcimfmgobaa.Print Go.Proofs.Ytmfbgcimfmgobaa.KeyMath Go.Proofs.YtmfbgcimfmgobaaW.PrintWords Go.Proofs.YtmfbgcimfmgobaaW.PrintLast
theorem u8_of (c : Int) (h : (Lit.int .u8 c).wf = true) : ∃ b : UInt8, c = (b.toNat : Int) := by
  have h2 : 0 ≤ c ∧ c ≤ 255 := by
    simp [Lit.wf, IntKind.min, IntKind.max, IntKind.signed, IntKind.bits] at h; omega
  exact ⟨c.toNat.toUInt8, by simp; omega⟩
end Go.Proofs.Ytmfbgcimfmgobaa.KeyRef

-- of YtmfbgcimfmgobaaKeyRefTwo
/- The document's boards and keys, and that they are the program's. -/
namespace Go.Proofs.Ytmfbgcimfmgobaa.KeyRef
open Go.RowKit Go.Proofs.Ytmfbgcimfmgobaa.Print Go.Proofs.Ytmfbgcimfmgobaa.KeyMath Go.Proofs.YtmfbgcimfmgobaaW.PrintWords Go.Proofs.YtmfbgcimfmgobaaW.PrintLast
theorem rside_k (k : Nat) (a : Int) : riverbankref02_Side.f (k + 1) a = riverbankref02_Side.f 1 a := rfl
theorem rside_eq (k : Nat) (b : UInt8) : riverbankref02_Side.f (k + 1) (b.toNat : Int) = board_Side.f (b.toNat : Int) := by
  rw [rside_k]
  have := u8_all (fun b => riverbankref02_Side.f 1 (b.toNat : Int) == board_Side.f (b.toNat : Int)) (by decide +kernel) b
  simpa using this
/-- A byte's side. -/
def sideU (b : UInt8) : Int := (board_Side.f (b.toNat : Int)).getD 0
theorem side_f (b : UInt8) : board_Side.f (b.toNat : Int) = some (sideU b) := by
  have := u8_all (fun b => board_Side.f (b.toNat : Int) == some (sideU b)) (by decide +kernel) b
  simpa using this
theorem side_cell (b : UInt8) : okCell b = (b == 46 || decide (0 ≤ sideU b)) := by
  have := u8_all (fun b => okCell b == (b == 46 || decide (0 ≤ sideU b))) (by decide +kernel) b
  simpa using this
theorem side_range (b : UInt8) : sideU b = -1 ∨ sideU b = 0 ∨ sideU b = 1 := by
  have := u8_all (fun b => sideU b == -1 || (sideU b == 0 || sideU b == 1)) (by decide +kernel) b
  simpa using this
theorem bt_get (s : ByteArray) (i : Nat) (h : i < s.size) : bt s (i : Int) = ((s.get! i).toNat : Int) := by
  unfold bt
  rw [dif_pos (by simpa using h)]
  have e : s.get! i = s.data[i]'h := by
    simp [ByteArray.get!, h]
  rw [e]; rfl
theorem rside_eq' (k : Nat) (hk : 1 ≤ k) (b : UInt8) : riverbankref02_Side.f k (b.toNat : Int) = some (sideU b) := by
  obtain ⟨m, rfl⟩ : ∃ m, k = m + 1 := ⟨k - 1, by omega⟩
  rw [rside_eq, side_f]
theorem eq46 (b : UInt8) : ((b.toNat : Int) = 46) = (b = 46) := by
  apply propext
  constructor
  · intro h; exact UInt8.toNat_inj.mp (by simpa using (by omega : b.toNat = 46))
  · intro h; subst h; rfl
theorem is_loop (s : ByteArray) (hs : s.size = 90) (d : Nat) : ∀ (k i : Nat), i + d = 90 → d + 1 < k → ∃ b, riverbankref02_Is.l0 k s (i : Int) = some b ∧ (b = true ↔ ∀ j, i ≤ j → j < 90 → okCell (s.get! j) = true) := by
  induction d with
  | zero =>
    intro k i hi hk
    obtain ⟨k, rfl⟩ : ∃ m, k = m + 1 := ⟨k - 1, by omega⟩
    refine ⟨true, by simp only [riverbankref02_Is.l0]; rw [if_neg (by omega)], ?_⟩
    simp; intro j h1 h2; omega
  | succ d ih =>
    intro k i hi hk
    obtain ⟨k, rfl⟩ : ∃ m, k = m + 1 := ⟨k - 1, by omega⟩
    obtain ⟨b, hb, hiff⟩ := ih k (i + 1) (by omega) (by omega)
    have hw : wrap64 ((i : Int) + 1) = ((i + 1 : Nat) : Int) := by rw [w64 _ (by omega) (by omega)]; rfl
    simp only [riverbankref02_Is.l0]
    rw [if_pos (by omega), if_pos (by omega), if_pos (by omega), bt_get s i (by omega), rside_eq' k (by omega), hw, hb]
    simp only [Option.bind_some]
    have hc := side_cell (s.get! i)
    by_cases h46 : ((s.get! i).toNat : Int) = 46
    · rw [if_pos h46]
      rw [eq46] at h46
      refine ⟨b, rfl, hiff.trans ⟨fun h j h1 h2 => ?_, fun h j h1 h2 => h j (by omega) h2⟩⟩
      by_cases e : j = i
      · subst e; rw [hc, h46]; rfl
      · exact h j (by omega) h2
    · rw [if_neg h46]
      rw [eq46] at h46
      by_cases h0 : sideU (s.get! i) < 0
      · rw [if_pos h0]
        refine ⟨false, rfl, ⟨fun h => (by cases h), fun h => ?_⟩⟩
        have := h i (Nat.le_refl _) (by omega)
        rw [hc] at this
        simp [h46] at this; omega
      · rw [if_neg h0]
        refine ⟨b, rfl, hiff.trans ⟨fun h j h1 h2 => ?_, fun h j h1 h2 => h j (by omega) h2⟩⟩
        by_cases e : j = i
        · subst e; rw [hc]; simp; right; omega
        · exact h j (by omega) h2
theorem rIs_eq (k : Nat) (hk : 100 ≤ k) (s : ByteArray) : riverbankref02_Is.f k s = board_Is.f s := by
  unfold riverbankref02_Is.f board_Is.f
  by_cases hs : s.size = 90
  · rw [if_pos (by omega)]
    obtain ⟨b, hb, hiff⟩ := is_loop s hs 90 k 0 (by omega) (by omega)
    rw [show ((0 : Nat) : Int) = 0 from rfl] at hb
    rw [hb]
    have h2 := all_okCell s
    rw [hs] at h2
    congr 1
    cases b with
    | true => simp only [hs, decide_true, Bool.true_and]; exact (h2.mpr (fun j hj => (hiff.mp rfl) j (by omega) hj)).symm
    | false =>
      simp only [hs, decide_true, Bool.true_and]
      cases e : s.data.toList.all okCell with
      | false => rfl
      | true => exact absurd (hiff.mpr (fun j _ hj => h2.mp e j hj)) (by simp)
  · rw [if_neg (by omega)]; simp [hs]
theorem board_size {s : ByteArray} (h : board_Is.f s = some true) : s.size = 90 := by
  unfold board_Is.f at h; have := Option.some.inj h; simp at this; exact this.1
theorem board_tf (s : ByteArray) : board_Is.f s = some true ∨ board_Is.f s = some false := by
  unfold board_Is.f
  cases (decide (s.size = 90) && s.data.toList.all okCell) <;> simp

end Go.Proofs.Ytmfbgcimfmgobaa.KeyRef

-- of YtmfbgcimfmgobaaValueMath
/- What pieces are worth, read off all bytes and squares at once; sums over a board. -/
namespace Go.Proofs.Ytmfbgcimfmgobaa.ValueMath
open Go.RowKit Go.Proofs.Ytmfbgcimfmgobaa.Print Go.Proofs.Ytmfbgcimfmgobaa.KeyMath Go.Proofs.Ytmfbgcimfmgobaa.KeyRef Go.Proofs.YtmfbgcimfmgobaaW.PrintWords Go.Proofs.YtmfbgcimfmgobaaW.PrintLast
/-- The piece's worth on a square is the document's, lies between its kind's worth and 50 more, and is nothing for a general and for what is no piece. -/
def pieceOk (c n : Nat) : Bool :=
  match value_Piece.f 200 (c : Int) (n : Int), riverbankref14_Piece.f 200 (c : Int) (n : Int), value_Kind.f (c : Int), board_Kind.f (c : Int) with
  | some a, some b, some k, some d => decide (a = b ∧ 0 ≤ a ∧ a ≤ 250 ∧ (board_Side.f (c : Int) = some (-1) → a = 0) ∧ (board_Side.f (c : Int) ≠ some (-1) → k ≤ a ∧ a ≤ k + 50 ∧ (d = 75 → a = 0)))
  | _, _, _, _ => false
set_option maxRecDepth 100000 in
theorem piece_dec : ((List.range 256).all fun c => (List.range 90).all fun n => pieceOk c n) = true := by decide +kernel
theorem piece_ok (b : UInt8) (n : Nat) (hn : n < 90) : pieceOk b.toNat n = true := by
  have h := List.all_eq_true.mp (List.all_eq_true.mp piece_dec b.toNat (List.mem_range.mpr b.toNat_lt)) n (List.mem_range.mpr hn)
  exact h
def pv (b : UInt8) (n : Int) : Int := (value_Piece.f 200 (b.toNat : Int) n).getD 0
theorem piece_in (b : UInt8) (n : Nat) (hn : n < 90) : value_Piece.f 200 (b.toNat : Int) n = some (pv b n) ∧ riverbankref14_Piece.f 200 (b.toNat : Int) n = some (pv b n) ∧ 0 ≤ pv b n ∧ pv b n ≤ 250 ∧ (sideU b = -1 → pv b n = 0) ∧
    ∃ k d, value_Kind.f (b.toNat : Int) = some k ∧ board_Kind.f (b.toNat : Int) = some d ∧ (sideU b ≠ -1 → k ≤ pv b n ∧ pv b n ≤ k + 50 ∧ (d = 75 → pv b n = 0)) := by
  have h := piece_ok b n hn
  unfold pieceOk at h
  rw [side_f b] at h
  split at h
  · rename_i a c k d h1 h2 h3 h4
    have h := of_decide_eq_true h
    obtain ⟨rfl, h5, h6, h7, h8⟩ := h
    have e : pv b n = a := by unfold pv; rw [h1]; rfl
    rw [e]
    refine ⟨h1, h2, h5, h6, fun hs => h7 (by rw [hs]), k, d, h3, h4, fun hs => h8 (by simpa using hs)⟩
  · cases h
theorem piece_out (k : Nat) (b : UInt8) (n : Int) (hn : n < 0 ∨ 89 < n) : value_Piece.f (k + 1) (b.toNat : Int) n = some 0 ∧ riverbankref14_Piece.f (k + 1) (b.toNat : Int) n = some 0 := by
  have hq : board_isSquare.f n = some false := by
    unfold board_isSquare.f
    split
    · rw [decide_eq_false (by omega)]
    · rfl
  obtain ⟨r, hr⟩ := brank_some n
  have hf : board_File.f n = some (-1) := by unfold board_File.f; rw [hq]; rfl
  constructor
  · unfold value_Piece.f
    rw [side_f, hf, hr]
    simp only [Option.bind_some]
    split <;> simp [value_Piece.j0]
  · unfold riverbankref14_Piece.f
    rw [rside_eq' (k + 1) (by omega)]
    simp only [Option.bind_some]
    split
    · simp [riverbankref14_Piece.j0]
    · split
      · simp [riverbankref14_Piece.j0]
      · rw [decide_eq_true (by omega)]; simp [riverbankref14_Piece.j0]
theorem piece_200 (b : UInt8) (n : Int) : value_Piece.f 200 (b.toNat : Int) n = some (pv b n) ∧ riverbankref14_Piece.f 200 (b.toNat : Int) n = some (pv b n) ∧ 0 ≤ pv b n ∧ pv b n ≤ 250 ∧ (sideU b = -1 → pv b n = 0) := by
  by_cases hn : n < 0 ∨ 89 < n
  · obtain ⟨h1, h2⟩ := piece_out 199 b n hn
    have e : pv b n = 0 := by unfold pv; rw [h1]; rfl
    rw [e]; exact ⟨h1, h2, by omega, by omega, fun _ => rfl⟩
  · obtain ⟨m, rfl⟩ : ∃ m : Nat, n = m := ⟨n.toNat, by omega⟩
    have h := piece_in b m (by omega)
    exact ⟨h.1, h.2.1, h.2.2.1, h.2.2.2.1, h.2.2.2.2.1⟩
theorem piece_k (k : Nat) (h : 200 ≤ k) (b : UInt8) (n : Int) : value_Piece.f k (b.toNat : Int) n = some (pv b n) := by
  obtain ⟨d, rfl⟩ : ∃ d, k = 200 + d := ⟨k - 200, by omega⟩
  induction d with
  | zero => exact (piece_200 b n).1
  | succ d ih => exact value_Piece.mono _ _ _ _ (ih (by omega))
theorem rpiece_k (k : Nat) (h : 200 ≤ k) (b : UInt8) (n : Int) : riverbankref14_Piece.f k (b.toNat : Int) n = some (pv b n) := by
  obtain ⟨d, rfl⟩ : ∃ d, k = 200 + d := ⟨k - 200, by omega⟩
  induction d with
  | zero => exact (piece_200 b n).2.1
  | succ d ih => exact riverbankref14_Piece.mono _ _ _ _ (ih (by omega))
theorem pv_range (b : UInt8) (n : Int) : 0 ≤ pv b n ∧ pv b n ≤ 250 := ⟨(piece_200 b n).2.2.1, (piece_200 b n).2.2.2.1⟩
theorem pv_none (b : UInt8) (n : Int) (h : sideU b = -1) : pv b n = 0 := (piece_200 b n).2.2.2.2 h

/-! ### sums -/
/-- What the first m squares are worth to a side, without wraps. -/
def sSum (s : ByteArray) (side : Int) : Nat → Int
  | 0 => 0
  | n + 1 => sSum s side n + (if sideU (s.get! n) = side then pv (s.get! n) n else 0)
theorem sSum_range (s : ByteArray) (side : Int) (n : Nat) : 0 ≤ sSum s side n ∧ sSum s side n ≤ 250 * n := by
  induction n with
  | zero => exact ⟨Int.le_refl _, Int.le_refl _⟩
  | succ n ih =>
    unfold sSum
    have := pv_range (s.get! n) n
    split <;> omega
theorem wrap_mid {x : Int} (h : -1000000 ≤ x) (h2 : x ≤ 1000000) : wrap64 x = x := by unfold wrap64; omega
theorem sideSum_eq (s : ByteArray) (hs : s.size = 90) (side : Int) (n : Nat) (hn : n ≤ 90) : sideSum s side n = sSum s side n := by
  induction n with
  | zero => rfl
  | succ n ih =>
    unfold sideSum sSum
    have hp : pieceN s n = pv (s.get! n) n := by unfold pieceN pv; rw [bt_get s n (by omega)]
    rw [ih (by omega), hp, bt_get s n (by omega), side_f]
    have := pv_range (s.get! n) n
    have := sSum_range s side n
    by_cases h : sideU (s.get! n) = side
    · rw [if_pos (by rw [h]), if_pos h]; exact wrap_mid (by omega) (by omega)
    · rw [if_neg (by intro e; exact h (Option.some.inj e)), if_neg h]; omega
/-- What a board is worth to the side whose move it is. -/
def ofV (s : ByteArray) (side : Int) : Int := if side = 0 then sSum s 0 90 - sSum s 1 90 else sSum s 1 90 - sSum s 0 90
theorem ofV_range (s : ByteArray) (side : Int) : -22500 ≤ ofV s side ∧ ofV s side ≤ 22500 := by
  have := sSum_range s 0 90
  have := sSum_range s 1 90
  unfold ofV; split <;> omega
theorem of_board (s : ByteArray) (a b c : Int) (h : board_Is.f s = some true) : value_Of.f s a b c = some (ofV s a) := by
  have hs := board_size h
  have := sSum_range s 0 90
  have := sSum_range s 1 90
  unfold value_Of.f
  rw [h, sideSum_eq s hs 0 90 (by omega), sideSum_eq s hs 1 90 (by omega)]
  simp only [Option.bind_some, if_true]
  unfold ofV
  split
  · rw [wrap_mid (by omega) (by omega)]
  · rw [wrap_mid (x := _ - _) (by omega) (by omega), wrap_mid (by omega) (by omega), Int.neg_sub]
theorem of_other (s : ByteArray) (a b c : Int) (h : board_Is.f s = some false) : value_Of.f s a b c = some 0 := by
  unfold value_Of.f; rw [h]; simp only [Option.bind_some]; rw [if_neg (by decide)]
end Go.Proofs.Ytmfbgcimfmgobaa.ValueMath

-- of YtmfbgcimfmgobaaValueMathTwo
/- The document's worth of a board; boards turned round. -/
namespace Go.Proofs.Ytmfbgcimfmgobaa.ValueMath
open Go.RowKit Go.Proofs.Ytmfbgcimfmgobaa.Print Go.Proofs.Ytmfbgcimfmgobaa.KeyRef Go.Proofs.YtmfbgcimfmgobaaW.PrintWords Go.Proofs.YtmfbgcimfmgobaaW.PrintLast
def dV (s : ByteArray) (a : Int) (n : Nat) : Int := if a = 0 then sSum s 0 n - sSum s 1 n else sSum s 1 n - sSum s 0 n
theorem dV_range (s : ByteArray) (a : Int) (n : Nat) (hn : n ≤ 90) : -22500 ≤ dV s a n ∧ dV s a n ≤ 22500 := by
  have := sSum_range s 0 n
  have := sSum_range s 1 n
  unfold dV; split <;> omega
theorem sSum_succ (s : ByteArray) (side : Int) (n : Nat) : sSum s side (n + 1) = sSum s side n + (if sideU (s.get! n) = side then pv (s.get! n) n else 0) := rfl
theorem dV_step (s : ByteArray) (a : Int) (n : Nat) : dV s a (n + 1) = if ((sideU (s.get! n) == 0) == (a == 0)) = true then dV s a n + pv (s.get! n) n else dV s a n - pv (s.get! n) n := by
  unfold dV
  rw [sSum_succ, sSum_succ]
  by_cases ha : a = 0
  · subst ha
    rcases side_range (s.get! n) with h | h | h
    · rw [h, pv_none _ _ h]; simp
    · rw [h]; simp; omega
    · rw [h]; simp; omega
  · have ha' : (a == 0) = false := by simp [ha]
    rw [if_neg ha, if_neg ha, ha']
    rcases side_range (s.get! n) with h | h | h
    · rw [h, pv_none _ _ h]; simp
    · rw [h]; simp; omega
    · rw [h]; simp; omega
theorem of14_loop (s : ByteArray) (a b c : Int) (hs : s.size = 90) (d : Nat) : ∀ (k i : Nat), i + d = 90 → d + 200 < k → riverbankref14_Of.l0 k (dV s a i) (i : Int) s a b c = some (dV s a 90) := by
  induction d with
  | zero =>
    intro k i hi hk
    obtain ⟨k, rfl⟩ : ∃ m, k = m + 1 := ⟨k - 1, by omega⟩
    obtain rfl : i = 90 := by omega
    unfold riverbankref14_Of.l0
    rw [if_neg (by omega)]
  | succ d ih =>
    intro k i hi hk
    obtain ⟨k, rfl⟩ : ∃ m, k = m + 1 := ⟨k - 1, by omega⟩
    unfold riverbankref14_Of.l0
    rw [if_pos (by omega), if_pos (by omega), if_pos (by omega), bt_get s i (by omega), rside_eq' k (by omega)]
    simp only [Option.bind_some]
    rw [rpiece_k k (by omega)]
    simp only [Option.bind_some]
    have hi1 : wrap64 ((i : Int) + 1) = ((i + 1 : Nat) : Int) := by rw [wrap_mid (by omega) (by omega)]; omega
    have hr := dV_range s a i (by omega)
    have hp := pv_range (s.get! i) i
    rw [hi1, wrap_mid (by omega) (by omega), wrap_mid (by omega) (by omega)]
    have hd := dV_step s a i
    have e := ih k (i + 1) (by omega) (by omega)
    split
    · rename_i h; rw [if_pos h] at hd; rw [← hd]; exact e
    · rename_i h; rw [if_neg h] at hd; rw [← hd]; exact e
theorem of14_board (k : Nat) (hk : 300 ≤ k) (s : ByteArray) (a b c : Int) (h : board_Is.f s = some true) : riverbankref14_Of.f k s a b c = some (ofV s a) := by
  have hs := board_size h
  unfold riverbankref14_Of.f
  rw [rIs_eq k (by omega), h]
  simp only [Option.bind_some, if_true]
  have e := of14_loop s a b c hs 90 k 0 (by omega) (by omega)
  have z : dV s a 0 = 0 := by unfold dV sSum; split <;> rfl
  rw [z] at e
  exact e
theorem of14_other (k : Nat) (hk : 300 ≤ k) (s : ByteArray) (a b c : Int) (h : board_Is.f s = some false) : riverbankref14_Of.f k s a b c = some 0 := by
  unfold riverbankref14_Of.f
  rw [rIs_eq k (by omega), h]
  simp only [Option.bind_some]
  rw [if_neg (by decide)]

end Go.Proofs.Ytmfbgcimfmgobaa.ValueMath

-- of YtmfbgcimfmgobaaPureValueOf
/- For every position of at most 200 bytes, and every piece, move and taken byte: the position's worth and the worth behind the move are the document's; no condition. -/
namespace Go.Proofs.Ytmfbgcimfmgobaa.Pure
open Go.RowKit Go.Proofs.Ytmfbgcimfmgobaa.Print Go.Proofs.Ytmfbgcimfmgobaa.KeyRef Go.Proofs.Ytmfbgcimfmgobaa.ValueMath Go.Proofs.YtmfbgcimfmgobaaW.PrintWords Go.Proofs.YtmfbgcimfmgobaaW.PrintLast
theorem ValueOf (s : ByteArray) (a b c : Int) (d : Int) (f g : Int) (t : Int) (_ : (Lit.int .i64 a).wf = true) (_ : (Lit.int .i64 b).wf = true) (_ : (Lit.int .i64 c).wf = true) (hd : (Lit.int .u8 d).wf = true) (_ : (Lit.int .i64 f).wf = true) (_ : (Lit.int .i64 g).wf = true) (ht : (Lit.int .u8 t).wf = true) : ∃ k, riverbanklaw14_ValueOf.f k s a b c d f g t = some true := by
  refine ⟨300, ?_⟩
  obtain ⟨d, rfl⟩ := u8_of d hd
  obtain ⟨t, rfl⟩ := u8_of t ht
  unfold riverbanklaw14_ValueOf.f
  by_cases h : (s.size : Int) > 200
  · rw [if_pos h]; rfl
  · rw [if_neg h]
    obtain ⟨v, h1, h2, h3, h4⟩ : ∃ v, value_Of.f s a b c = some v ∧ riverbankref14_Of.f 300 s a b c = some v ∧ -22500 ≤ v ∧ v ≤ 22500 := by
      rcases board_tf s with hb | hb
      · exact ⟨_, of_board s a b c hb, of14_board 300 (by omega) s a b c hb, ofV_range s a⟩
      · exact ⟨0, of_other s a b c hb, of14_other 300 (by omega) s a b c hb, by omega, by omega⟩
    rw [h1, h2]
    simp only [Option.bind_some, if_true]
    unfold value_Moved.f riverbankref14_Moved.f
    rw [piece_k 300 (by omega), piece_k 300 (by omega), piece_k 300 (by omega), rpiece_k 300 (by omega), rpiece_k 300 (by omega), rpiece_k 300 (by omega)]
    simp only [Option.bind_some]
    have p1 := pv_range d f
    have p2 := pv_range d g
    have p3 := pv_range t g
    have e1 : wrap64 ((wrap64 ((wrap64 (pv d f - pv d g)) - pv t g)) - v) = pv d f - pv d g - pv t g - v := by
      rw [wrap_mid (x := pv d f - pv d g) (by omega) (by omega), wrap_mid (x := pv d f - pv d g - pv t g) (by omega) (by omega), wrap_mid (by omega) (by omega)]
    have e2 : wrap64 (-(wrap64 ((wrap64 ((wrap64 (v - pv d f)) + pv d g)) + pv t g))) = pv d f - pv d g - pv t g - v := by
      rw [wrap_mid (x := v - pv d f) (by omega) (by omega), wrap_mid (x := v - pv d f + pv d g) (by omega) (by omega), wrap_mid (x := v - pv d f + pv d g + pv t g) (by omega) (by omega), wrap_mid (by omega) (by omega)]; omega
    rw [e1, e2, if_pos rfl]; rfl
end Go.Proofs.Ytmfbgcimfmgobaa.Pure
