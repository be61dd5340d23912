/- The numbers of positions, as natural numbers: the row, the key as a sum of what is wanted, both by the program's text and by the document's. -/
import Derived.Test.YtmfbgcimfmgobaaPrint7
import Derived.Test.YtmfbgcimfmgobaaPrint5
import Derived.Laws.Bits64
namespace Go.Proofs.Ytmfbgcimfmgobaa.KeyMath
open Go.RowKit Go.Proofs.Ytmfbgcimfmgobaa.Print Go.Proofs.YtmfbgcimfmgobaaW.PrintWords Go.Proofs.YtmfbgcimfmgobaaW.PrintLast

def nxt (x : Nat) : Nat :=
  let y := x ^^^ (x * 8192 % 18446744073709551616)
  let z := y ^^^ (y / 128)
  z ^^^ (z * 131072 % 18446744073709551616)
def rowNat : Nat → Nat
  | 0 => 7640891576956012809
  | n + 1 => nxt (rowNat n)
theorem xor_lt {a b : Nat} (ha : a < 18446744073709551616) (hb : b < 18446744073709551616) : a ^^^ b < 18446744073709551616 := Nat.xor_lt_two_pow (n := 64) ha hb
theorem nxt_lt (x : Nat) (hx : x < 18446744073709551616) : nxt x < 18446744073709551616 := by
  unfold nxt
  have h1 : x ^^^ (x * 8192 % 18446744073709551616) < 18446744073709551616 := xor_lt hx (Nat.mod_lt _ (by decide))
  have h2 := xor_lt h1 (show (x ^^^ (x * 8192 % 18446744073709551616)) / 128 < 18446744073709551616 by omega)
  exact xor_lt h2 (Nat.mod_lt _ (by decide))
theorem rowNat_lt (n : Nat) : rowNat n < 18446744073709551616 := by
  induction n with
  | zero => decide
  | succ n ih => exact nxt_lt _ ih
theorem wrap_mul (x c : Nat) : IntKind.u64.wrap ((x : Int) * (c : Int)) = ((x * c % 18446744073709551616 : Nat) : Int) := by
  rw [IntKind.wrap_u64]; omega
theorem nextN_nat (x : Nat) (hx : x < 18446744073709551616) : nextN (x : Int) = (nxt x : Int) := by
  have h1 : x ^^^ (x * 8192 % 18446744073709551616) < 18446744073709551616 := xor_lt hx (Nat.mod_lt _ (by decide))
  have h2 := xor_lt h1 (show (x ^^^ (x * 8192 % 18446744073709551616)) / 128 < 18446744073709551616 by omega)
  unfold nextN key_Next.f nxt
  simp only [Option.getD_some]
  have e1 : Go.bits .xor .u64 (x : Int) (IntKind.u64.wrap ((x : Int) * 8192)) = ((x ^^^ (x * 8192 % 18446744073709551616) : Nat) : Int) := by
    rw [show (8192 : Int) = ((8192 : Nat) : Int) from rfl, wrap_mul, bits_xor_u64_nat _ _ hx (Nat.mod_lt _ (by decide))]
  rw [e1]
  obtain ⟨y, hy⟩ : ∃ y, y = x ^^^ (x * 8192 % 18446744073709551616) := ⟨_, rfl⟩
  rw [← hy] at h1 h2 ⊢
  have e2 : Go.bits .xor .u64 (y : Int) ((y : Int) / 128) = ((y ^^^ (y / 128) : Nat) : Int) := by
    rw [show (y : Int) / 128 = ((y / 128 : Nat) : Int) by omega, bits_xor_u64_nat _ _ h1 (by omega)]
  rw [e2]
  obtain ⟨z, hz⟩ : ∃ z, z = y ^^^ (y / 128) := ⟨_, rfl⟩
  rw [← hz] at h2 ⊢
  rw [show (131072 : Int) = ((131072 : Nat) : Int) from rfl, wrap_mul, bits_xor_u64_nat _ _ h2 (Nat.mod_lt _ (by decide))]
theorem rowN_nat (n : Nat) : rowN n = (rowNat n : Int) := by
  induction n with
  | zero => rfl
  | succ n ih => unfold rowN rowNat; rw [ih, nextN_nat _ (rowNat_lt n)]

/-! No two numbers of the row are one; none is 0. -/
def okGo (M : Nat) : Nat → Nat → Nat → Bool
  | 0, _, _ => true
  | n + 1, x, acc => if acc.testBit (x % M) then false else okGo M n (nxt x) (acc ||| (1 <<< (x % M)))
def itN : Nat → Nat → Nat
  | 0, x => x
  | n + 1, x => itN n (nxt x)
theorem okGo_free (M : Nat) : ∀ n x acc, okGo M n x acc = true → ∀ i, i < n → acc.testBit (itN i x % M) = false := by
  intro n
  induction n with
  | zero => intro x acc _ i hi; omega
  | succ n ih =>
    intro x acc h i hi
    unfold okGo at h
    split at h
    · cases h
    · rename_i hf
      cases i with
      | zero => simpa [itN] using hf
      | succ i =>
        have := ih _ _ h i (by omega)
        rw [Nat.testBit_or] at this
        simp only [Bool.or_eq_false_iff] at this
        exact this.1
theorem okGo_apart (M : Nat) : ∀ n x acc, okGo M n x acc = true → ∀ i j, i < j → j < n → itN i x % M ≠ itN j x % M := by
  intro n
  induction n with
  | zero => intro x acc _ i j _ hj; omega
  | succ n ih =>
    intro x acc h i j hij hj
    unfold okGo at h
    split at h
    · cases h
    · cases i with
      | zero =>
        cases j with
        | zero => omega
        | succ j =>
          have := okGo_free M n _ _ h j (by omega)
          rw [Nat.testBit_or, Bool.or_eq_false_iff] at this
          intro e
          have e2 : itN (j + 1) x = itN j (nxt x) := rfl
          have e3 : itN 0 x = x := rfl
          rw [e2, e3] at e
          rw [← e] at this
          simp [Nat.testBit_shiftLeft] at this
      | succ i =>
        cases j with
        | zero => omega
        | succ j => exact ih _ _ h i j (by omega) (by omega)
theorem itN_row (n m : Nat) : itN n (rowNat m) = rowNat (m + n) := by
  induction n generalizing m with
  | zero => rfl
  | succ n ih =>
    have e : itN (n + 1) (rowNat m) = itN n (rowNat (m + 1)) := rfl
    rw [e, ih]; congr 1; omega
theorem rows_ok : okGo 79016 1262 7640891576956012809 0 = true := by decide +kernel
theorem row_apart {i j : Nat} (hi : i < 1262) (hj : j < 1262) (h : rowNat i = rowNat j) : i = j := by
  have key : ∀ i j, i < j → j < 1262 → rowNat i ≠ rowNat j := fun i j hij hj e => by
    have := okGo_apart 79016 1262 (rowNat 0) 0 rows_ok i j hij hj
    rw [itN_row, itN_row, Nat.zero_add, Nat.zero_add, e] at this
    exact this rfl
  rcases Nat.lt_trichotomy i j with h1 | h1 | h1
  · exact absurd h (key i j h1 hj)
  · exact h1
  · exact absurd h.symm (key j i h1 hi)
def noZero : Nat → Nat → Bool
  | 0, _ => true
  | n + 1, x => if x == 0 then false else noZero n (nxt x)
theorem noZero_row : ∀ n m, noZero n (rowNat m) = true → ∀ i, i < n → rowNat (m + i) ≠ 0 := by
  intro n
  induction n with
  | zero => intro m _ i hi; omega
  | succ n ih =>
    intro m h i hi
    unfold noZero at h
    split at h
    · cases h
    · rename_i hz
      cases i with
      | zero => simpa using hz
      | succ i =>
        have := ih (m + 1) h i (by omega)
        rwa [show m + 1 + i = m + (i + 1) by omega] at this
theorem rows_nz : noZero 1262 7640891576956012809 = true := by decide +kernel
theorem row_nz {i : Nat} (hi : i < 1262) : rowNat i ≠ 0 := by
  have := noZero_row 1262 0 rows_nz i hi
  rwa [Nat.zero_add] at this

/-! The sum of what is wanted. -/
def X (W : Nat → Bool) : Nat → Nat
  | 0 => 0
  | m + 1 => X W m ^^^ (if W m = true then rowNat m else 0)
theorem X_lt (W : Nat → Bool) (m : Nat) : X W m < 18446744073709551616 := by
  induction m with
  | zero => unfold X; omega
  | succ m ih =>
    unfold X
    refine xor_lt ih ?_
    split
    · exact rowNat_lt m
    · decide
theorem X_congr {W W' : Nat → Bool} (m : Nat) (h : ∀ i, i < m → W i = W' i) : X W m = X W' m := by
  induction m with
  | zero => rfl
  | succ m ih => unfold X; rw [ih (fun i hi => h i (by omega)), h m (by omega)]
theorem xor_swap (a b c : Nat) : a ^^^ b ^^^ c = a ^^^ c ^^^ b := by rw [Nat.xor_assoc, Nat.xor_comm b c, ← Nat.xor_assoc]
theorem X_more {W W' : Nat → Bool} (a : Nat) (ha : W a = false) (h : ∀ i, W' i = (W i || decide (i = a))) (m : Nat) (hm : a < m) : X W' m = X W m ^^^ rowNat a := by
  induction m with
  | zero => omega
  | succ m ih =>
    unfold X
    by_cases e : m = a
    · subst e
      rw [X_congr (W := W') (W' := W) m (fun i hi => by rw [h i]; simp; omega), h m, ha]
      simp
    · rw [ih (by omega), h m]
      have e2 : decide (m = a) = false := by simpa using e
      rw [e2, Bool.or_false, xor_swap]
theorem keyFold_X (s : ByteArray) (side : Int) (m : Nat) : keyFold s side m = (X (wantedN s side 90) m : Int) := by
  induction m with
  | zero => rfl
  | succ m ih =>
    unfold keyFold X
    split
    · rw [ih, rowN_nat, bits_xor_u64_nat _ _ (X_lt _ _) (rowNat_lt m)]
    · rw [ih, Nat.xor_zero]
/-- What the piece on square j counts. -/
def vN (s : ByteArray) (j : Nat) : Nat := if 0 < placeN s j then rowNat (placeN s j).toNat else 0
def vSum (s : ByteArray) : Nat → Nat
  | 0 => 0
  | n + 1 => vSum s n ^^^ vN s n
def turnV (side : Int) : Nat := if side = 1 then rowNat 1261 else 0
theorem place_mod (c : Int) (n : Nat) (hn : n < 90) (a : Int) (h : key_place.f c n = some a) (ha : 0 < a) : a % 90 = (n + 1) % 90 ∧ a ≤ 1260 := by
  have h1 := idx_lt [75, 65, 66, 78, 82, 67, 80, 107, 97, 98, 110, 114, 99, 112] c.toNat.toUInt8
  have h2 := Lib.indexByte_ge [75, 65, 66, 78, 82, 67, 80, 107, 97, 98, 110, 114, 99, 112] c.toNat.toUInt8
  unfold key_place.f strings_IndexByte.f board_File.f board_isSquare.f at h
  obtain ⟨t, ht⟩ : ∃ t, t = Lib.indexByte [75, 65, 66, 78, 82, 67, 80, 107, 97, 98, 110, 114, 99, 112] c.toNat.toUInt8 := ⟨_, rfl⟩
  rw [← ht] at h1 h2
  simp only [List.length_cons, List.length_nil] at h1
  simp only [← ht, Option.bind_some] at h
  clear ht
  by_cases e : t < 0
  · rw [if_pos e] at h; cases h; omega
  · rw [if_neg e, if_pos (by omega)] at h
    simp only [Option.bind_some, show (n : Int) < 90 by omega, decide_true, if_true] at h
    rw [if_neg (by have := Int.tmod_nonneg (a := (n : Int)) 9 (by omega); omega)] at h
    rw [w64 (90 * t) (by omega) (by omega), w64 (1 + 90 * t) (by omega) (by omega), w64 (1 + 90 * t + n) (by omega) (by omega)] at h
    have := Option.some.inj h
    omega
theorem wanted_fresh (s : ByteArray) (side : Int) (n : Nat) (hn : n < 90) (hp : 0 < placeN s n) : ∀ m, m ≤ n → wantedN s side m (placeN s n).toNat = false := by
  intro m hm
  obtain ⟨hpn, h0, h1⟩ := placeN_is s n hn
  obtain ⟨q1, q2⟩ := place_mod _ n hn _ hpn hp
  induction m with
  | zero => simp [wantedN]; omega
  | succ m ih =>
    unfold wantedN
    rw [ih (by omega), Bool.false_or]
    by_cases hq : 0 < placeN s m
    · obtain ⟨hpm, _, _⟩ := placeN_is s m (by omega)
      obtain ⟨r1, r2⟩ := place_mod _ m (by omega) _ hpm hq
      have : placeN s m ≠ ((placeN s n).toNat : Int) := by omega
      rw [show decide (placeN s m = ((placeN s n).toNat : Int)) = false from decide_eq_false this, Bool.and_false]
    · rw [show decide (0 < placeN s m) = false from decide_eq_false hq, Bool.false_and]
theorem X_wanted (s : ByteArray) (side : Int) : ∀ n, n ≤ 90 → X (wantedN s side n) 1262 = turnV side ^^^ vSum s n := by
  intro n
  induction n with
  | zero =>
    intro _
    have h0 : X (fun _ => false) 1262 = 0 := by
      have : ∀ m, X (fun _ => false) m = 0 := by
        intro m; induction m with
        | zero => rfl
        | succ m ih => unfold X; rw [ih]; simp
      exact this 1262
    unfold turnV vSum
    rw [Nat.xor_zero]
    by_cases e : side = 1
    · rw [if_pos e, X_more (W := fun _ => false) 1261 rfl (fun i => by simp [wantedN, e]) 1262 (by omega), h0, Nat.zero_xor]
    · rw [if_neg e]
      refine Eq.trans ?_ h0
      exact X_congr 1262 (fun i _ => by
        have : wantedN s side 0 i = (decide (i = 1261) && (side == 1)) := rfl
        rw [this]; simp [e])
  | succ n ih =>
    intro hn
    have ihn := ih (by omega)
    unfold vSum vN
    by_cases hp : 0 < placeN s n
    · obtain ⟨hpn, h0, h1⟩ := placeN_is s n (by omega)
      rw [if_pos hp, X_more (W := wantedN s side n) (placeN s n).toNat (wanted_fresh s side n (by omega) hp n (Nat.le_refl _)) (fun i => ?_) 1262 (by omega), ihn, Nat.xor_assoc]
      have e1 : wantedN s side (n + 1) i = (wantedN s side n i || (decide (0 < placeN s n) && decide (placeN s n = (i : Int)))) := rfl
      rw [e1, show decide (0 < placeN s n) = true from decide_eq_true hp, Bool.true_and]
      congr 1
      exact decide_eq_decide.mpr ⟨fun h => by omega, fun h => by omega⟩
    · rw [if_neg hp, Nat.xor_zero, ← ihn]
      exact X_congr 1262 (fun i _ => by
        have : wantedN s side (n + 1) i = (wantedN s side n i || (decide (0 < placeN s n) && decide (placeN s n = (i : Int)))) := rfl
        rw [this, show decide (0 < placeN s n) = false from decide_eq_false hp, Bool.false_and, Bool.or_false])
/-- The key of a board. -/
def keyV (s : ByteArray) (side : Int) : Nat := turnV side ^^^ vSum s 90
theorem keyV_lt (s : ByteArray) (side : Int) : keyV s side < 18446744073709551616 := by
  unfold keyV; rw [← X_wanted s side 90 (Nat.le_refl _)]; exact X_lt _ _
theorem keyFold_V (s : ByteArray) (side : Int) : keyFold s side 1262 = (keyV s side : Int) := by
  rw [keyFold_X, X_wanted s side 90 (Nat.le_refl _)]; rfl
theorem key_Of_board (s : ByteArray) (a b c : Int) (h : board_Is.f s = some true) : key_Of.f s a b c = some (keyV s a : Int) := by
  unfold key_Of.f; rw [h]; simp [keyFold_V]
theorem key_Of_other (s : ByteArray) (a b c : Int) (h : board_Is.f s = some false) : key_Of.f s a b c = some 0 := by
  unfold key_Of.f; rw [h]; rfl
theorem turn_f : key_Turn.f = some (rowNat 1261 : Int) := by
  unfold key_Turn.f key_number.f
  rw [if_pos (by decide)]
  show some (rowN 1261) = _
  rw [rowN_nat]
theorem key_sides (s : ByteArray) : Go.bits .xor .u64 (keyV s 0 : Int) (keyV s 1 : Int) = (rowNat 1261 : Int) := by
  rw [bits_xor_u64_nat _ _ (keyV_lt _ _) (keyV_lt _ _)]
  unfold keyV turnV
  rw [if_neg (by decide), if_pos rfl, Nat.zero_xor, Nat.xor_comm (rowNat 1261), ← Nat.xor_assoc, Nat.xor_self, Nat.zero_xor]
theorem cell_f (c : Int) (n a : Int) (h : key_place.f c n = some a) (h0 : 0 ≤ a) (h1 : a ≤ 1260) : key_Cell.f c n = some (if a = 0 then 0 else (rowNat a.toNat : Int)) := by
  unfold key_Cell.f
  rw [h]
  simp only [Option.bind_some]
  by_cases e : a = 0
  · rw [if_pos e, if_pos e]
  · rw [if_neg e, if_neg e]
    unfold key_number.f
    rw [if_pos (by omega), rowN_nat]; rfl
end Go.Proofs.Ytmfbgcimfmgobaa.KeyMath
