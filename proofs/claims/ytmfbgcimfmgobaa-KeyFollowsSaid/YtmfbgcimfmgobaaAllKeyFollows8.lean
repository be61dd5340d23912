/- Merged by a program of this session (wip/gprint/merge.py): what this claim needs of this session's texts, each part as it was. -/
import Derived.Test.YtmfbgcimfmgobaaAllKeyFollows7

-- of YtmfbgcimfmgobaaKeyRef
/- The document's row and numbers, and that they are the program's. -/
namespace Go.Proofs.Ytmfbgcimfmgobaa.KeyRef
open Go.RowKit Go.Proofs.Ytmfbgcimfmgobaa.Print Go.Proofs.Ytmfbgcimfmgobaa.KeyMath Go.Proofs.YtmfbgcimfmgobaaW.PrintWords Go.Proofs.YtmfbgcimfmgobaaW.PrintLast
theorem rplace_eq (b : UInt8) : riverbankref10_place.f 2000 (b.toNat : Int) = some (Lib.indexByte [75, 65, 66, 78, 82, 67, 80, 107, 97, 98, 110, 114, 99, 112] b) := by
  have := u8_all (fun b => riverbankref10_place.f 2000 (b.toNat : Int) == some (Lib.indexByte [75, 65, 66, 78, 82, 67, 80, 107, 97, 98, 110, 114, 99, 112] b)) (by decide +kernel) b
  simpa using this

def rowsL : List Int := (List.range 1262).map rowN
theorem rows_len : rowsL.length = 1262 := by simp [rowsL]
theorem rows_get (i : Nat) (hi : i < 1262) : rd rowsL (i : Int) = (rowNat i : Int) := by
  unfold rd rowsL
  rw [← rowN_nat]
  simp [List.getD, hi]
/-- The number of a piece on a square, whatever square. -/
theorem cell_both (b : UInt8) (n : Int) : ∃ v : Nat, v < 18446744073709551616 ∧ key_Cell.f (b.toNat : Int) n = some (v : Int) ∧ riverbankref10_cell.f 2000 rowsL (b.toNat : Int) n = some (v : Int) ∧
    ((v = 0 ∧ key_place.f (b.toNat : Int) n = some 0) ∨ ∃ p : Nat, 0 < p ∧ p ≤ 1260 ∧ v = rowNat p ∧ 0 ≤ n ∧ n < 90 ∧ key_place.f (b.toNat : Int) n = some (p : Int) ∧ (p : Int) = 1 + 90 * Lib.indexByte [75, 65, 66, 78, 82, 67, 80, 107, 97, 98, 110, 114, 99, 112] b + n) := by
  have h1 := idx_lt [75, 65, 66, 78, 82, 67, 80, 107, 97, 98, 110, 114, 99, 112] b
  have h2 := Lib.indexByte_ge [75, 65, 66, 78, 82, 67, 80, 107, 97, 98, 110, 114, 99, 112] b
  have hr := rplace_eq b
  have hb : ((b.toNat : Int)).toNat.toUInt8 = b := by simp
  unfold key_Cell.f riverbankref10_cell.f key_place.f strings_IndexByte.f board_File.f board_isSquare.f
  rw [hr]
  simp only [Option.bind_some, hb]
  obtain ⟨t, ht⟩ : ∃ t, t = Lib.indexByte [75, 65, 66, 78, 82, 67, 80, 107, 97, 98, 110, 114, 99, 112] b := ⟨_, rfl⟩
  rw [← ht] at h1 h2 ⊢
  clear ht hr
  simp only [List.length_cons, List.length_nil] at h1
  by_cases e : t < 0
  · rw [if_pos e, if_pos e]
    exact ⟨0, by omega, by simp, rfl, .inl ⟨rfl, rfl⟩⟩
  · rw [if_neg e, if_neg e]
    by_cases n0 : n < 0
    · rw [if_neg (by omega), if_pos n0]
      exact ⟨0, by omega, by simp, rfl, .inl ⟨rfl, by simp⟩⟩
    · rw [if_pos (by omega), if_neg n0]
      by_cases n1 : n > 89
      · rw [if_pos n1]
        have e2 : decide (n < 90) = false := decide_eq_false (by omega)
        exact ⟨0, by omega, by simp [e2], rfl, .inl ⟨rfl, by simp [e2]⟩⟩
      · rw [if_neg n1]
        have e2 : decide (n < 90) = true := decide_eq_true (by omega)
        have e3 : ¬ Int.tmod n 9 < 0 := by have := Int.tmod_nonneg (a := n) 9 (by omega); omega
        rw [w64 (90 * t) (by omega) (by omega), w64 (1 + 90 * t) (by omega) (by omega), w64 (1 + 90 * t + n) (by omega) (by omega)]
        simp only [e2, Option.bind_some, if_true, if_neg e3]
        obtain ⟨p, hp⟩ : ∃ p : Nat, (p : Int) = 1 + 90 * t + n := ⟨(1 + 90 * t + n).toNat, by omega⟩
        rw [← hp]
        refine ⟨rowNat p, rowNat_lt p, ?_, ?_, .inr ⟨p, by omega, by omega, rfl, by omega, by omega, rfl, rfl⟩⟩
        · rw [if_neg (by omega)]
          unfold key_number.f
          rw [if_pos (by omega), rowN_nat]; rfl
        · rw [if_pos (by omega), rows_len, if_pos (by omega), rows_get p (by omega)]
end Go.Proofs.Ytmfbgcimfmgobaa.KeyRef

-- of YtmfbgcimfmgobaaKeyRefTwo
/- The document's boards and keys, and that they are the program's. -/
namespace Go.Proofs.Ytmfbgcimfmgobaa.KeyRef
open Go.RowKit Go.Proofs.Ytmfbgcimfmgobaa.Print Go.Proofs.Ytmfbgcimfmgobaa.KeyMath Go.Proofs.YtmfbgcimfmgobaaW.PrintWords Go.Proofs.YtmfbgcimfmgobaaW.PrintLast
theorem rside_k (k : Nat) (a : Int) : riverbankref02_Side.f (k + 1) a = riverbankref02_Side.f 1 a := rfl
theorem rside_eq (k : Nat) (b : UInt8) : riverbankref02_Side.f (k + 1) (b.toNat : Int) = board_Side.f (b.toNat : Int) := by
  rw [rside_k]
  have := u8_all (fun b => riverbankref02_Side.f 1 (b.toNat : Int) == board_Side.f (b.toNat : Int)) (by decide +kernel) b
  simpa using this
/-- A byte's side. -/
def sideU (b : UInt8) : Int := (board_Side.f (b.toNat : Int)).getD 0
theorem side_f (b : UInt8) : board_Side.f (b.toNat : Int) = some (sideU b) := by
  have := u8_all (fun b => board_Side.f (b.toNat : Int) == some (sideU b)) (by decide +kernel) b
  simpa using this
theorem side_cell (b : UInt8) : okCell b = (b == 46 || decide (0 ≤ sideU b)) := by
  have := u8_all (fun b => okCell b == (b == 46 || decide (0 ≤ sideU b))) (by decide +kernel) b
  simpa using this
theorem side_range (b : UInt8) : sideU b = -1 ∨ sideU b = 0 ∨ sideU b = 1 := by
  have := u8_all (fun b => sideU b == -1 || (sideU b == 0 || sideU b == 1)) (by decide +kernel) b
  simpa using this
theorem bt_get (s : ByteArray) (i : Nat) (h : i < s.size) : bt s (i : Int) = ((s.get! i).toNat : Int) := by
  unfold bt
  rw [dif_pos (by simpa using h)]
  have e : s.get! i = s.data[i]'h := by
    simp [ByteArray.get!, h]
  rw [e]; rfl
theorem rside_eq' (k : Nat) (hk : 1 ≤ k) (b : UInt8) : riverbankref02_Side.f k (b.toNat : Int) = some (sideU b) := by
  obtain ⟨m, rfl⟩ : ∃ m, k = m + 1 := ⟨k - 1, by omega⟩
  rw [rside_eq, side_f]
theorem eq46 (b : UInt8) : ((b.toNat : Int) = 46) = (b = 46) := by
  apply propext
  constructor
  · intro h; exact UInt8.toNat_inj.mp (by simpa using (by omega : b.toNat = 46))
  · intro h; subst h; rfl
theorem is_loop (s : ByteArray) (hs : s.size = 90) (d : Nat) : ∀ (k i : Nat), i + d = 90 → d + 1 < k → ∃ b, riverbankref02_Is.l0 k s (i : Int) = some b ∧ (b = true ↔ ∀ j, i ≤ j → j < 90 → okCell (s.get! j) = true) := by
  induction d with
  | zero =>
    intro k i hi hk
    obtain ⟨k, rfl⟩ : ∃ m, k = m + 1 := ⟨k - 1, by omega⟩
    refine ⟨true, by simp only [riverbankref02_Is.l0]; rw [if_neg (by omega)], ?_⟩
    simp; intro j h1 h2; omega
  | succ d ih =>
    intro k i hi hk
    obtain ⟨k, rfl⟩ : ∃ m, k = m + 1 := ⟨k - 1, by omega⟩
    obtain ⟨b, hb, hiff⟩ := ih k (i + 1) (by omega) (by omega)
    have hw : wrap64 ((i : Int) + 1) = ((i + 1 : Nat) : Int) := by rw [w64 _ (by omega) (by omega)]; rfl
    simp only [riverbankref02_Is.l0]
    rw [if_pos (by omega), if_pos (by omega), if_pos (by omega), bt_get s i (by omega), rside_eq' k (by omega), hw, hb]
    simp only [Option.bind_some]
    have hc := side_cell (s.get! i)
    by_cases h46 : ((s.get! i).toNat : Int) = 46
    · rw [if_pos h46]
      rw [eq46] at h46
      refine ⟨b, rfl, hiff.trans ⟨fun h j h1 h2 => ?_, fun h j h1 h2 => h j (by omega) h2⟩⟩
      by_cases e : j = i
      · subst e; rw [hc, h46]; rfl
      · exact h j (by omega) h2
    · rw [if_neg h46]
      rw [eq46] at h46
      by_cases h0 : sideU (s.get! i) < 0
      · rw [if_pos h0]
        refine ⟨false, rfl, ⟨fun h => (by cases h), fun h => ?_⟩⟩
        have := h i (Nat.le_refl _) (by omega)
        rw [hc] at this
        simp [h46] at this; omega
      · rw [if_neg h0]
        refine ⟨b, rfl, hiff.trans ⟨fun h j h1 h2 => ?_, fun h j h1 h2 => h j (by omega) h2⟩⟩
        by_cases e : j = i
        · subst e; rw [hc]; simp; right; omega
        · exact h j (by omega) h2
theorem rIs_eq (k : Nat) (hk : 100 ≤ k) (s : ByteArray) : riverbankref02_Is.f k s = board_Is.f s := by
  unfold riverbankref02_Is.f board_Is.f
  by_cases hs : s.size = 90
  · rw [if_pos (by omega)]
    obtain ⟨b, hb, hiff⟩ := is_loop s hs 90 k 0 (by omega) (by omega)
    rw [show ((0 : Nat) : Int) = 0 from rfl] at hb
    rw [hb]
    have h2 := all_okCell s
    rw [hs] at h2
    congr 1
    cases b with
    | true => simp only [hs, decide_true, Bool.true_and]; exact (h2.mpr (fun j hj => (hiff.mp rfl) j (by omega) hj)).symm
    | false =>
      simp only [hs, decide_true, Bool.true_and]
      cases e : s.data.toList.all okCell with
      | false => rfl
      | true => exact absurd (hiff.mpr (fun j _ hj => h2.mp e j hj)) (by simp)
  · rw [if_neg (by omega)]; simp [hs]
theorem board_size {s : ByteArray} (h : board_Is.f s = some true) : s.size = 90 := by
  unfold board_Is.f at h; have := Option.some.inj h; simp at this; exact this.1
theorem board_cell {s : ByteArray} (h : board_Is.f s = some true) (j : Nat) (hj : j < 90) : okCell (s.get! j) = true := by
  have hs := board_size h
  unfold board_Is.f at h; have := Option.some.inj h; simp only [Bool.and_eq_true] at this
  exact (all_okCell s).mp this.2 j (by omega)
theorem board_tf (s : ByteArray) : board_Is.f s = some true ∨ board_Is.f s = some false := by
  unfold board_Is.f
  cases (decide (s.size = 90) && s.data.toList.all okCell) <;> simp

/-- What a piece counts on a square, off its byte. -/
def cellV (b : UInt8) (n : Int) : Nat := if 0 < (key_place.f (b.toNat : Int) n).getD 0 then rowNat ((key_place.f (b.toNat : Int) n).getD 0).toNat else 0
theorem cell_V (b : UInt8) (n : Int) : key_Cell.f (b.toNat : Int) n = some (cellV b n : Int) ∧ riverbankref10_cell.f 2000 rowsL (b.toNat : Int) n = some (cellV b n : Int) ∧ cellV b n < 18446744073709551616 := by
  obtain ⟨v, hv, h1, h2, h3⟩ := cell_both b n
  have e : cellV b n = v := by
    unfold cellV
    rcases h3 with ⟨rfl, h⟩ | ⟨p, hp0, hp1, rfl, _, _, h, _⟩
    · rw [h]; rfl
    · rw [h]; simp only [Option.getD_some]; rw [if_pos (by omega)]; simp
  rw [e]; exact ⟨h1, h2, hv⟩
theorem vN_cell (s : ByteArray) (j : Nat) (hj : j < s.size) : vN s j = cellV (s.get! j) (j : Int) := by
  unfold vN placeN cellV; rw [bt_get s j hj]
end Go.Proofs.Ytmfbgcimfmgobaa.KeyRef

-- of YtmfbgcimfmgobaaKeyRefThree
/- Boards with one byte turned, and their keys. -/
namespace Go.Proofs.Ytmfbgcimfmgobaa.KeyRef
open Go.RowKit Go.Proofs.Ytmfbgcimfmgobaa.Print Go.Proofs.Ytmfbgcimfmgobaa.KeyMath Go.Proofs.YtmfbgcimfmgobaaW.PrintWords Go.Proofs.YtmfbgcimfmgobaaW.PrintLast
/-- A text with byte n turned to c. -/
def setL (s : ByteArray) (n : Nat) (c : UInt8) : ByteArray := ⟨(s.data.toList.set n c).toArray⟩
theorem setL_size (s : ByteArray) (n : Nat) (c : UInt8) : (setL s n c).size = s.size := by
  show (s.data.toList.set n c).toArray.size = s.data.size
  simp
theorem get_list (s : ByteArray) (j : Nat) (h : j < s.size) : s.get! j = s.data.toList[j]'(by simpa using h) := by
  have e : s.get! j = s.data[j]'h := by simp [ByteArray.get!, h]
  rw [e]; simp
theorem setL_get (s : ByteArray) (n : Nat) (c : UInt8) (j : Nat) (h : j < s.size) : (setL s n c).get! j = if n = j then c else s.get! j := by
  rw [get_list _ _ (by rw [setL_size]; exact h), get_list _ _ h]
  have e : (setL s n c).data.toList = s.data.toList.set n c := by simp [setL]
  rw [List.getElem_of_eq e, List.getElem_set]
theorem setB_setL (s : ByteArray) (n : Nat) (c : UInt8) (h : n < s.size) : setB s n c = setL s n c := by
  have e : (setB s n c).data.toList = s.data.toList.set n c := by
    have hl : n < s.data.toList.length := by simpa using h
    unfold setB
    rw [List.set_eq_take_append_cons_drop, if_pos hl]
    simp [ByteArray.data_append, List.append_assoc]
    exact List.take_of_length_le (by simp)
  apply ByteArray.ext
  apply Array.toList_inj.mp
  rw [e]; simp [setL]
theorem setL_board (s : ByteArray) (n : Nat) (c : UInt8) (h : board_Is.f s = some true) (hc : okCell c = true) : board_Is.f (setL s n c) = some true := by
  have hs := board_size h
  unfold board_Is.f
  have h2 := (all_okCell (setL s n c)).mpr (fun j hj => by
    rw [setL_size] at hj
    rw [setL_get s n c j hj]
    split
    · exact hc
    · exact board_cell h j (by omega))
  rw [h2, setL_size, hs]; rfl
theorem place_dot (n : Int) : key_place.f 46 n = some 0 := by
  unfold key_place.f strings_IndexByte.f
  rw [show Lib.indexByte ([75, 65, 66, 78, 82, 67, 80, 107, 97, 98, 110, 114, 99, 112] : List UInt8) ((46 : Int).toNat.toUInt8) = -1 by decide]
  rfl
theorem cellV_dot (n : Int) : cellV 46 n = 0 := by
  unfold cellV
  rw [show (((46 : UInt8).toNat : Nat) : Int) = 46 from rfl, place_dot]; rfl
theorem vSum_same {s t : ByteArray} (hs : s.size = 90) (ht : t.size = 90) (m : Nat) (hm : m ≤ 90) (h : ∀ j, j < m → s.get! j = t.get! j) : vSum s m = vSum t m := by
  induction m with
  | zero => rfl
  | succ m ih =>
    unfold vSum
    rw [ih (by omega) (fun j hj => h j (by omega)), vN_cell s m (by omega), vN_cell t m (by omega), h m (by omega)]
theorem vSum_set (s : ByteArray) (hs : s.size = 90) (n : Nat) (hn : n < 90) (c : UInt8) (m : Nat) (hm : m ≤ 90) (hnm : n < m) : vSum (setL s n c) m = vSum s m ^^^ cellV (s.get! n) (n : Int) ^^^ cellV c (n : Int) := by
  have ht : (setL s n c).size = 90 := by rw [setL_size]; exact hs
  induction m with
  | zero => omega
  | succ m ih =>
    unfold vSum
    rw [vN_cell _ m (by omega), vN_cell s m (by omega), setL_get s n c m (by omega)]
    by_cases e : n = m
    · subst e
      rw [if_pos rfl, vSum_same ht hs n (by omega) (fun j hj => by rw [setL_get s n c j (by omega), if_neg (by omega)])]
      rw [Nat.xor_assoc (vSum s n), Nat.xor_self, Nat.xor_zero]
    · rw [if_neg e, ih (by omega) (by omega)]
      apply Nat.eq_of_testBit_eq
      intro i
      simp only [Nat.testBit_xor]
      cases (vSum s m).testBit i <;> cases (cellV (s.get! n) (n : Int)).testBit i <;> cases (cellV c (n : Int)).testBit i <;> cases (cellV (s.get! m) (m : Int)).testBit i <;> rfl
theorem keyV_set (s : ByteArray) (hs : s.size = 90) (n : Nat) (hn : n < 90) (c : UInt8) (side : Int) : keyV (setL s n c) side = keyV s side ^^^ cellV (s.get! n) (n : Int) ^^^ cellV c (n : Int) := by
  unfold keyV
  rw [vSum_set s hs n hn c 90 (Nat.le_refl _) hn, Nat.xor_assoc, Nat.xor_assoc, Nat.xor_assoc]
end Go.Proofs.Ytmfbgcimfmgobaa.KeyRef

-- of YtmfbgcimfmgobaaTotMath
/- The document's moves are told for every board: each function comes to an end. -/
namespace Go.Proofs.Ytmfbgcimfmgobaa.TotMath
open Go.RowKit Go.Proofs.Ytmfbgcimfmgobaa.Print Go.Proofs.Ytmfbgcimfmgobaa.KeyMath Go.Proofs.Ytmfbgcimfmgobaa.KeyRef Go.Proofs.YtmfbgcimfmgobaaW.PrintWords Go.Proofs.YtmfbgcimfmgobaaW.PrintLast
/-- From some number of rounds on it tells v. -/
def Ev {α : Type} (F : Nat → Option α) (v : α) : Prop := ∃ K, ∀ k, K ≤ k → F k = some v
def Tot {α : Type} (F : Nat → Option α) (P : α → Prop) : Prop := ∃ v, P v ∧ Ev F v
variable {α β : Type}
theorem Ev.uniq {F : Nat → Option α} {u v : α} (h : Ev F u) (g : Ev F v) : u = v := by
  obtain ⟨K, h⟩ := h
  obtain ⟨L, g⟩ := g
  have a := h (K + L) (by omega)
  rw [g (K + L) (by omega)] at a
  exact (Option.some.inj a).symm
theorem Tot.ret {P : α → Prop} {v : α} (h : P v) : Tot (fun _ => some v) P := ⟨v, h, 0, fun _ _ => rfl⟩
theorem Tot.c {F : Option α} (h : ∃ v, F = some v) : Tot (fun _ => F) (fun _ => True) := by
  obtain ⟨v, h⟩ := h
  exact ⟨v, trivial, 0, fun _ _ => h⟩
theorem Tot.is {F : Nat → Option α} {v : α} (h : Ev F v) : Tot F (fun u => u = v) := ⟨v, rfl, h⟩
theorem Tot.ite {c : Prop} [Decidable c] {F G : Nat → Option α} {P : α → Prop} (h1 : c → Tot F P) (h2 : ¬ c → Tot G P) : Tot (fun k => if c then F k else G k) P := by
  by_cases h : c
  · have e : (fun k => if c then F k else G k) = F := by funext k; rw [if_pos h]
    rw [e]; exact h1 h
  · have e : (fun k => if c then F k else G k) = G := by funext k; rw [if_neg h]
    rw [e]; exact h2 h
theorem Tot.bind {F : Nat → Option α} {G : α → Nat → Option β} {P : α → Prop} {Q : β → Prop} (h : Tot F P) (g : ∀ v, P v → Ev F v → Tot (G v) Q) : Tot (fun k => (F k).bind fun v => G v k) Q := by
  obtain ⟨v, hp, hv⟩ := h
  obtain ⟨u, hq, L, hu⟩ := g v hp hv
  obtain ⟨K, hv⟩ := hv
  exact ⟨u, hq, K + L, fun k hk => by simp only [hv k (by omega), Option.bind_some, hu k (by omega)]⟩
theorem Tot.succ {F : Nat → Option α} {P : α → Prop} (h : Tot (fun k => F (k + 1)) P) : Tot F P := by
  obtain ⟨v, hp, K, hv⟩ := h
  refine ⟨v, hp, K + 1, fun k hk => ?_⟩
  obtain ⟨k, rfl⟩ : ∃ m, k = m + 1 := ⟨k - 1, by omega⟩
  exact hv k (by omega)
theorem Tot.mono {F : Nat → Option α} {P Q : α → Prop} (h : Tot F P) (g : ∀ v, P v → Ev F v → Q v) : Tot F Q := by
  obtain ⟨v, hp, hv⟩ := h
  exact ⟨v, g v hp hv, hv⟩
theorem bt_byte (s : ByteArray) (i : Int) : ∃ b : UInt8, bt s i = (b.toNat : Int) := by
  unfold bt
  split
  · exact ⟨_, rfl⟩
  · exact ⟨0, rfl⟩
theorem wi {x : Int} (h : -1000000 ≤ x) (h2 : x ≤ 1000000) : wrap64 x = x := by unfold wrap64; omega

theorem e_Side (b : UInt8) : Ev (fun k => riverbankref02_Side.f k (b.toNat : Int)) (sideU b) := ⟨1, fun k hk => rside_eq' k hk b⟩
theorem t_Side (s : ByteArray) (i : Int) : Tot (fun k => riverbankref02_Side.f k (bt s i)) (fun v => v = -1 ∨ v = 0 ∨ v = 1) := by
  obtain ⟨b, hb⟩ := bt_byte s i
  rw [hb]
  exact ⟨sideU b, side_range b, e_Side b⟩
theorem e_Is (s : ByteArray) (v : Bool) (h : board_Is.f s = some v) : Ev (fun k => riverbankref02_Is.f k s) v := ⟨100, fun k hk => (rIs_eq k hk s).trans h⟩
theorem t_Kind (s : ByteArray) (i : Int) : Tot (fun k => riverbankref02_Kind.f k (bt s i)) (fun _ => True) := by
  unfold riverbankref02_Kind.f
  refine Tot.bind (t_Side s i) (fun v _ _ => ?_)
  refine Tot.ite (fun _ => Tot.ret trivial) (fun _ => Tot.ite (fun _ => Tot.ret trivial) (fun _ => Tot.ret trivial))
theorem c_real (a b : Int) : ∃ v, riverbankref03_real.f a b = some v := by
  unfold riverbankref03_real.f; repeat (first | exact ⟨_, rfl⟩ | split)
theorem c_File (a : Int) : ∃ v, riverbankref02_File.f a = some v := by
  unfold riverbankref02_File.f; repeat (first | exact ⟨_, rfl⟩ | split)
theorem c_Rank (a : Int) : ∃ v, riverbankref02_Rank.f a = some v := by
  unfold riverbankref02_Rank.f; repeat (first | exact ⟨_, rfl⟩ | split)
theorem c_own (a b : Int) : ∃ v, riverbankref03_own.f a b = some v := by
  unfold riverbankref03_own.f
  obtain ⟨v, h⟩ := c_Rank a
  rw [h]; simp only [Option.bind_some]
  split <;> exact ⟨_, rfl⟩
theorem c_Palace (a b : Int) : ∃ v, riverbankref03_Palace.f a b = some v := by
  unfold riverbankref03_Palace.f
  obtain ⟨v, h⟩ := c_File a
  obtain ⟨u, g⟩ := c_real a b
  obtain ⟨t, f⟩ := c_own a b
  rw [h, g]; simp only [Option.bind_some]
  rw [f]; simp only [Option.bind_some]
  repeat (first | exact ⟨_, rfl⟩ | split)
theorem c_Over (a b : Int) : ∃ v, riverbankref03_Over.f a b = some v := by
  unfold riverbankref03_Over.f
  obtain ⟨u, g⟩ := c_real a b
  obtain ⟨t, f⟩ := c_own a b
  rw [g]; simp only [Option.bind_some]
  rw [f]; simp only [Option.bind_some]
  repeat (first | exact ⟨_, rfl⟩ | split)
theorem c_advisor (a b : Int) : ∃ v, riverbankref03_advisor.f a b = some v := by
  unfold riverbankref03_advisor.f; repeat (first | exact ⟨_, rfl⟩ | split)
theorem c_away (a b : Int) : ∃ v, riverbankref05_away.f a b = some v := ⟨_, rfl⟩
theorem t_elephant (a b : Int) : Tot (fun k => riverbankref03_elephant.f k a b) (fun _ => True) := by
  unfold riverbankref03_elephant.f
  have h : ∀ c, Tot (fun k => riverbankref03_elephant.j0 k a b c) (fun _ => True) := by
    intro c
    refine Tot.succ ?_
    simp only [riverbankref03_elephant.j0]
    (repeat' (first | exact Tot.ret trivial | exact Tot.c (c_real _ _) | exact Tot.c (c_File _) | exact Tot.c (c_own _ _) | exact Tot.c (c_Palace _ _) | exact Tot.c (c_Over _ _) | exact Tot.c (c_advisor _ _) | exact Tot.c (c_away _ _) | exact t_Side _ _ | exact t_Kind _ _ | refine Tot.ite (fun _ => ?_) (fun _ => ?_) | refine Tot.bind (Tot.c (c_real _ _)) (fun _ _ _ => ?_) | refine Tot.bind (Tot.c (c_File _)) (fun _ _ _ => ?_) | refine Tot.bind (Tot.c (c_own _ _)) (fun _ _ _ => ?_) | refine Tot.bind (Tot.c (c_Palace _ _)) (fun _ _ _ => ?_) | refine Tot.bind (Tot.c (c_Over _ _)) (fun _ _ _ => ?_) | refine Tot.bind (Tot.c (c_advisor _ _)) (fun _ _ _ => ?_) | refine Tot.bind (Tot.c (c_away _ _)) (fun _ _ _ => ?_) | refine Tot.bind (t_Side _ _) (fun _ _ _ => ?_) | refine Tot.bind (t_Kind _ _) (fun _ _ _ => ?_)))
  exact Tot.ite (fun _ => h _) (fun _ => h _)
theorem t_May (s : ByteArray) (i n : Int) : Tot (fun k => riverbankref03_May.f k (bt s i) n) (fun _ => True) := by
  unfold riverbankref03_May.f
  have h : ∀ a c, Tot (fun k => riverbankref03_May.j0 k (bt s i) n a c) (fun _ => True) := by
    intro a c
    refine Tot.succ ?_
    simp only [riverbankref03_May.j0]
    (repeat' (first | exact Tot.ret trivial | exact Tot.c (c_real _ _) | exact Tot.c (c_File _) | exact Tot.c (c_own _ _) | exact Tot.c (c_Palace _ _) | exact Tot.c (c_Over _ _) | exact Tot.c (c_advisor _ _) | exact Tot.c (c_away _ _) | exact t_Side _ _ | exact t_Kind _ _ | refine Tot.ite (fun _ => ?_) (fun _ => ?_) | refine Tot.bind (Tot.c (c_real _ _)) (fun _ _ _ => ?_) | refine Tot.bind (Tot.c (c_File _)) (fun _ _ _ => ?_) | refine Tot.bind (Tot.c (c_own _ _)) (fun _ _ _ => ?_) | refine Tot.bind (Tot.c (c_Palace _ _)) (fun _ _ _ => ?_) | refine Tot.bind (Tot.c (c_Over _ _)) (fun _ _ _ => ?_) | refine Tot.bind (Tot.c (c_advisor _ _)) (fun _ _ _ => ?_) | refine Tot.bind (Tot.c (c_away _ _)) (fun _ _ _ => ?_) | refine Tot.bind (t_Side _ _) (fun _ _ _ => ?_) | refine Tot.bind (t_Kind _ _) (fun _ _ _ => ?_)))
    all_goals (first | (refine Tot.bind (t_elephant _ _) (fun _ _ _ => ?_)) | skip)
    all_goals (repeat' (first | exact Tot.ret trivial | exact Tot.c (c_real _ _) | exact Tot.c (c_File _) | exact Tot.c (c_own _ _) | exact Tot.c (c_Palace _ _) | exact Tot.c (c_Over _ _) | exact Tot.c (c_advisor _ _) | exact Tot.c (c_away _ _) | exact t_Side _ _ | exact t_Kind _ _ | refine Tot.ite (fun _ => ?_) (fun _ => ?_) | refine Tot.bind (Tot.c (c_real _ _)) (fun _ _ _ => ?_) | refine Tot.bind (Tot.c (c_File _)) (fun _ _ _ => ?_) | refine Tot.bind (Tot.c (c_own _ _)) (fun _ _ _ => ?_) | refine Tot.bind (Tot.c (c_Palace _ _)) (fun _ _ _ => ?_) | refine Tot.bind (Tot.c (c_Over _ _)) (fun _ _ _ => ?_) | refine Tot.bind (Tot.c (c_advisor _ _)) (fun _ _ _ => ?_) | refine Tot.bind (Tot.c (c_away _ _)) (fun _ _ _ => ?_) | refine Tot.bind (t_Side _ _) (fun _ _ _ => ?_) | refine Tot.bind (t_Kind _ _) (fun _ _ _ => ?_)))
  refine Tot.bind (t_Side s i) (fun v _ _ => Tot.ite (fun _ => h _ _) (fun _ => Tot.bind (Tot.c (c_real _ _)) (fun _ _ _ => h _ _)))
/-! ### lists of squares -/
theorem t_Find (s : ByteArray) (hs : s.size = 90) (c : Int) : Tot (fun k => riverbankref02_Find.f k s c) (fun _ => True) := by
  have h : ∀ (d i : Nat) (l : List Int), i + d = 90 → l.length ≤ i → Tot (fun k => riverbankref02_Find.l0 k s c l (i : Int)) (fun _ => True) := by
    intro d
    induction d with
    | zero =>
      intro i l hi hl
      refine Tot.succ ?_
      simp only [riverbankref02_Find.l0]
      refine Tot.ite (fun h => absurd h (by omega)) (fun _ => Tot.ret trivial)
    | succ d ih =>
      intro i l hi hl
      refine Tot.succ ?_
      simp only [riverbankref02_Find.l0]
      have hi1 : wrap64 ((i : Int) + 1) = ((i + 1 : Nat) : Int) := by rw [wi (by omega) (by omega)]; omega
      rw [hi1]
      refine Tot.ite (fun _ => Tot.ite (fun _ => Tot.ite (fun _ => Tot.ite (fun _ => ih (i + 1) _ (by omega) (by simp; omega)) (fun h => absurd h (by omega))) (fun _ => ih (i + 1) _ (by omega) (by omega))) (fun h => absurd h (by omega))) (fun _ => Tot.ret trivial)
  unfold riverbankref02_Find.f
  rcases board_tf s with hb | hb
  · exact Tot.bind (Tot.is (e_Is s _ hb)) (fun v _ _ => Tot.ite (fun _ => h 90 0 [] (by omega) (by simp)) (fun _ => Tot.ret trivial))
  · exact Tot.bind (Tot.is (e_Is s _ hb)) (fun v _ _ => Tot.ite (fun _ => h 90 0 [] (by omega) (by simp)) (fun _ => Tot.ret trivial))
theorem t_Most (s : ByteArray) (i : Int) : Tot (fun k => riverbankref03_Most.f k (bt s i)) (fun _ => True) := by
  unfold riverbankref03_Most.f; (repeat' (first | exact Tot.ret trivial | exact Tot.c (c_real _ _) | exact Tot.c (c_File _) | exact Tot.c (c_own _ _) | exact Tot.c (c_Palace _ _) | exact Tot.c (c_Over _ _) | exact Tot.c (c_advisor _ _) | exact Tot.c (c_away _ _) | exact t_Side _ _ | exact t_Kind _ _ | refine Tot.ite (fun _ => ?_) (fun _ => ?_) | refine Tot.bind (Tot.c (c_real _ _)) (fun _ _ _ => ?_) | refine Tot.bind (Tot.c (c_File _)) (fun _ _ _ => ?_) | refine Tot.bind (Tot.c (c_own _ _)) (fun _ _ _ => ?_) | refine Tot.bind (Tot.c (c_Palace _ _)) (fun _ _ _ => ?_) | refine Tot.bind (Tot.c (c_Over _ _)) (fun _ _ _ => ?_) | refine Tot.bind (Tot.c (c_advisor _ _)) (fun _ _ _ => ?_) | refine Tot.bind (Tot.c (c_away _ _)) (fun _ _ _ => ?_) | refine Tot.bind (t_Side _ _) (fun _ _ _ => ?_) | refine Tot.bind (t_Kind _ _) (fun _ _ _ => ?_)))
theorem t_Check (s : ByteArray) (a b c : Int) : Tot (fun k => riverbankref03_Check.f k s a b c) (fun v => v = 0 → (a = 0 ∨ a = 1) ∧ board_Is.f s = some true) := by
  unfold riverbankref03_Check.f
  have hj : Tot (fun k => riverbankref03_Check.j0 k true s a b c) (fun v => v = 0 → (a = 0 ∨ a = 1) ∧ board_Is.f s = some true) := by
    refine Tot.succ ?_
    simp only [riverbankref03_Check.j0]
    refine Tot.ite (fun _ => Tot.ret (fun h => absurd h (by decide))) (fun h => absurd trivial h)
  rcases board_tf s with hb | hb
  · have hs := board_size hb
    have h1 : ∀ (d i : Nat), i + d = 90 → Tot (fun k => riverbankref03_Check.l1 k (i : Int) s a b c) (fun _ => True) := by
      intro d
      induction d with
      | zero =>
        intro i hi
        refine Tot.succ ?_
        simp only [riverbankref03_Check.l1]
        refine Tot.ite (fun h => absurd h (by omega)) (fun _ => Tot.ret trivial)
      | succ d ih =>
        intro i hi
        refine Tot.succ ?_
        simp only [riverbankref03_Check.l1]
        have hi1 : wrap64 ((i : Int) + 1) = ((i + 1 : Nat) : Int) := by rw [wi (by omega) (by omega)]; omega
        rw [hi1]
        refine Tot.ite (fun _ => Tot.ite (fun _ => Tot.ite (fun _ => Tot.ite (fun _ => ih (i + 1) (by omega)) (fun _ => Tot.bind (t_May s _ _) (fun _ _ _ => Tot.ite (fun _ => ih (i + 1) (by omega)) (fun _ => Tot.ret trivial)))) (fun h => absurd h (by omega))) (fun h => absurd h (by omega))) (fun _ => Tot.ret trivial)
    have h0 : ∀ (x : ByteArray), x.size = 14 → ∀ (d i : Nat), i + d = 14 → Tot (fun k => riverbankref03_Check.l0 k x (i : Int) s a b c) (fun _ => True) := by
      intro x hx d
      induction d with
      | zero =>
        intro i hi
        refine Tot.succ ?_
        simp only [riverbankref03_Check.l0]
        refine Tot.ite (fun h => absurd h (by omega)) (fun _ => h1 90 0 (by omega))
      | succ d ih =>
        intro i hi
        refine Tot.succ ?_
        simp only [riverbankref03_Check.l0]
        have hi1 : wrap64 ((i : Int) + 1) = ((i + 1 : Nat) : Int) := by rw [wi (by omega) (by omega)]; omega
        rw [hi1]
        refine Tot.ite (fun _ => Tot.ite (fun _ => Tot.bind (t_Find s hs _) (fun _ _ _ => Tot.bind (t_Most x _) (fun _ _ _ => Tot.ite (fun _ => Tot.ret trivial) (fun _ => Tot.bind (t_Kind x _) (fun _ _ _ => Tot.ite (fun _ => Tot.ite (fun _ => ih (i + 1) (by omega)) (fun _ => Tot.ret trivial)) (fun _ => ih (i + 1) (by omega))))))) (fun h => absurd h (by omega))) (fun _ => h1 90 0 (by omega))
    refine Tot.bind (Tot.is (e_Is s _ hb)) (fun v _ _ => Tot.ite (fun _ => Tot.ite (fun _ => hj) (fun ha => Tot.ite (fun _ => hj) (fun ha2 => ?_))) (fun _ => hj))
    refine Tot.ite (fun _ => hj) (fun _ => Tot.ite (fun _ => hj) (fun _ => Tot.ite (fun _ => hj) (fun _ => ?_)))
    refine Tot.succ ?_
    simp only [riverbankref03_Check.j0]
    refine Tot.ite (fun _ => Tot.ret (fun h => absurd h (by decide))) (fun _ => (h0 _ rfl 14 0 (by omega)).mono (fun _ _ _ _ => ⟨by omega, hb⟩))
  · refine Tot.bind (Tot.is (e_Is s _ hb)) (fun v hv _ => Tot.ite (fun h => by rw [hv] at h; cases h) (fun _ => hj))
theorem t_General (s : ByteArray) (a : Int) : Tot (fun k => riverbankref07_General.f k s a) (fun v => -1 ≤ v ∧ v < 90) := by
  unfold riverbankref07_General.f
  have hj : Tot (fun k => riverbankref07_General.j0 k s a true) (fun v => -1 ≤ v ∧ v < 90) := by
    refine Tot.succ ?_
    simp only [riverbankref07_General.j0]
    refine Tot.ite (fun _ => Tot.ret ⟨by omega, by omega⟩) (fun h => absurd trivial h)
  rcases board_tf s with hb | hb
  · have hs := board_size hb
    have h1 : ∀ (d i : Nat), i + d = 90 → Tot (fun k => riverbankref07_General.l0 k s a (i : Int)) (fun v => -1 ≤ v ∧ v < 90) := by
      intro d
      induction d with
      | zero =>
        intro i hi
        refine Tot.succ ?_
        simp only [riverbankref07_General.l0]
        refine Tot.ite (fun h => absurd h (by omega)) (fun _ => Tot.ret ⟨by omega, by omega⟩)
      | succ d ih =>
        intro i hi
        refine Tot.succ ?_
        simp only [riverbankref07_General.l0]
        have hi1 : wrap64 ((i : Int) + 1) = ((i + 1 : Nat) : Int) := by rw [wi (by omega) (by omega)]; omega
        rw [hi1]
        have hof : ∃ v, riverbankref02_Of.f 75 a = some v := by unfold riverbankref02_Of.f; split <;> exact ⟨_, rfl⟩
        refine Tot.ite (fun _ => Tot.ite (fun _ => Tot.ite (fun _ => Tot.bind (Tot.c hof) (fun _ _ _ => Tot.ite (fun _ => Tot.ret ⟨by omega, by omega⟩) (fun _ => ih (i + 1) (by omega)))) (fun h => absurd h (by omega))) (fun h => absurd h (by omega))) (fun _ => Tot.ret ⟨by omega, by omega⟩)
    refine Tot.bind (Tot.is (e_Is s _ hb)) (fun v _ _ => Tot.ite (fun _ => Tot.ite (fun _ => hj) (fun _ => ?_)) (fun _ => hj))
    refine Tot.succ ?_
    simp only [riverbankref07_General.j0]
    refine Tot.ite (fun _ => Tot.ret ⟨by omega, by omega⟩) (fun _ => h1 90 0 (by omega))
  · refine Tot.bind (Tot.is (e_Is s _ hb)) (fun v hv _ => Tot.ite (fun h => by rw [hv] at h; cases h) (fun _ => hj))
theorem mx_le {a b c : Int} (h : a ≤ c) (g : b ≤ c) : mx a b ≤ c := by unfold mx; split <;> assumption
theorem mn_ge {a b c : Int} (h : c ≤ a) (g : c ≤ b) : c ≤ mn a b := by unfold mn; split <;> assumption
theorem mn_le {a b c : Int} (h : a ≤ c) (g : b ≤ c) : mn a b ≤ c := by unfold mn; split <;> assumption
theorem t_between (s : ByteArray) (hs : s.size = 90) (a b : Int) (a0 : 0 ≤ a) (a1 : a < 90) (b0 : 0 ≤ b) (b1 : b < 90) : Tot (fun k => riverbankref05_between.f k s a b) (fun _ => True) := by
  have h1 : ∀ (st : Int), 1 ≤ st → st ≤ 9 → ∀ (d : Nat) (n x : Int), 0 ≤ x → 90 - x ≤ d → x ≤ 200 → Tot (fun k => riverbankref05_between.l0 k s a b st n x) (fun _ => True) := by
    intro st s1 s2 d
    induction d with
    | zero =>
      intro n x x0 hd hx
      refine Tot.succ ?_
      simp only [riverbankref05_between.l0]
      refine Tot.ite (fun h => absurd h (by have := mx_le (a := a) (b := b) (c := 89) (by omega) (by omega); omega)) (fun _ => Tot.ret trivial)
    | succ d ih =>
      intro n x x0 hd hx
      refine Tot.succ ?_
      simp only [riverbankref05_between.l0]
      have hm := mx_le (a := a) (b := b) (c := 89) (by omega) (by omega)
      have hx1 : wrap64 (x + st) = x + st := wi (by omega) (by omega)
      rw [hx1]
      refine Tot.ite (fun h => Tot.ite (fun _ => Tot.ite (fun _ => Tot.ite (fun _ => ih _ _ (by omega) (by omega) (by omega)) (fun _ => ih _ _ (by omega) (by omega) (by omega))) (fun h => absurd h (by omega))) (fun h => absurd h (by omega))) (fun _ => Tot.ret trivial)
  have h2 : ∀ (st : Int), 1 ≤ st → st ≤ 9 → Tot (fun k => riverbankref05_between.j0 k s a b st) (fun _ => True) := by
    intro st s1 s2
    refine Tot.succ ?_
    simp only [riverbankref05_between.j0]
    have m0 := mn_ge (a := a) (b := b) (c := 0) (by omega) (by omega)
    have m1 := mn_le (a := a) (b := b) (c := 89) (by omega) (by omega)
    rw [wi (by omega) (by omega)]
    exact h1 st s1 s2 90 0 _ (by omega) (by omega) (by omega)
  unfold riverbankref05_between.f
  refine Tot.ite (fun _ => Tot.ret trivial) (fun _ => Tot.ite (fun _ => h2 1 (by omega) (by omega)) (fun _ => Tot.ite (fun _ => h2 9 (by omega) (by omega)) (fun _ => Tot.ret trivial)))
theorem t_Facing (s : ByteArray) : Tot (fun k => riverbankref07_Facing.f k s) (fun _ => True) := by
  unfold riverbankref07_Facing.f
  refine Tot.bind (t_General s 0) (fun u hu _ => Tot.bind (t_General s 1) (fun v hv _ => Tot.ite (fun _ => Tot.ite (fun _ => Tot.ite (fun _ => Tot.bind (P := fun _ => True) ?_ (fun _ _ _ => Tot.ret trivial)) (fun _ => Tot.ret trivial)) (fun _ => Tot.ret trivial)) (fun _ => Tot.ret trivial)))
  unfold riverbankref05_Between.f
  have hr : ∀ a, ∃ v, riverbankref05_real.f a = some v := by intro a; unfold riverbankref05_real.f; split <;> exact ⟨_, rfl⟩
  rcases board_tf s with hb | hb
  · have hs := board_size hb
    exact Tot.bind (Tot.is (e_Is s _ hb)) (fun _ _ _ => Tot.ite (fun _ => Tot.bind (Tot.c (hr _)) (fun _ _ _ => Tot.ite (fun _ => Tot.bind (Tot.c (hr _)) (fun _ _ _ => Tot.ite (fun _ => Tot.bind (t_between s hs _ _ (by omega) (by omega) (by omega) (by omega)) (fun _ _ _ => Tot.ret trivial)) (fun _ => Tot.ret trivial))) (fun _ => Tot.ret trivial))) (fun _ => Tot.ret trivial))
  · exact Tot.bind (Tot.is (e_Is s _ hb)) (fun v hv _ => Tot.ite (fun h => by rw [hv] at h; cases h) (fun _ => Tot.ret trivial))
/-! ### the document's moves -/
theorem t_half (s : ByteArray) (hs : s.size = 90) (a b n st : Int) (h1 : b > a → 0 ≤ n + st ∧ n + st < 90) (h2 : ¬ b > a → 0 ≤ n - st ∧ n - st < 90) : Tot (fun _ => riverbankref05_half.f a b n s st) (fun _ => True) := by
  unfold riverbankref05_half.f
  refine Tot.ite (fun h => ?_) (fun h => ?_)
  · have := h1 h
    rw [wi (by omega) (by omega)]
    exact Tot.ite (fun _ => Tot.ite (fun _ => Tot.ret trivial) (fun h => absurd h (by omega))) (fun h => absurd h (by omega))
  · have := h2 h
    rw [wi (by omega) (by omega)]
    exact Tot.ite (fun _ => Tot.ite (fun _ => Tot.ret trivial) (fun h => absurd h (by omega))) (fun h => absurd h (by omega))
theorem mxmn (a b : Int) (h : mx a b - mn a b = 2) (h0 : 0 ≤ a) (h1 : 0 ≤ b) : (b > a → b = a + 2) ∧ (¬ b > a → a = b + 2) := by
  unfold mx mn at h
  split at h <;> split at h <;> constructor <;> intro <;> omega
theorem t_horse (s : ByteArray) (hs : s.size = 90) (a b : Int) (a0 : 0 ≤ a) (a1 : a < 90) (b0 : 0 ≤ b) (b1 : b < 90) : Tot (fun k => riverbankref05_horse.f k s a b) (fun _ => True) := by
  unfold riverbankref05_horse.f
  have da : wrap64 (Int.tdiv a 9) = a / 9 := by rw [Int.tdiv_eq_ediv_of_nonneg a0, wi (by omega) (by omega)]
  have db : wrap64 (Int.tdiv b 9) = b / 9 := by rw [Int.tdiv_eq_ediv_of_nonneg b0, wi (by omega) (by omega)]
  have ma : Int.tmod a 9 = a % 9 := Int.tmod_eq_emod_of_nonneg a0
  have mb : Int.tmod b 9 = b % 9 := Int.tmod_eq_emod_of_nonneg b0
  have hw : ∀ x y : Int, 0 ≤ x → x < 90 → 0 ≤ y → y < 90 → riverbankref05_away.f x y = some (mx x y - mn x y) := by
    intro x y x0 x1 y0 y1
    unfold riverbankref05_away.f
    have p := mx_le (a := x) (b := y) (c := 89) (by omega) (by omega)
    have q := mn_ge (a := x) (b := y) (c := 0) (by omega) (by omega)
    have p' : 0 ≤ mx x y := by unfold mx; split <;> omega
    have q' := mn_le (a := x) (b := y) (c := 89) (by omega) (by omega)
    rw [wi (by omega) (by omega)]
  have hj : ∀ (u v : Int) (c : Bool), v = mx (a / 9) (b / 9) - mn (a / 9) (b / 9) → u = mx (a % 9) (b % 9) - mn (a % 9) (b % 9) → (c = true → v = 2) → Tot (fun k => riverbankref05_horse.j0 k s a b u v c) (fun _ => True) := by
    intro u v c hv hu hc
    refine Tot.succ ?_
    simp only [riverbankref05_horse.j0]
    rw [da, db, ma, mb]
    refine Tot.ite (fun h => Tot.bind (t_half s hs _ _ _ _ ?_ ?_) (fun _ _ _ => Tot.ret trivial)) (fun _ => Tot.ite (fun h => Tot.ite (fun _ => Tot.bind (t_half s hs _ _ _ _ ?_ ?_) (fun _ _ _ => Tot.ret trivial)) (fun _ => Tot.ret trivial)) (fun _ => Tot.ret trivial))
    · have := mxmn (a / 9) (b / 9) (by rw [← hv]; exact hc h) (by omega) (by omega)
      intro g; have := this.1 g; omega
    · have := mxmn (a / 9) (b / 9) (by rw [← hv]; exact hc h) (by omega) (by omega)
      intro g; have := this.2 g; omega
    · have := mxmn (a % 9) (b % 9) (by rw [← hu]; exact h) (by omega) (by omega)
      intro g; have := this.1 g; omega
    · have := mxmn (a % 9) (b % 9) (by rw [← hu]; exact h) (by omega) (by omega)
      intro g; have := this.2 g; omega
  rw [ma, mb, da, db, hw _ _ (by omega) (by omega) (by omega) (by omega), hw _ _ (by omega) (by omega) (by omega) (by omega)]
  simp only [Option.bind_some]
  exact Tot.ite (fun _ => hj _ _ _ rfl rfl (fun h => by simpa using h)) (fun _ => hj _ _ _ rfl rfl (fun h => by cases h))
theorem t_pawn (x a b : Int) : Tot (fun k => riverbankref05_pawn.f k x a b) (fun _ => True) := by
  unfold riverbankref05_pawn.f
  have hj : ∀ c, Tot (fun k => riverbankref05_pawn.j0 k x a b c) (fun _ => True) := by
    intro c
    refine Tot.succ ?_
    simp only [riverbankref05_pawn.j0]
    (repeat' (first | exact Tot.ret trivial | exact Tot.c (c_real _ _) | exact Tot.c (c_File _) | exact Tot.c (c_own _ _) | exact Tot.c (c_Palace _ _) | exact Tot.c (c_Over _ _) | exact Tot.c (c_advisor _ _) | exact Tot.c (c_away _ _) | exact t_Side _ _ | exact t_Kind _ _ | refine Tot.ite (fun _ => ?_) (fun _ => ?_) | refine Tot.bind (Tot.c (c_real _ _)) (fun _ _ _ => ?_) | refine Tot.bind (Tot.c (c_File _)) (fun _ _ _ => ?_) | refine Tot.bind (Tot.c (c_own _ _)) (fun _ _ _ => ?_) | refine Tot.bind (Tot.c (c_Palace _ _)) (fun _ _ _ => ?_) | refine Tot.bind (Tot.c (c_Over _ _)) (fun _ _ _ => ?_) | refine Tot.bind (Tot.c (c_advisor _ _)) (fun _ _ _ => ?_) | refine Tot.bind (Tot.c (c_away _ _)) (fun _ _ _ => ?_) | refine Tot.bind (t_Side _ _) (fun _ _ _ => ?_) | refine Tot.bind (t_Kind _ _) (fun _ _ _ => ?_)))
  exact Tot.ite (fun _ => hj _) (fun _ => hj _)
theorem t_can (s : ByteArray) (hs : s.size = 90) (a b : Int) (a0 : 0 ≤ a) (a1 : a < 90) (b0 : 0 ≤ b) (b1 : b < 90) : Tot (fun k => riverbankref05_can.f k s a b) (fun _ => True) := by
  have hm : wrap64 (Int.tdiv (wrap64 (a + b)) 2) = (a + b) / 2 := by
    rw [wi (x := a + b) (by omega) (by omega), Int.tdiv_eq_ediv_of_nonneg (by omega), wi (by omega) (by omega)]
  unfold riverbankref05_can.f
  rw [hm]
  have hi : (0 ≤ a) ∧ a < (s.size : Int) := ⟨a0, by omega⟩
  have hq : (0 ≤ (a + b) / 2) ∧ (a + b) / 2 < (s.size : Int) := ⟨by omega, by omega⟩
  have hb : (0 ≤ b) ∧ b < (s.size : Int) := ⟨b0, by omega⟩
  refine Tot.ite (fun _ => ?_) (fun h => absurd hi.1 h)
  refine Tot.ite (fun _ => ?_) (fun h => absurd hi.2 h)
  refine Tot.bind (Tot.c (c_away _ _)) (fun u _ _ => Tot.bind (Tot.c (c_away _ _)) (fun v _ _ => Tot.bind (t_Kind s a) (fun kd _ _ => ?_)))
  refine Tot.ite (fun _ => Tot.ite (fun _ => Tot.bind (t_May s a b) (fun _ _ _ => Tot.ret trivial)) (fun _ => Tot.ret trivial)) (fun _ => ?_)
  refine Tot.ite (fun _ => Tot.ite (fun _ => Tot.ite (fun _ => Tot.bind (t_May s a b) (fun _ _ _ => Tot.ret trivial)) (fun _ => Tot.ret trivial)) (fun _ => Tot.ret trivial)) (fun _ => ?_)
  refine Tot.ite (fun _ => Tot.ite (fun _ => Tot.ite (fun _ => Tot.bind (t_May s a b) (fun _ _ _ => Tot.ite (fun _ => Tot.ite (fun _ => Tot.ite (fun _ => Tot.ret trivial) (fun h => absurd hq.2 h)) (fun h => absurd hq.1 h)) (fun _ => Tot.ret trivial))) (fun _ => Tot.ret trivial)) (fun _ => Tot.ret trivial)) (fun _ => ?_)
  refine Tot.ite (fun _ => Tot.bind (t_horse s hs a b a0 a1 b0 b1) (fun _ _ _ => Tot.ret trivial)) (fun _ => ?_)
  refine Tot.ite (fun _ => Tot.bind (t_between s hs a b a0 a1 b0 b1) (fun _ _ _ => Tot.ret trivial)) (fun _ => ?_)
  refine Tot.ite (fun _ => Tot.bind (t_between s hs a b a0 a1 b0 b1) (fun _ _ _ => ?_)) (fun _ => ?_)
  · refine Tot.ite (fun _ => Tot.ite (fun _ => Tot.ite (fun _ => Tot.ite (fun _ => Tot.ret trivial) (fun _ => Tot.ite (fun _ => Tot.ret trivial) (fun _ => Tot.ret trivial))) (fun h => absurd hb.2 h)) (fun h => absurd hb.1 h)) (fun _ => ?_)
    exact Tot.ite (fun _ => Tot.ite (fun _ => Tot.ite (fun _ => Tot.ret trivial) (fun h => absurd hb.2 h)) (fun h => absurd hb.1 h)) (fun _ => Tot.ret trivial)
  · exact Tot.bind (t_Side s a) (fun _ _ _ => Tot.bind (t_pawn _ _ _) (fun _ _ _ => Tot.ret trivial))
theorem t_Fast (s : ByteArray) (hs : s.size = 90) (a b : Int) (a0 : 0 ≤ a) (a1 : a < 90) (b0 : 0 ≤ b) (b1 : b < 90) : Tot (fun k => riverbankref05_Fast.f k s a b) (fun v => v = true → ∀ x, Ev (fun k => riverbankref02_Side.f k (bt s a)) x → ¬ Ev (fun k => riverbankref02_Side.f k (bt s b)) x) := by
  unfold riverbankref05_Fast.f
  refine Tot.ite (fun _ => ?_) (fun h => absurd a0 h)
  refine Tot.ite (fun _ => ?_) (fun h => absurd h (by omega))
  refine Tot.bind (t_Side s a) (fun u hu eu => Tot.ite (fun _ => Tot.ret (fun h => by cases h)) (fun _ => ?_))
  refine Tot.ite (fun _ => ?_) (fun h => absurd b0 h)
  refine Tot.ite (fun _ => ?_) (fun h => absurd h (by omega))
  refine Tot.bind (t_Side s b) (fun v hv ev => Tot.ite (fun _ => Tot.ret (fun h => by cases h)) (fun hne => ?_))
  exact Tot.bind (t_can s hs a b a0 a1 b0 b1) (fun x _ _ => Tot.ret (fun _ y ya yb => hne (by rw [ev.uniq yb, ya.uniq eu])))
theorem setB_size (s : ByteArray) (n : Nat) (c : UInt8) (h : n < s.size) : (setB s n c).size = s.size := by rw [setB_setL s n c h, setL_size]
theorem t_Attackers (s : ByteArray) (a b : Int) : Tot (fun k => riverbankref07_Attackers.f k s a b) (fun _ => True) := by
  unfold riverbankref07_Attackers.f
  have hj : Tot (fun k => riverbankref07_Attackers.j0 k s a b true) (fun _ => True) := by
    refine Tot.succ ?_
    simp only [riverbankref07_Attackers.j0]
    exact Tot.ite (fun _ => Tot.ret trivial) (fun h => absurd trivial h)
  rcases board_tf s with hb | hb
  · have hs := board_size hb
    refine Tot.bind (Tot.is (e_Is s _ hb)) (fun v _ _ => Tot.ite (fun _ => Tot.ite (fun _ => hj) (fun h0 => Tot.ite (fun _ => hj) (fun h1 => Tot.ite (fun _ => hj) (fun h2 => ?_)))) (fun _ => hj))
    refine Tot.succ ?_
    simp only [riverbankref07_Attackers.j0]
    refine Tot.ite (fun _ => Tot.ret trivial) (fun h3 => ?_)
    have h4 : b = 0 ∨ b = 1 := by simp at h3; omega
    have hput : ∃ q, riverbankref07_put.f s a b = some q ∧ q.size = 90 := by
      unfold riverbankref07_put.f riverbankref02_Of.f
      rw [if_pos ⟨by omega, by omega, by omega⟩]
      rcases h4 with rfl | rfl
      · rw [if_pos (by decide +kernel)]
        simp only [Option.bind_some]
        rw [if_pos (by decide)]
        exact ⟨_, rfl, by rw [setB_size s _ _ (by omega)]; exact hs⟩
      · rw [if_neg (by decide +kernel)]
        simp only [Option.bind_some]
        rw [if_pos (by decide)]
        exact ⟨_, rfl, by rw [setB_size s _ _ (by omega)]; exact hs⟩
    obtain ⟨q, hq, hqs⟩ := hput
    have hl : ∀ (d i : Nat) (l : List Int), i + d = 90 → l.length ≤ i → Tot (fun k => riverbankref07_Attackers.l0 k a b q l (i : Int)) (fun _ => True) := by
      intro d
      induction d with
      | zero =>
        intro i l hi hl
        refine Tot.succ ?_
        simp only [riverbankref07_Attackers.l0]
        refine Tot.ite (fun h => absurd h (by omega)) (fun _ => Tot.ret trivial)
      | succ d ih =>
        intro i l hi hl
        refine Tot.succ ?_
        simp only [riverbankref07_Attackers.l0]
        have hi1 : wrap64 ((i : Int) + 1) = ((i + 1 : Nat) : Int) := by rw [wi (by omega) (by omega)]; omega
        rw [hi1]
        refine Tot.ite (fun _ => Tot.ite (fun _ => Tot.ite (fun _ => ?_) (fun h => absurd h (by omega))) (fun h => absurd h (by omega))) (fun _ => Tot.ret trivial)
        refine Tot.bind (t_Side q _) (fun _ _ _ => Tot.ite (fun _ => ?_) (fun _ => ih (i + 1) _ (by omega) (by omega)))
        exact Tot.bind (t_Fast q hqs _ _ (by omega) (by omega) (by omega) (by omega)) (fun _ _ _ => Tot.ite (fun _ => Tot.ite (fun _ => ih (i + 1) _ (by omega) (by simp; omega)) (fun h => absurd h (by omega))) (fun _ => ih (i + 1) _ (by omega) (by omega)))
    rw [hq]
    simp only [Option.bind_some]
    exact hl 90 0 [] (by omega) (by simp)
  · exact Tot.bind (Tot.is (e_Is s _ hb)) (fun v hv _ => Tot.ite (fun h => by rw [hv] at h; cases h) (fun _ => hj))
theorem t_In (s : ByteArray) (a : Int) : Tot (fun k => riverbankref07_In.f k s a) (fun _ => True) := by
  unfold riverbankref07_In.f
  exact Tot.bind (t_General s a) (fun _ _ _ => Tot.ite (fun _ => Tot.bind (t_Attackers s _ _) (fun _ _ _ => Tot.ret trivial)) (fun _ => Tot.ret trivial))
theorem t_Safe (s : ByteArray) (a : Int) : Tot (fun k => riverbankref08_Safe.f k s a) (fun _ => True) := by
  unfold riverbankref08_Safe.f
  exact Tot.bind (t_Facing s) (fun _ _ _ => Tot.ite (fun _ => Tot.ret trivial) (fun _ => Tot.bind (t_In s a) (fun _ _ _ => Tot.ret trivial)))
theorem t_Well (s : ByteArray) (a b c : Int) : Tot (fun k => riverbankref07_Well.f k s a b c) (fun v => v = 0 → ((a = 0 ∨ a = 1) ∧ board_Is.f s = some true) ∧ Ev (fun k => riverbankref03_Check.f k s a b c) 0) := by
  unfold riverbankref07_Well.f
  refine Tot.bind (t_Check s a b c) (fun v hv ev => Tot.ite (fun hz => ?_) (fun hz => Tot.ret (fun h => absurd h hz)))
  refine Tot.bind (t_Facing s) (fun _ _ _ => Tot.ite (fun _ => Tot.ret (fun h => absurd h (by decide))) (fun _ => ?_))
  exact Tot.bind (t_In s _) (fun _ _ _ => Tot.ite (fun _ => Tot.ret (fun h => absurd h (by decide))) (fun _ => Tot.ret (fun _ => ⟨hv hz, by subst hz; exact ev⟩)))
/-! ### lists of moves -/
/-- A move of a side on a board, that Fast lets through. -/
def Good6 (s : ByteArray) (side : Int) (m : S41) : Prop := (0 ≤ m.f0 ∧ m.f0 < 90 ∧ 0 ≤ m.f1 ∧ m.f1 < 90 ∧ ¬ Ev (fun k => riverbankref02_Side.f k (bt s m.f1)) side) ∧ Ev (fun k => riverbankref02_Side.f k (bt s m.f0)) side ∧ Ev (fun k => riverbankref05_Fast.f k s m.f0 m.f1) true
theorem t_Of6 (s : ByteArray) (hs : s.size = 90) (side : Int) : Tot (fun k => riverbankref06_Of.f k s side) (fun l => l.length ≤ 8100 ∧ ∀ m ∈ l, Good6 s side m) := by
  unfold riverbankref06_Of.f
  have h0 : ∀ (d i : Nat) (l : List S41), i + d = 90 → l.length ≤ 90 * i → (∀ m ∈ l, Good6 s side m) → Tot (fun k => riverbankref06_Of.l0 k s side l (i : Int)) (fun l => l.length ≤ 8100 ∧ ∀ m ∈ l, Good6 s side m) := by
    intro d
    induction d with
    | zero =>
      intro i l hi hl hg
      refine Tot.succ ?_
      simp only [riverbankref06_Of.l0]
      exact Tot.ite (fun h => absurd h (by omega)) (fun _ => Tot.ret ⟨by omega, hg⟩)
    | succ d ih =>
      intro i l hi hl hg
      have hi1 : wrap64 ((i : Int) + 1) = ((i + 1 : Nat) : Int) := by rw [wi (by omega) (by omega)]; omega
      have h1 : Ev (fun k => riverbankref02_Side.f k (bt s (i : Int))) side → ∀ (e j : Nat) (l : List S41), j + e = 90 → l.length ≤ 90 * i + j → (∀ m ∈ l, Good6 s side m) → Tot (fun k => riverbankref06_Of.l1 k s side l (i : Int) (j : Int)) (fun l => l.length ≤ 8100 ∧ ∀ m ∈ l, Good6 s side m) := by
        intro hsd e
        induction e with
        | zero =>
          intro j l hj hl hg
          refine Tot.succ ?_
          simp only [riverbankref06_Of.l1]
          rw [hi1]
          exact Tot.ite (fun h => absurd h (by omega)) (fun _ => ih (i + 1) l (by omega) (by omega) hg)
        | succ e ihe =>
          intro j l hj hl hg
          refine Tot.succ ?_
          simp only [riverbankref06_Of.l1]
          have hj1 : wrap64 ((j : Int) + 1) = ((j + 1 : Nat) : Int) := by rw [wi (by omega) (by omega)]; omega
          rw [hi1, hj1]
          refine Tot.ite (fun _ => ?_) (fun h => absurd h (by omega))
          refine Tot.bind (t_Fast s hs _ _ (by omega) (by omega) (by omega) (by omega)) (fun v hv ev => Tot.ite (fun ht => Tot.ite (fun _ => ?_) (fun h => absurd h (by omega))) (fun _ => ihe (j + 1) l (by omega) (by omega) hg))
          refine ihe (j + 1) _ (by omega) (by simp; omega) ?_
          intro m hm
          rcases List.mem_append.mp hm with hm | hm
          · exact hg m hm
          · obtain rfl := List.mem_singleton.mp hm
            exact ⟨⟨by simp, by simp; omega, by simp, by simp; omega, hv ht _ hsd⟩, hsd, by subst ht; exact ev⟩
      refine Tot.succ ?_
      simp only [riverbankref06_Of.l0]
      rw [hi1]
      refine Tot.ite (fun _ => Tot.ite (fun _ => Tot.ite (fun _ => ?_) (fun h => absurd h (by omega))) (fun h => absurd h (by omega))) (fun h => absurd h (by omega))
      exact Tot.bind (t_Side s _) (fun v _ ev => Tot.ite (fun hv => h1 (by subst hv; exact ev) 90 0 l (by omega) (by omega) hg) (fun _ => ih (i + 1) l (by omega) (by omega) hg))
  exact h0 90 0 [] (by omega) (by simp) (by simp)
theorem movedB_setL (s : ByteArray) (i j : Nat) (h : i < s.size) : movedB s i j = setL (setL s j (s.get! i)) i 46 := by
  have e : s.data.toList.getD i 0 = s.get! i := by
    rw [get_list s i h]
    simp [List.getD, List.getElem?_eq_getElem (show i < s.data.toList.length by simpa using h)]
  unfold movedB setL
  rw [e]
/-- A move that may be made. -/
def Good8 (s : ByteArray) (side : Int) (m : S41) : Prop := Good6 s side m ∧ (∃ v, v ≠ 75 ∧ Ev (fun k => riverbankref02_Kind.f k (bt s m.f1)) v) ∧ Ev (fun k => riverbankref08_Safe.f k (movedB s m.f0.toNat m.f1.toNat) side) true
theorem moved_f (s : ByteArray) (hs : s.size = 90) (a b : Int) (a0 : 0 ≤ a) (a1 : a < 90) (b0 : 0 ≤ b) (b1 : b < 90) : riverbankref06_Moved.f s a b = some (movedB s a.toNat b.toNat) := by
  unfold riverbankref06_Moved.f
  rw [if_pos ⟨a0, by omega, b0, by omega, by omega⟩]
theorem rd_mem (l : List S41) (i : Nat) (h : i < l.length) : rd_T41 l (i : Int) ∈ l := by
  have e : rd_T41 l (i : Int) = l[i]'h := by simp [rd_T41, List.getD, List.getElem?_eq_getElem h]
  rw [e]; exact List.getElem_mem h
theorem t_Of8 (s : ByteArray) (hs : s.size = 90) (side : Int) : Tot (fun k => riverbankref08_Of.f k s side) (fun l => l.length ≤ 8100 ∧ ∀ m ∈ l, Good8 s side m) := by
  unfold riverbankref08_Of.f
  refine Tot.bind (t_Of6 s hs side) (fun x hx _ => ?_)
  obtain ⟨hxl, hxg⟩ := hx
  have h0 : ∀ (d i : Nat) (l : List S41), i + d = x.length → l.length ≤ i → (∀ m ∈ l, Good8 s side m) → Tot (fun k => riverbankref08_Of.l0 k s side x l (i : Int)) (fun l => l.length ≤ 8100 ∧ ∀ m ∈ l, Good8 s side m) := by
    intro d
    induction d with
    | zero =>
      intro i l hi hl hg
      refine Tot.succ ?_
      simp only [riverbankref08_Of.l0]
      exact Tot.ite (fun h => absurd h (by omega)) (fun _ => Tot.ret ⟨by omega, hg⟩)
    | succ d ih =>
      intro i l hi hl hg
      have hi1 : wrap64 ((i : Int) + 1) = ((i + 1 : Nat) : Int) := by rw [wi (by omega) (by omega)]; omega
      have hm := hxg _ (rd_mem x i (by omega))
      obtain ⟨⟨m0, m1, m2, m3, m4⟩, hm5, hm6⟩ := id hm
      refine Tot.succ ?_
      simp only [riverbankref08_Of.l0]
      rw [hi1, moved_f s hs _ _ m0 m1 m2 m3]
      simp only [Option.bind_some]
      refine Tot.ite (fun _ => Tot.ite (fun _ => Tot.ite (fun _ => Tot.ite (fun _ => ?_) (fun h => absurd h (by omega))) (fun h => absurd m2 h)) (fun h => absurd h (by omega))) (fun h => absurd h (by omega))
      refine Tot.bind (t_Kind s _) (fun kd _ ek => Tot.ite (fun _ => ih (i + 1) l (by omega) (by omega) hg) (fun hk => ?_))
      refine Tot.bind (t_Safe _ side) (fun sf _ es => Tot.ite (fun hsf => Tot.ite (fun _ => ?_) (fun h => absurd h (by omega))) (fun _ => ih (i + 1) l (by omega) (by omega) hg))
      refine ih (i + 1) _ (by omega) (by simp; omega) ?_
      intro m hm'
      rcases List.mem_append.mp hm' with hm' | hm'
      · exact hg m hm'
      · obtain rfl := List.mem_singleton.mp hm'
        exact ⟨hm, ⟨kd, hk, ek⟩, by subst hsf; exact es⟩
  exact h0 x.length 0 [] (by omega) (by simp) (by simp)
theorem t_Moves (s : ByteArray) (a b c : Int) : Tot (fun k => riverbankref08_Moves.f k s a b c) (fun l => l.length ≤ 8100 ∧ ∀ m ∈ l, (Good8 s a m ∧ Ev (fun k => riverbankref07_Well.f k s a b c) 0 ∧ Ev (fun k => riverbankref03_Check.f k s a b c) 0) ∧ (a = 0 ∨ a = 1) ∧ board_Is.f s = some true) := by
  unfold riverbankref08_Moves.f
  refine Tot.bind (t_Well s a b c) (fun v hv ev => Tot.ite (fun hz => ?_) (fun _ => Tot.ret ⟨by simp, by simp⟩))
  obtain ⟨⟨h1, h2⟩, h3⟩ := hv hz
  subst hz
  exact Tot.bind (t_Of8 s (board_size h2) a) (fun l hl _ => Tot.ret ⟨hl.1, fun m hm => ⟨⟨hl.2 m hm, ev, h3⟩, h1, h2⟩⟩)
end Go.Proofs.Ytmfbgcimfmgobaa.TotMath

-- of YtmfbgcimfmgobaaTotTwo
/- A move that is made: what it leaves, its key and its worth. -/
namespace Go.Proofs.Ytmfbgcimfmgobaa.TotMath
open Go.RowKit Go.Proofs.Ytmfbgcimfmgobaa.Print Go.Proofs.Ytmfbgcimfmgobaa.KeyMath Go.Proofs.Ytmfbgcimfmgobaa.KeyRef Go.Proofs.YtmfbgcimfmgobaaW.PrintWords Go.Proofs.YtmfbgcimfmgobaaW.PrintLast
/-- What is taken: nothing off an empty square. -/
def takenU (s : ByteArray) (j : Int) : Int := if bt s j = 46 then 0 else bt s j
theorem t_Apply (s : ByteArray) (hs : s.size = 90) (a b c : Int) (m : S41) (hg : Good8 s a m) (hc : Ev (fun k => riverbankref03_Check.f k s a b c) 0) :
    Tot (fun k => riverbankref06_Apply.f k s a b c m.f0 m.f1) (fun r => r.1 = movedB s m.f0.toNat m.f1.toNat ∧ r.2.1 = wrap64 (1 - a) ∧ r.2.2.2.2.1 = takenU s m.f1 ∧ r.2.2.2.2.2 = 0) := by
  obtain ⟨⟨⟨m0, m1, m2, m3, m4⟩, hsd, hf⟩, ⟨kd, hk, ek⟩, _⟩ := hg
  unfold riverbankref06_Apply.f
  refine Tot.bind (Tot.is hc) (fun e he _ => ?_)
  subst he
  refine Tot.ite (fun _ => ?_) (fun h => absurd rfl h)
  refine Tot.ite (fun h => absurd h (by omega)) (fun _ => Tot.ite (fun h => absurd h (by omega)) (fun _ => Tot.ite (fun h => absurd h (by omega)) (fun _ => Tot.ite (fun h => absurd h (by omega)) (fun _ => ?_))))
  refine Tot.ite (fun _ => ?_) (fun h => absurd m0 h)
  refine Tot.ite (fun _ => ?_) (fun h => absurd h (by omega))
  refine Tot.bind (Tot.is hsd) (fun u hu _ => ?_)
  subst hu
  refine Tot.ite (fun _ => ?_) (fun h => absurd rfl h)
  refine Tot.bind (Tot.is hf) (fun f hf _ => ?_)
  subst hf
  refine Tot.ite (fun _ => ?_) (fun h => absurd rfl h)
  refine Tot.ite (fun _ => ?_) (fun h => absurd m2 h)
  refine Tot.ite (fun _ => ?_) (fun h => absurd h (by omega))
  refine Tot.bind (Tot.is ek) (fun u hu _ => ?_)
  subst hu
  have e75 : (u == 75) = false := by simp [hk]
  rw [e75]
  refine Tot.succ ?_
  simp only [riverbankref06_Apply.j0]
  rw [moved_f s hs _ _ m0 m1 m2 m3]
  simp only [Option.bind_some]
  refine Tot.ite (fun h => by cases h) (fun _ => ?_)
  refine Tot.ite (fun _ => ?_) (fun h => absurd m2 h)
  refine Tot.ite (fun _ => ?_) (fun h => absurd h (by omega))
  unfold takenU
  refine Tot.ite (fun h => Tot.ite (fun _ => Tot.ret ⟨rfl, rfl, by rw [if_pos h], rfl⟩) (fun _ => Tot.ret ⟨rfl, rfl, by rw [if_pos h], rfl⟩)) (fun h => Tot.ite (fun _ => Tot.ret ⟨rfl, rfl, by rw [if_neg h], rfl⟩) (fun _ => Tot.ret ⟨rfl, rfl, by rw [if_neg h], rfl⟩))
theorem t_Make (s : ByteArray) (hs : s.size = 90) (a b c : Int) (m : S41) (hg : Good8 s a m) (hw : Ev (fun k => riverbankref07_Well.f k s a b c) 0) (hc : Ev (fun k => riverbankref03_Check.f k s a b c) 0) :
    Tot (fun k => riverbankref08_Make.f k s a b c m.f0 m.f1) (fun r => r.1 = movedB s m.f0.toNat m.f1.toNat ∧ r.2.1 = wrap64 (1 - a) ∧ r.2.2.2.2.1 = takenU s m.f1 ∧ r.2.2.2.2.2 = 0) := by
  unfold riverbankref08_Make.f
  refine Tot.bind (Tot.is hw) (fun e he _ => ?_)
  subst he
  refine Tot.ite (fun _ => ?_) (fun h => absurd rfl h)
  refine Tot.bind (t_Apply s hs a b c m hg hc) (fun r hr _ => ?_)
  obtain ⟨h1, h2, h3, h4⟩ := hr
  refine Tot.ite (fun _ => ?_) (fun h => absurd h4 h)
  refine Tot.bind (Tot.is (F := fun k => riverbankref08_Safe.f k r.1 a) (v := true) (by rw [h1]; exact hg.2.2)) (fun e he _ => ?_)
  subst he
  exact Tot.ite (fun _ => Tot.ret ⟨h1, h2, h3, rfl⟩) (fun h => absurd rfl h)
/-- The board behind a move, off the squares. -/
theorem moved_board (s : ByteArray) (hb : board_Is.f s = some true) (i j : Nat) (hi : i < 90) (hj : j < 90) : board_Is.f (movedB s i j) = some true := by
  have hs := board_size hb
  rw [movedB_setL s i j (by omega)]
  exact setL_board _ _ _ (setL_board s j _ hb (board_cell hb i (by omega))) (by decide)
theorem other_side (a : Int) (h : a = 0 ∨ a = 1) : wrap64 (1 - a) = 1 - a := wi (by omega) (by omega)
theorem takenU_byte (s : ByteArray) (hs : s.size = 90) (j : Nat) (hj : j < 90) : ∃ t : UInt8, takenU s (j : Int) = (t.toNat : Int) ∧ (s.get! j ≠ 46 → t = s.get! j) ∧ (s.get! j = 46 → t = 0) := by
  unfold takenU
  rw [bt_get s j (by omega)]
  by_cases h : s.get! j = 46
  · rw [if_pos (by rw [eq46]; exact h)]; exact ⟨0, rfl, fun x => absurd h x, fun _ => rfl⟩
  · rw [if_neg (by rw [eq46]; exact h)]; exact ⟨_, rfl, fun _ => rfl, fun x => absurd x h⟩
theorem cellV_zero (n : Int) : cellV 0 n = 0 := by
  unfold cellV
  have e : key_place.f (((0 : UInt8).toNat : Nat) : Int) n = some 0 := by
    unfold key_place.f strings_IndexByte.f
    rw [show Lib.indexByte ([75, 65, 66, 78, 82, 67, 80, 107, 97, 98, 110, 114, 99, 112] : List UInt8) ((((0 : UInt8).toNat : Nat) : Int).toNat.toUInt8) = -1 by decide]
    rfl
  rw [e]; rfl
theorem keyV_moved (s : ByteArray) (hs : s.size = 90) (a : Int) (ha : a = 0 ∨ a = 1) (i j : Nat) (hi : i < 90) (hj : j < 90) (hne : i ≠ j) :
    keyV (movedB s i j) (1 - a) = keyV s a ^^^ cellV (s.get! i) i ^^^ cellV (s.get! i) j ^^^ cellV (s.get! j) j ^^^ rowNat 1261 := by
  rw [movedB_setL s i j (by omega), keyV_set _ (by rw [setL_size]; exact hs) i hi, keyV_set s hs j hj, setL_get s j _ i (by omega), if_neg (by omega), cellV_dot, Nat.xor_zero]
  have e : keyV s (1 - a) = keyV s a ^^^ rowNat 1261 := by
    have t0 : turnV 0 = 0 := by unfold turnV; rw [if_neg (by decide)]
    have t1 : turnV 1 = rowNat 1261 := by unfold turnV; rw [if_pos rfl]
    unfold keyV
    rcases ha with rfl | rfl
    · rw [show (1 : Int) - 0 = 1 from rfl, t0, t1, Nat.zero_xor, Nat.xor_comm]
    · rw [show (1 : Int) - 1 = 0 from rfl, t0, t1, Nat.zero_xor, Nat.xor_comm (rowNat 1261), Nat.xor_assoc, Nat.xor_self, Nat.xor_zero]
  rw [e]
  apply Nat.eq_of_testBit_eq
  intro n
  simp only [Nat.testBit_xor]
  cases (keyV s a).testBit n <;> cases (cellV (s.get! i) (i : Int)).testBit n <;> cases (cellV (s.get! i) (j : Int)).testBit n <;> cases (cellV (s.get! j) (j : Int)).testBit n <;> cases (rowNat 1261).testBit n <;> rfl
theorem keyMoved_f (z : Nat) (hz : z < 18446744073709551616) (c t : UInt8) (f g : Int) : key_Moved.f (z : Int) c.toNat f g t.toNat = some ((z ^^^ cellV c f ^^^ cellV c g ^^^ cellV t g ^^^ rowNat 1261 : Nat) : Int) := by
  obtain ⟨a1, _, a2⟩ := cell_V c f
  obtain ⟨b1, _, b2⟩ := cell_V c g
  obtain ⟨d1, _, d2⟩ := cell_V t g
  unfold key_Moved.f
  rw [a1, b1, d1, turn_f]
  simp only [Option.bind_some]
  rw [bits_xor_u64_nat _ _ hz a2, bits_xor_u64_nat _ _ (xor_lt hz a2) b2, bits_xor_u64_nat _ _ (xor_lt (xor_lt hz a2) b2) d2, bits_xor_u64_nat _ _ (xor_lt (xor_lt (xor_lt hz a2) b2) d2) (rowNat_lt _)]
theorem key_follow (s : ByteArray) (a b c : Int) (m : S41) (hg : Good8 s a m) (ha : a = 0 ∨ a = 1) (hb : board_Is.f s = some true) (r : ByteArray × Int × Int × Int × Int × Int) (hr : r.1 = movedB s m.f0.toNat m.f1.toNat ∧ r.2.1 = wrap64 (1 - a) ∧ r.2.2.2.2.1 = takenU s m.f1 ∧ r.2.2.2.2.2 = 0) :
    ∃ v, key_Moved.f (keyV s a : Int) (bt s m.f0) m.f0 m.f1 r.2.2.2.2.1 = some v ∧ key_Of.f r.1 r.2.1 r.2.2.1 r.2.2.2.1 = some v := by
  obtain ⟨⟨⟨m0, m1, m2, m3, m4⟩, m5, _⟩, _, _⟩ := hg
  obtain ⟨h1, h2, h3, _⟩ := hr
  have hs := board_size hb
  obtain ⟨i, hi⟩ : ∃ i : Nat, m.f0 = i := ⟨m.f0.toNat, by omega⟩
  obtain ⟨j, hj⟩ : ∃ i : Nat, m.f1 = i := ⟨m.f1.toNat, by omega⟩
  rw [h1, h2, h3, hi, hj]
  rw [hi] at m0 m1
  rw [hj] at m2 m3
  simp only [Int.toNat_natCast]
  have hne : i ≠ j := by intro e; exact m4 (by rw [hj, ← e, ← hi]; exact m5)
  obtain ⟨t, ht, t1, t2⟩ := takenU_byte s hs j (by omega)
  refine ⟨_, by rw [ht, bt_get s i (by omega)]; exact keyMoved_f _ (keyV_lt s a) _ _ _ _, ?_⟩
  rw [key_Of_board _ _ _ _ (moved_board s hb i j (by omega) (by omega)), other_side a ha, keyV_moved s hs a ha i j (by omega) (by omega) hne]
  have e : cellV t (j : Int) = cellV (s.get! j) (j : Int) := by
    by_cases h : s.get! j = 46
    · rw [t2 h, h, cellV_zero, cellV_dot]
    · rw [t1 h]
  rw [e]
end Go.Proofs.Ytmfbgcimfmgobaa.TotMath

-- of YtmfbgcimfmgobaaPureKeyFollows
/- For every position of at most 200 bytes: behind each of the document's moves the key that was moved is the key of the position; where there are none, the examples of live() hold; no condition. -/
namespace Go.Proofs.Ytmfbgcimfmgobaa.Pure
open Go.RowKit Go.Proofs.Ytmfbgcimfmgobaa.Print Go.Proofs.Ytmfbgcimfmgobaa.KeyMath Go.Proofs.Ytmfbgcimfmgobaa.KeyRef Go.Proofs.Ytmfbgcimfmgobaa.TotMath Go.Proofs.YtmfbgcimfmgobaaW.PrintWords Go.Proofs.YtmfbgcimfmgobaaW.PrintLast
theorem KeyFollows (s : ByteArray) (a b c : Int) (_ : (Lit.int .i64 a).wf = true) (_ : (Lit.int .i64 b).wf = true) (_ : (Lit.int .i64 c).wf = true) : ∃ k, riverbanklaw10_KeyFollows.f k s a b c = some true := by
  have hl : riverbanklaw10_live.f = some true := rfl
  suffices h : Tot (fun k => riverbanklaw10_KeyFollows.f k s a b c) (fun v => v = true) by
    obtain ⟨v, hv, K, h⟩ := h
    exact ⟨K, by rw [← hv]; exact h K (Nat.le_refl _)⟩
  unfold riverbanklaw10_KeyFollows.f
  simp only [hl, Option.bind_some]
  refine Tot.ite (fun _ => Tot.ret rfl) (fun _ => ?_)
  refine Tot.bind (t_Moves s a b c) (fun l hm _ => ?_)
  obtain ⟨hlen, hm⟩ := hm
  obtain ⟨kv, hkv⟩ : ∃ kv, key_Of.f s a b c = some kv := by
    rcases board_tf s with hb | hb
    · exact ⟨_, key_Of_board s a b c hb⟩
    · exact ⟨_, key_Of_other s a b c hb⟩
  rw [hkv]
  simp only [Option.bind_some]
  have loop : ∀ (d i : Nat), i + d = l.length → Tot (fun k => riverbanklaw10_KeyFollows.l0 k l kv (i : Int) s a b c) (fun v => v = true) := by
    intro d
    induction d with
    | zero =>
      intro i hi
      refine Tot.succ ?_
      simp only [riverbanklaw10_KeyFollows.l0, hl, Option.bind_some]
      exact Tot.ite (fun h => absurd h (by omega)) (fun _ => Tot.ret rfl)
    | succ d ih =>
      intro i hi
      have hi1 : wrap64 ((i : Int) + 1) = ((i + 1 : Nat) : Int) := by rw [wi (by omega) (by omega)]; omega
      obtain ⟨⟨hg, hw, hc⟩, ha, hb⟩ := hm _ (rd_mem l i (by omega))
      have hs := board_size hb
      have hk : kv = (keyV s a : Int) := by rw [key_Of_board s a b c hb] at hkv; exact (Option.some.inj hkv).symm
      have m0 := hg.1.1.1
      have m1 := hg.1.1.2.1
      refine Tot.succ ?_
      simp only [riverbanklaw10_KeyFollows.l0, hl, Option.bind_some]
      rw [hi1]
      refine Tot.ite (fun _ => Tot.ite (fun _ => ?_) (fun h => absurd h (by omega))) (fun h => absurd h (by omega))
      refine Tot.bind (t_Make s hs a b c _ hg hw hc) (fun r hr _ => ?_)
      refine Tot.ite (fun _ => Tot.ite (fun _ => Tot.ite (fun _ => ?_) (fun h => absurd h (by omega))) (fun h => absurd m0 h)) (fun h => absurd hr.2.2.2 h)
      obtain ⟨v, e1, e2⟩ := key_follow s a b c _ hg ha hb r hr
      rw [hk, e1, e2]
      simp only [Option.bind_some]
      rw [← hk]
      exact Tot.ite (fun _ => ih (i + 1) (by omega)) (fun h => absurd trivial h)
  exact loop l.length 0 (by omega)
end Go.Proofs.Ytmfbgcimfmgobaa.Pure
