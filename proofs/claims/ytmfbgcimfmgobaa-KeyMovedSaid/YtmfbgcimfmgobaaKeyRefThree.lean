/- Boards with one byte turned, and their keys. -/
import Derived.Test.YtmfbgcimfmgobaaKeyRefTwo
import Derived.Test.YtmfbgcimfmgobaaPrint13
namespace Go.Proofs.Ytmfbgcimfmgobaa.KeyRef
open Go.RowKit Go.Proofs.Ytmfbgcimfmgobaa.Print Go.Proofs.Ytmfbgcimfmgobaa.KeyMath Go.Proofs.YtmfbgcimfmgobaaW.PrintWords Go.Proofs.YtmfbgcimfmgobaaW.PrintLast

/-- A text with byte n turned to c. -/
def setL (s : ByteArray) (n : Nat) (c : UInt8) : ByteArray := ⟨(s.data.toList.set n c).toArray⟩
theorem setL_size (s : ByteArray) (n : Nat) (c : UInt8) : (setL s n c).size = s.size := by
  show (s.data.toList.set n c).toArray.size = s.data.size
  simp
theorem get_list (s : ByteArray) (j : Nat) (h : j < s.size) : s.get! j = s.data.toList[j]'(by simpa using h) := by
  have e : s.get! j = s.data[j]'h := by simp [ByteArray.get!, h]
  rw [e]; simp
theorem setL_get (s : ByteArray) (n : Nat) (c : UInt8) (j : Nat) (h : j < s.size) : (setL s n c).get! j = if n = j then c else s.get! j := by
  rw [get_list _ _ (by rw [setL_size]; exact h), get_list _ _ h]
  have e : (setL s n c).data.toList = s.data.toList.set n c := by simp [setL]
  rw [List.getElem_of_eq e, List.getElem_set]
theorem setB_setL (s : ByteArray) (n : Nat) (c : UInt8) (h : n < s.size) : setB s n c = setL s n c := by
  have e : (setB s n c).data.toList = s.data.toList.set n c := by
    have hl : n < s.data.toList.length := by simpa using h
    unfold setB
    rw [List.set_eq_take_append_cons_drop, if_pos hl]
    simp [ByteArray.data_append, List.append_assoc]
    exact List.take_of_length_le (by simp)
  apply ByteArray.ext
  apply Array.toList_inj.mp
  rw [e]; simp [setL]
theorem setL_board (s : ByteArray) (n : Nat) (c : UInt8) (h : board_Is.f s = some true) (hc : okCell c = true) : board_Is.f (setL s n c) = some true := by
  have hs := board_size h
  unfold board_Is.f
  have h2 := (all_okCell (setL s n c)).mpr (fun j hj => by
    rw [setL_size] at hj
    rw [setL_get s n c j hj]
    split
    · exact hc
    · exact board_cell h j (by omega))
  rw [h2, setL_size, hs]; rfl
theorem place_dot (n : Int) : key_place.f 46 n = some 0 := by
  unfold key_place.f strings_IndexByte.f
  rw [show Lib.indexByte ([75, 65, 66, 78, 82, 67, 80, 107, 97, 98, 110, 114, 99, 112] : List UInt8) ((46 : Int).toNat.toUInt8) = -1 by decide]
  rfl
theorem cellV_dot (n : Int) : cellV 46 n = 0 := by
  unfold cellV
  rw [show (((46 : UInt8).toNat : Nat) : Int) = 46 from rfl, place_dot]; rfl
theorem vSum_same {s t : ByteArray} (hs : s.size = 90) (ht : t.size = 90) (m : Nat) (hm : m ≤ 90) (h : ∀ j, j < m → s.get! j = t.get! j) : vSum s m = vSum t m := by
  induction m with
  | zero => rfl
  | succ m ih =>
    unfold vSum
    rw [ih (by omega) (fun j hj => h j (by omega)), vN_cell s m (by omega), vN_cell t m (by omega), h m (by omega)]
theorem vSum_set (s : ByteArray) (hs : s.size = 90) (n : Nat) (hn : n < 90) (c : UInt8) (m : Nat) (hm : m ≤ 90) (hnm : n < m) : vSum (setL s n c) m = vSum s m ^^^ cellV (s.get! n) (n : Int) ^^^ cellV c (n : Int) := by
  have ht : (setL s n c).size = 90 := by rw [setL_size]; exact hs
  induction m with
  | zero => omega
  | succ m ih =>
    unfold vSum
    rw [vN_cell _ m (by omega), vN_cell s m (by omega), setL_get s n c m (by omega)]
    by_cases e : n = m
    · subst e
      rw [if_pos rfl, vSum_same ht hs n (by omega) (fun j hj => by rw [setL_get s n c j (by omega), if_neg (by omega)])]
      rw [Nat.xor_assoc (vSum s n), Nat.xor_self, Nat.xor_zero]
    · rw [if_neg e, ih (by omega) (by omega)]
      apply Nat.eq_of_testBit_eq
      intro i
      simp only [Nat.testBit_xor]
      cases (vSum s m).testBit i <;> cases (cellV (s.get! n) (n : Int)).testBit i <;> cases (cellV c (n : Int)).testBit i <;> cases (cellV (s.get! m) (m : Int)).testBit i <;> rfl
theorem keyV_set (s : ByteArray) (hs : s.size = 90) (n : Nat) (hn : n < 90) (c : UInt8) (side : Int) : keyV (setL s n c) side = keyV s side ^^^ cellV (s.get! n) (n : Int) ^^^ cellV c (n : Int) := by
  unfold keyV
  rw [vSum_set s hs n hn c 90 (Nat.le_refl _) hn, Nat.xor_assoc, Nat.xor_assoc, Nat.xor_assoc]
end Go.Proofs.Ytmfbgcimfmgobaa.KeyRef
