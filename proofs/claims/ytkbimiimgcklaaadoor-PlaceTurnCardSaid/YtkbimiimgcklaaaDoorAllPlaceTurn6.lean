/- Merged by a program of this session (wip/gprint/merge.py): what this claim needs of this session's texts, each part as it was. -/
import Derived.Test.YtkbimiimgcklaaaDoorAllPlaceTurn1
import Derived.Laws.IdiomStrings
import Derived.Lib.ConvBytes
namespace Go.Proofs.YtkbimiimgcklaaaDoor.Print
end Go.Proofs.YtkbimiimgcklaaaDoor.Print

-- of YtkbimiimgcklaaaDoorBytes
/- What is known of the block of a text's bytes. -/
namespace Go.Proofs.YtkbimiimgcklaaaDoor.Print
open Go.RowKit

theorem below_past {w wr W w3 : World} {n : Nat} (hB : Below w.heap.size w wr) (hW : W = wr.drewN n) (hb : Below W.heap.size W w3) : Below w.heap.size w w3 := by
  subst hW
  exact (⟨hB.os, hB.tape, hB.output, hB.size, hB.block⟩ : Below w.heap.size w (wr.drewN n)).trans (hb.mono hB.size)
/-- What is known of the block of a text's bytes. -/
structure HasBytes (W : World) (B : Nat) (l : List UInt8) : Prop where
  cell : ∀ j (h : j < l.length), W.cell? ⟨B, j, none⟩ = some (.int .u8 (l[j].toNat : Int))
  free : ∀ j, j < l.length → W.frozen? ⟨B, j, none⟩ = false
theorem HasBytes.start (w : World) (e : TypeId) (s : ByteArray) : HasBytes (Lib.bytesWorld w e s) w.heap.size s.data.toList := by
  refine ⟨fun j h => ?_, fun j h => ?_⟩
  · have hj : j < s.size := by simpa using h
    rw [Lib.bytesWorld_cell w e s j hj]
    simp [List.getD, hj]
  · have hn := Lib.bytesWorld_at_new w e s
    have hj : j < s.data.size := by simpa using h
    have hb : j < (Lib.bytesCells w e s).size := by
      have h2 : s.data.size = s.size := rfl
      unfold Lib.bytesCells; simp; omega
    obtain ⟨m, hm⟩ : ∃ m, m = Lib.bytesCells w e s := ⟨_, rfl⟩
    rw [← hm] at hn hb
    simp only [World.frozen?, hn]
    rw [show decide (m.size ≤ j) = false from decide_eq_false (by omega)]
    rfl
theorem HasBytes.set {W : World} {B : Nat} {l : List UInt8} (h : HasBytes W B l) (i : Nat) (hi : i < l.length) (c : UInt8) : HasBytes (W.setCell ⟨B, i, none⟩ (.int .u8 (c.toNat : Int))) B (l.set i c) := by
  refine ⟨fun j hj => ?_, fun j hj => ?_⟩
  · have hj' : j < l.length := by simpa using hj
    by_cases e : i = j
    · subst e
      rw [World.cell?_setCell_same' _ _ _ (by rw [h.cell i hi]; rfl)]
      simp
    · rw [World.cell?_setCell_other W ⟨B, i, none⟩ ⟨B, j, none⟩ _ (by intro x; injection x; omega), h.cell j hj']
      simp [e]
  · rw [World.frozen?_setCell]; exact h.free j (by simpa using hj)

theorem HasBytes.drewN {W : World} {B : Nat} {l : List UInt8} (h : HasBytes W B l) (n : Nat) : HasBytes (W.drewN n) B l := ⟨h.cell, h.free⟩
theorem below_bytes (w : World) (e : TypeId) (s : ByteArray) : Below w.heap.size w (Lib.bytesWorld w e s) :=
  ⟨rfl, rfl, rfl, by rw [Lib.bytesWorld_size]; omega, fun j hj => Lib.bytesWorld_at_old w e s j hj⟩

theorem addr_add0 (B k : Nat) : (⟨B, 0, none⟩ : Addr).add k = ⟨B, k, none⟩ := by
  unfold Addr.add; split <;> simp_all
theorem one_back {P : Program} (W : World) (src dst e : TypeId) (g : Nat) (c : UInt8) (hs : P.underlying src = some (.slice e)) (he : P.underlying e = some (.int .u8)) (hd : P.underlying dst = some .string)
    (hg : W.cell? ⟨g, 0, none⟩ = some (.int .u8 (c.toNat : Int))) : (convert src dst (.slice (some ⟨g, 0, none⟩) 1 1)).run P W = .ok (.string ⟨#[c]⟩) W := by
  refine run_convert_bytes_back W src dst e ⟨g, 0, none⟩ 1 [c] hs he hd (fun k hk => ?_)
  have hk0 : k = 0 := by simpa using hk
  subst hk0
  rw [addr_add0]; exact hg
end Go.Proofs.YtkbimiimgcklaaaDoor.Print
