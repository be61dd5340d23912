/- For every board, empty square and piece: with the piece put there the key is turned by the piece's number on that square; at other inputs the examples of live() hold; no condition. -/
import Derived.Test.YtmfbgcimfmgobaaKeyRefThree
import Derived.Test.YtmfbgcimfmgobaaPrint14
namespace Go.Proofs.Ytmfbgcimfmgobaa.Pure
open Go.RowKit Go.Proofs.Ytmfbgcimfmgobaa.Print Go.Proofs.Ytmfbgcimfmgobaa.KeyMath Go.Proofs.Ytmfbgcimfmgobaa.KeyRef Go.Proofs.YtmfbgcimfmgobaaW.PrintWords Go.Proofs.YtmfbgcimfmgobaaW.PrintLast
theorem KeyPiece (s : ByteArray) (a b c : Int) (n d : Int) (_ : (Lit.int .i64 a).wf = true) (_ : (Lit.int .i64 b).wf = true) (_ : (Lit.int .i64 c).wf = true) (_ : (Lit.int .i64 n).wf = true) (hd : (Lit.int .u8 d).wf = true) : ∃ k, riverbanklaw10_KeyPiece.f k s a b c n d = some true := by
  refine ⟨1001, ?_⟩
  obtain ⟨d, rfl⟩ := u8_of d hd
  have live : ∀ x1 x2 x4 x5 x6, riverbanklaw10_KeyPiece.j0 1001 x1 x2 true s x4 x5 x6 = some true := by
    intro x1 x2 x4 x5 x6
    simp [riverbanklaw10_KeyPiece.j0, riverbanklaw10_live.f]
  unfold riverbanklaw10_KeyPiece.f
  by_cases h90 : (s.size : Int) = 90
  · rw [if_pos h90, rIs_eq 1001 (by omega)]
    rcases board_tf s with hb | hb
    · rw [hb]
      simp only [Option.bind_some, if_true]
      by_cases n0 : n < 0
      · rw [if_pos n0]; exact live _ _ _ _ _
      · rw [if_neg n0]
        by_cases n1 : n > 89
        · rw [if_pos n1]; exact live _ _ _ _ _
        · rw [if_neg n1, if_pos (by omega), if_pos (by omega)]
          obtain ⟨n, rfl⟩ : ∃ m : Nat, n = m := ⟨n.toNat, by omega⟩
          have hs := board_size hb
          rw [bt_get s n (by omega)]
          by_cases h46 : ((s.get! n).toNat : Int) = 46
          · rw [if_pos h46, rside_eq' 1001 (by omega)]
            simp only [Option.bind_some]
            rw [eq46] at h46
            by_cases hu : sideU d < 0
            · rw [decide_eq_true hu]; exact live _ _ _ _ _
            · rw [decide_eq_false hu]
              have hcell : okCell d = true := by rw [side_cell]; simp; right; omega
              have hput : riverbankref02_Put.f 1000 s (n : Int) (d.toNat : Int) = some (setL s n d) := by
                unfold riverbankref02_Put.f
                have hr : (0 : Int) ≤ (d.toNat : Int) ∧ (d.toNat : Int) ≤ 255 := by have := d.toNat_lt; omega
                rw [if_pos hr, rIs_eq 1000 (by omega), hb]
                simp only [Option.bind_some, if_true]
                rw [if_neg (by omega), if_neg (by omega)]
                have e2 : ((d.toNat : Int)).toNat.toUInt8 = d := by simp
                have e3 : ((n : Nat) : Int).toNat = n := by simp
                by_cases hd46 : (d.toNat : Int) = 46
                · rw [if_pos hd46, e2, e3, setB_setL s n d (by omega)]
                · rw [if_neg hd46, rside_eq' 1000 (by omega)]
                  simp only [Option.bind_some]
                  rw [if_neg hu, e2, e3, setB_setL s n d (by omega)]
              simp only [riverbanklaw10_KeyPiece.j0]
              rw [if_neg (by simp), hput]
              simp only [Option.bind_some]
              rw [key_Of_board _ a b c (setL_board s n d hb hcell), key_Of_board _ a b c hb, (cell_V d (n : Int)).1]
              simp only [Option.bind_some, riverbanklaw10_live.f]
              have hx : Go.bits .xor .u64 (keyV (setL s n d) a : Int) (keyV s a : Int) = (cellV d (n : Int) : Int) := by
                rw [bits_xor_u64_nat _ _ (keyV_lt _ _) (keyV_lt _ _), keyV_set s hs n (by omega) d a, h46, cellV_dot, Nat.xor_zero]
                rw [Nat.xor_comm, ← Nat.xor_assoc, Nat.xor_self, Nat.zero_xor]
              rw [if_pos hx]
          · rw [if_neg h46]; exact live _ _ _ _ _
    · rw [hb]
      simp only [Option.bind_some]
      rw [if_neg (by simp)]; exact live _ _ _ _ _
  · rw [if_neg h90]; exact live _ _ _ _ _
end Go.Proofs.Ytmfbgcimfmgobaa.Pure
