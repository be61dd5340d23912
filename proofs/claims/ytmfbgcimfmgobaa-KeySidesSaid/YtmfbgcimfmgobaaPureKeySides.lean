/- For every position of 90 bytes whose side is 0 or 1 (and at most 200 bytes): clock and number do not change the key, and with the other side to move it is that key and Turn, or both are 0; no condition. -/
import Derived.Test.YtmfbgcimfmgobaaKeyRefTwo
import Derived.Test.YtmfbgcimfmgobaaPrint12
namespace Go.Proofs.Ytmfbgcimfmgobaa.Pure
open Go.RowKit Go.Proofs.Ytmfbgcimfmgobaa.Print Go.Proofs.Ytmfbgcimfmgobaa.KeyMath Go.Proofs.Ytmfbgcimfmgobaa.KeyRef Go.Proofs.YtmfbgcimfmgobaaW.PrintWords Go.Proofs.YtmfbgcimfmgobaaW.PrintLast
theorem KeySides (s : ByteArray) (a b c : Int) (e f : Int) (_ : (Lit.int .i64 a).wf = true) (_ : (Lit.int .i64 b).wf = true) (_ : (Lit.int .i64 c).wf = true) (_ : (Lit.int .i64 e).wf = true) (_ : (Lit.int .i64 f).wf = true) : ∃ k, riverbanklaw10_KeySides.f k s a b c e f = some true := by
  refine ⟨2, ?_⟩
  unfold riverbanklaw10_KeySides.f
  by_cases h : (s.size : Int) > 200
  · rw [if_pos h]; simp [riverbanklaw10_KeySides.j0, riverbanklaw10_live.f]
  · rw [if_neg h]
    by_cases h90 : (s.size : Int) = 90
    · rw [if_pos h90]
      by_cases ha : a < 0
      · rw [if_pos ha]; simp [riverbanklaw10_KeySides.j0, riverbanklaw10_live.f]
      · rw [if_neg ha]
        by_cases ha1 : a > 1
        · rw [decide_eq_true ha1]; simp [riverbanklaw10_KeySides.j0, riverbanklaw10_live.f]
        · rw [decide_eq_false ha1]
          have hw : wrap64 (1 - a) = 1 - a := w64 _ (by omega) (by omega)
          rcases board_tf s with hb | hb
          · simp only [riverbanklaw10_KeySides.j0, riverbanklaw10_KeySides.j1, riverbanklaw10_live.f, key_Of_board s _ _ _ hb, Option.bind_some, turn_f, hw]
            have hx : Go.bits .xor .u64 (keyV s a : Int) (keyV s (1 - a) : Int) = (rowNat 1261 : Int) := by
              rcases (by omega : a = 0 ∨ a = 1) with rfl | rfl
              · exact key_sides s
              · rw [bits_xor_u64_nat _ _ (keyV_lt _ _) (keyV_lt _ _), Nat.xor_comm, ← bits_xor_u64_nat _ _ (keyV_lt _ _) (keyV_lt _ _)]
                exact key_sides s
            rw [hx]
            by_cases z : (keyV s a : Int) = 0
            · rw [if_pos z]; simp
            · rw [if_neg z]; simp
          · simp only [riverbanklaw10_KeySides.j0, riverbanklaw10_KeySides.j1, riverbanklaw10_live.f, key_Of_other s _ _ _ hb, Option.bind_some, turn_f, hw]
            simp
    · rw [if_neg h90]; simp [riverbanklaw10_KeySides.j0, riverbanklaw10_live.f]
end Go.Proofs.Ytmfbgcimfmgobaa.Pure
