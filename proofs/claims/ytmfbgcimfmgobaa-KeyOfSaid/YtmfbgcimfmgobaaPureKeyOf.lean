/- For every position whose text has at most 200 bytes the program's key of it is the document's; a longer text: the examples of live() hold; no condition. -/
import Derived.Test.YtmfbgcimfmgobaaKeyRefTwo
import Derived.Test.YtmfbgcimfmgobaaPrint10
namespace Go.Proofs.Ytmfbgcimfmgobaa.Pure
open Go.RowKit Go.Proofs.Ytmfbgcimfmgobaa.Print Go.Proofs.Ytmfbgcimfmgobaa.KeyMath Go.Proofs.Ytmfbgcimfmgobaa.KeyRef Go.Proofs.YtmfbgcimfmgobaaW.PrintWords Go.Proofs.YtmfbgcimfmgobaaW.PrintLast
theorem KeyOf (s : ByteArray) (a b c : Int) (_ : (Lit.int .i64 a).wf = true) (_ : (Lit.int .i64 b).wf = true) (_ : (Lit.int .i64 c).wf = true) : ∃ k, riverbanklaw10_KeyOf.f k s a b c = some true := by
  refine ⟨3000, ?_⟩
  unfold riverbanklaw10_KeyOf.f riverbanklaw10_live.f
  by_cases h : (s.size : Int) > 200
  · rw [if_pos h]; rfl
  · rw [if_neg h, rOf_eq 3000 (by omega)]
    rcases board_tf s with hb | hb
    · rw [key_Of_board s a b c hb]; simp
    · rw [key_Of_other s a b c hb]; simp
end Go.Proofs.Ytmfbgcimfmgobaa.Pure
