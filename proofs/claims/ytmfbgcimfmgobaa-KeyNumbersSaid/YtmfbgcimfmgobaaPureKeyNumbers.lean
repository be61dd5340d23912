/- For every number x, every byte c and every integer n, the program's Next(x), Cell(c, n) and Turn() are the document's, and the examples of live() hold; no condition. -/
import Derived.Test.YtmfbgcimfmgobaaKeyRef
namespace Go.Proofs.Ytmfbgcimfmgobaa.Pure
open Go.RowKit Go.Proofs.Ytmfbgcimfmgobaa.Print Go.Proofs.Ytmfbgcimfmgobaa.KeyMath Go.Proofs.Ytmfbgcimfmgobaa.KeyRef Go.Proofs.YtmfbgcimfmgobaaW.PrintWords Go.Proofs.YtmfbgcimfmgobaaW.PrintLast
theorem KeyNumbers : riverbanklaw10_KeyNumbers.Pure := by
  intro a0 a1 a2 _ h1 _
  refine ⟨2000, ?_⟩
  obtain ⟨b, rfl⟩ := u8_of a1 h1
  obtain ⟨v, _, hc, _⟩ := cell_both b a2
  unfold riverbanklaw10_KeyNumbers.f riverbanklaw10_live.f
  rw [rCell_f, hc, turn_f, rturn_f]
  show (key_Next.f a0).bind _ = _
  unfold key_Next.f riverbankref10_Next.f
  simp
end Go.Proofs.Ytmfbgcimfmgobaa.Pure
