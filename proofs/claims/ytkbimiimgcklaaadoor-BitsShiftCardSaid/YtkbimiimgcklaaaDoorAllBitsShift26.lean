/- Merged by a program of this session (wip/gprint/merge.py): what this claim needs of this session's texts, each part as it was. -/
import Derived.Test.YtkbimiimgcklaaaDoorAllBitsShift23
import Derived.Test.YtkbimiimgcklaaaDoorAllBitsShift21
import Derived.Test.YtkbimiimgcklaaaDoorAllBitsShift25
namespace Go.Proofs.YtkbimiimgcklaaaDoor.BitMath
end Go.Proofs.YtkbimiimgcklaaaDoor.BitMath
namespace Go.Proofs.YtkbimiimgcklaaaDoor.Print
end Go.Proofs.YtkbimiimgcklaaaDoor.Print
namespace Go.Proofs.YtkbimiimgcklaaaDoor.Pure
end Go.Proofs.YtkbimiimgcklaaaDoor.Pure
namespace Go.Proofs.YtkbimiimgcklaaaDoor.SetMath
end Go.Proofs.YtkbimiimgcklaaaDoor.SetMath

-- of YtkbimiimgcklaaaDoorPureBitsShift
/- For any set of two words and any two numbers: the set some squares on, or back, and what of it lies between, is what the document says; no condition. -/
namespace Go.Proofs.YtkbimiimgcklaaaDoor.Pure
open Go.RowKit Go.Proofs.YtkbimiimgcklaaaDoor.Print Go.Proofs.YtkbimiimgcklaaaDoor.BitMath Go.Proofs.YtkbimiimgcklaaaDoor.SetMath Go.Proofs.YtkbimiimgcklaaaDoorW.PrintWords Go.Proofs.YtkbimiimgcklaaaDoorW.PrintLast Go.Proofs.YtkbimiimgcklaaaDoorW.PrintMore
theorem u64_wf {x : Int} (h : (Lit.int .u64 x).wf = true) : U x := by
  simp [Lit.wf, IntKind.min, IntKind.max, IntKind.signed, IntKind.bits] at h
  exact ⟨by omega, by omega⟩
theorem i64_wf {x : Int} (h : (Lit.int .i64 x).wf = true) : -9223372036854775808 ≤ x ∧ x ≤ 9223372036854775807 := by
  simp [Lit.wf, IntKind.min, IntKind.max, IntKind.signed, IntKind.bits] at h
  exact ⟨by omega, by omega⟩
theorem live1 (k : Nat) (hk : 12 ≤ k) : riverbanklaw01_live.f k = some true := by
  have h : riverbanklaw01_live.f 12 = some true := by decide +kernel
  exact at_rounds riverbanklaw01_live.mono hk h
theorem BitsShift (a b n m : Int) (ha : (Lit.int .u64 a).wf = true) (hb : (Lit.int .u64 b).wf = true) (hn : (Lit.int .i64 n).wf = true) (hm : (Lit.int .i64 m).wf = true) : ∃ k, riverbanklaw01_BitsShift.f k a b n m = some true := by
  replace ha := u64_wf ha
  replace hb := u64_wf hb
  replace hn := i64_wf hn
  replace hm := i64_wf hm
  refine ⟨100, ?_⟩
  obtain ⟨s, hs, ts⟩ := Shift_f 100 (by decide) ha hb n
  obtain ⟨t, ht, tt⟩ := Between_f 100 (by decide) ha hb n m hn.1 hm.1
  unfold riverbanklaw01_BitsShift.f
  rw [Truths_f 100 (by decide) ha hb]
  simp only [Option.bind_some, hs, ht, RShift_f 100 (by decide), RBetween_f 100 (by decide), is_f 100 (by decide) ts, is_f 100 (by decide) tt, if_true, live1 100 (by decide)]
end Go.Proofs.YtkbimiimgcklaaaDoor.Pure
