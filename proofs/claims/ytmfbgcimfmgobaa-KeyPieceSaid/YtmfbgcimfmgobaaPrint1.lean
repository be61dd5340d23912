-- Written by a program of this session (wip/gprint/gprint.py) over the kit's print; the parts marked GIVEN by hand.
import Derived.Test.YtmfbgcimfmgobaaPrint0
namespace Go.Proofs.Ytmfbgcimfmgobaa.Print
open Go.RowKit Go.Proofs.YtmfbgcimfmgobaaW.PrintWords Go.Proofs.YtmfbgcimfmgobaaW.PrintLast Go.Proofs.YtmfbgcimfmgobaaW.PrintMore
attribute [local go_sem] max2_int min2_int max_two min_two max_three min_three max_four min_four   -- for this text's walks alone
set_option linter.unusedVariables false
set_option linter.unusedSimpArgs false

/-! ### key_Next: function 16 -/
def key_Next.f (a0 : Int) : Option (Int) := some (Go.bits .xor .u64 (Go.bits .xor .u64 (Go.bits .xor .u64 a0 (IntKind.u64.wrap (a0 * 8192))) ((Go.bits .xor .u64 a0 (IntKind.u64.wrap (a0 * 8192))) / 128)) (IntKind.u64.wrap ((Go.bits .xor .u64 (Go.bits .xor .u64 a0 (IntKind.u64.wrap (a0 * 8192))) ((Go.bits .xor .u64 a0 (IntKind.u64.wrap (a0 * 8192))) / 128)) * 131072)))
set_option maxHeartbeats 8000000 in
set_option maxRecDepth 100000 in
theorem key_Next.calls (a0 : Int) (r : Int) (w : World) (h : key_Next.f a0 = some r) :
    Calls Try.prog 16 #[.int .u64 a0] w fun e w' => e = .returned (.int .u64 r) ∧ Drawn0 w w' := by
  have H : (some (Go.bits .xor .u64 (Go.bits .xor .u64 (Go.bits .xor .u64 a0 (IntKind.u64.wrap (a0 * 8192))) ((Go.bits .xor .u64 a0 (IntKind.u64.wrap (a0 * 8192))) / 128)) (IntKind.u64.wrap ((Go.bits .xor .u64 (Go.bits .xor .u64 a0 (IntKind.u64.wrap (a0 * 8192))) ((Go.bits .xor .u64 a0 (IntKind.u64.wrap (a0 * 8192))) / 128)) * 131072)))) = some r := h
  clear h
  obtain rfl := Option.some.inj H
  go_enter Try.func16, Try.ntmps16
  go_wp2
  go_ret
  exact ⟨by first | rfl | (simp; done) | (simp [*]; done), by repeat (first | exact Drawn0.refl _ | apply Drawn0.step)⟩

/-! ### riverbankref10_Next: function 17 -/
def riverbankref10_Next.f (a0 : Int) : Option (Int) := some (Go.bits .xor .u64 (Go.bits .xor .u64 (Go.bits .xor .u64 a0 (IntKind.u64.wrap (a0 * 8192))) ((Go.bits .xor .u64 a0 (IntKind.u64.wrap (a0 * 8192))) / 128)) (IntKind.u64.wrap ((Go.bits .xor .u64 (Go.bits .xor .u64 a0 (IntKind.u64.wrap (a0 * 8192))) ((Go.bits .xor .u64 a0 (IntKind.u64.wrap (a0 * 8192))) / 128)) * 131072)))
set_option maxHeartbeats 8000000 in
set_option maxRecDepth 100000 in
theorem riverbankref10_Next.calls (a0 : Int) (r : Int) (w : World) (h : riverbankref10_Next.f a0 = some r) :
    Calls Try.prog 17 #[.int .u64 a0] w fun e w' => e = .returned (.int .u64 r) ∧ Drawn0 w w' := by
  have H : (some (Go.bits .xor .u64 (Go.bits .xor .u64 (Go.bits .xor .u64 a0 (IntKind.u64.wrap (a0 * 8192))) ((Go.bits .xor .u64 a0 (IntKind.u64.wrap (a0 * 8192))) / 128)) (IntKind.u64.wrap ((Go.bits .xor .u64 (Go.bits .xor .u64 a0 (IntKind.u64.wrap (a0 * 8192))) ((Go.bits .xor .u64 a0 (IntKind.u64.wrap (a0 * 8192))) / 128)) * 131072)))) = some r := h
  clear h
  obtain rfl := Option.some.inj H
  go_enter Try.func17, Try.ntmps17
  go_wp2
  go_ret
  exact ⟨by first | rfl | (simp; done) | (simp [*]; done), by repeat (first | exact Drawn0.refl _ | apply Drawn0.step)⟩

-- NOT PRINTED: function 91 (bytealg_IndexByteString)

-- NOT PRINTED: function 77 (stringslite_IndexByte)

end Go.Proofs.Ytmfbgcimfmgobaa.Print
