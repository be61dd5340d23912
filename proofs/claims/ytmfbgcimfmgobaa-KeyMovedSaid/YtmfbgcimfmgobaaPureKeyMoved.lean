/- For every key, piece, move and what it takes: the key behind it is the document's, and moved twice the key is as it was; no condition. -/
import Derived.Test.YtmfbgcimfmgobaaKeyRefThree
import Derived.Test.YtmfbgcimfmgobaaPrint16
namespace Go.Proofs.Ytmfbgcimfmgobaa.Pure
open Go.RowKit Go.Proofs.Ytmfbgcimfmgobaa.Print Go.Proofs.Ytmfbgcimfmgobaa.KeyMath Go.Proofs.Ytmfbgcimfmgobaa.KeyRef Go.Proofs.YtmfbgcimfmgobaaW.PrintWords Go.Proofs.YtmfbgcimfmgobaaW.PrintLast
theorem KeyMoved (y c f g t : Int) (hy : (Lit.int .u64 y).wf = true) (hc : (Lit.int .u8 c).wf = true) (_ : (Lit.int .i64 f).wf = true) (_ : (Lit.int .i64 g).wf = true) (ht : (Lit.int .u8 t).wf = true) : ∃ k, riverbanklaw10_KeyMoved.f k y c f g t = some true := by
  refine ⟨2000, ?_⟩
  obtain ⟨y, rfl, hyl⟩ := u64_of y hy
  clear hy
  have hy := hyl
  obtain ⟨c, rfl⟩ := u8_of c hc
  obtain ⟨t, rfl⟩ := u8_of t ht
  obtain ⟨a1, _, a2⟩ := cell_V c f
  obtain ⟨b1, _, b2⟩ := cell_V c g
  obtain ⟨d1, _, d2⟩ := cell_V t g
  obtain ⟨A, hA⟩ : ∃ A, A = cellV c f := ⟨_, rfl⟩
  obtain ⟨B, hB⟩ : ∃ A, A = cellV c g := ⟨_, rfl⟩
  obtain ⟨D, hD⟩ : ∃ A, A = cellV t g := ⟨_, rfl⟩
  rw [← hA] at a1 a2
  rw [← hB] at b1 b2
  rw [← hD] at d1 d2
  have hm : ∀ z : Nat, z < 18446744073709551616 → key_Moved.f (z : Int) c.toNat f g t.toNat = some ((z ^^^ A ^^^ B ^^^ D ^^^ rowNat 1261 : Nat) : Int) := by
    intro z hz
    unfold key_Moved.f
    rw [a1, b1, d1, turn_f]
    simp only [Option.bind_some]
    rw [bits_xor_u64_nat _ _ hz a2, bits_xor_u64_nat _ _ (xor_lt hz a2) b2, bits_xor_u64_nat _ _ (xor_lt (xor_lt hz a2) b2) d2, bits_xor_u64_nat _ _ (xor_lt (xor_lt (xor_lt hz a2) b2) d2) (rowNat_lt _)]
  have hr : riverbankref10_Moved.f 2000 (y : Int) c.toNat f g t.toNat = key_Moved.f (y : Int) c.toNat f g t.toNat := by
    unfold riverbankref10_Moved.f key_Moved.f
    rw [rCell_f, rCell_f, rCell_f, rturn_f, turn_f]
  unfold riverbanklaw10_KeyMoved.f riverbanklaw10_live.f
  rw [hr, hm y hy]
  have hz : y ^^^ A ^^^ B ^^^ D ^^^ rowNat 1261 < 18446744073709551616 := xor_lt (xor_lt (xor_lt (xor_lt hy a2) b2) d2) (rowNat_lt _)
  simp only [Option.bind_some, if_true]
  rw [hm _ hz]
  have e : y ^^^ A ^^^ B ^^^ D ^^^ rowNat 1261 ^^^ A ^^^ B ^^^ D ^^^ rowNat 1261 = y := by
    apply Nat.eq_of_testBit_eq
    intro i
    simp only [Nat.testBit_xor]
    cases y.testBit i <;> cases A.testBit i <;> cases B.testBit i <;> cases D.testBit i <;> cases (rowNat 1261).testBit i <;> rfl
  rw [e]; simp
end Go.Proofs.Ytmfbgcimfmgobaa.Pure
