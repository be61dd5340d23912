/- Merged by a program of this session (wip/gprint/merge.py): what this claim needs of this session's texts, each part as it was. -/
import Derived.Test.YtkbimiimgcklaaaDoorAllBitsMix23
import Derived.Test.YtkbimiimgcklaaaDoorAllBitsMix22
import Derived.Test.YtkbimiimgcklaaaDoorAllBitsMix20
namespace Go.Proofs.YtkbimiimgcklaaaDoor.BitMath
end Go.Proofs.YtkbimiimgcklaaaDoor.BitMath
namespace Go.Proofs.YtkbimiimgcklaaaDoor.Print
end Go.Proofs.YtkbimiimgcklaaaDoor.Print
namespace Go.Proofs.YtkbimiimgcklaaaDoor.Pure
end Go.Proofs.YtkbimiimgcklaaaDoor.Pure
namespace Go.Proofs.YtkbimiimgcklaaaDoor.SetMath
end Go.Proofs.YtkbimiimgcklaaaDoor.SetMath

-- of YtkbimiimgcklaaaDoorPureBitsMix
/- For any two sets of two words: what is in one, in both, in one alone, and what one is not, is what the document says; no condition. -/
namespace Go.Proofs.YtkbimiimgcklaaaDoor.Pure
open Go.RowKit Go.Proofs.YtkbimiimgcklaaaDoor.Print Go.Proofs.YtkbimiimgcklaaaDoor.BitMath Go.Proofs.YtkbimiimgcklaaaDoor.SetMath Go.Proofs.YtkbimiimgcklaaaDoorW.PrintWords Go.Proofs.YtkbimiimgcklaaaDoorW.PrintLast Go.Proofs.YtkbimiimgcklaaaDoorW.PrintMore
theorem u64_wf {x : Int} (h : (Lit.int .u64 x).wf = true) : U x := by
  simp [Lit.wf, IntKind.min, IntKind.max, IntKind.signed, IntKind.bits] at h
  exact ⟨by omega, by omega⟩
theorem mask_mem (n : Nat) (hn : n < 90) : mem 35184372088831 35184372088831 n = true := by
  unfold mem
  split
  · rw [tb_mask]; simp; omega
  · rw [tb_mask]; simp; omega
theorem live1 (k : Nat) (hk : 12 ≤ k) : riverbanklaw01_live.f k = some true := by
  have h : riverbanklaw01_live.f 12 = some true := by decide +kernel
  exact at_rounds riverbanklaw01_live.mono hk h
theorem BitsMix (a b c d : Int) (ha : (Lit.int .u64 a).wf = true) (hb : (Lit.int .u64 b).wf = true) (hc : (Lit.int .u64 c).wf = true) (hd : (Lit.int .u64 d).wf = true) : ∃ k, riverbanklaw01_BitsMix.f k a b c d = some true := by
  replace ha := u64_wf ha
  replace hb := u64_wf hb
  replace hc := u64_wf hc
  replace hd := u64_wf hd
  refine ⟨100, ?_⟩
  obtain ⟨o, ho, t_o⟩ := Or_f ha hb hc hd
  obtain ⟨n, hn, tn⟩ := And_f ha hb hc hd
  obtain ⟨m, hm, tm⟩ := Minus_f ha hb hc hd
  obtain ⟨t, ht, tt⟩ := Not_f ha hb
  have e1 : tl (mixP (mem a b) (mem c d) 0) = tl (fun n => mem a b n || mem c d n) := rfl
  have e2 : tl (mixP (mem a b) (mem c d) 1) = tl (fun n => mem a b n && mem c d n) := rfl
  have e3 : tl (mixP (mem a b) (mem c d) 2) = tl (fun n => mem a b n && !mem c d n) := rfl
  have e4 : tl (mixP (mem 35184372088831 35184372088831) (mem a b) 2) = tl (fun n => !mem a b n) := tl_congr fun n hn => by
    unfold mixP; rw [if_neg (by decide), if_neg (by decide), mask_mem n hn]; simp
  unfold riverbanklaw01_BitsMix.f
  rw [Truths_f 100 (by decide) ha hb, Truths_f 100 (by decide) hc hd, Truths_f 100 (by decide) U_mask U_mask]
  simp only [Option.bind_some, ho, hn, hm, ht, Mix_f 100 (by decide), e1, e2, e3, e4, is_f 100 (by decide) t_o, is_f 100 (by decide) tn, is_f 100 (by decide) tm, is_f 100 (by decide) tt, if_true, live1 100 (by decide)]
end Go.Proofs.YtkbimiimgcklaaaDoor.Pure
