/- Merged by a program of this session (wip/gprint/merge.py): what this claim needs of this session's texts, each part as it was. -/
import Derived.Test.YtkbimiimgcklaaaDoorAllBitsBack24
import Derived.Test.YtkbimiimgcklaaaDoorAllBitsBack21
import Derived.Test.YtkbimiimgcklaaaDoorAllBitsBack20
import Derived.Test.YtkbimiimgcklaaaDoorAllBitsBack26
namespace Go.Proofs.YtkbimiimgcklaaaDoor.BitMath
end Go.Proofs.YtkbimiimgcklaaaDoor.BitMath
namespace Go.Proofs.YtkbimiimgcklaaaDoor.Print
end Go.Proofs.YtkbimiimgcklaaaDoor.Print
namespace Go.Proofs.YtkbimiimgcklaaaDoor.Pure
end Go.Proofs.YtkbimiimgcklaaaDoor.Pure
namespace Go.Proofs.YtkbimiimgcklaaaDoor.SetMath
end Go.Proofs.YtkbimiimgcklaaaDoor.SetMath

-- of YtkbimiimgcklaaaDoorPureBitsBack
/- For any list of at most 1000 numbers: the set that is made of it is the document's, and made of its own list it is the same; of a longer one the examples of live() hold; no condition. -/
namespace Go.Proofs.YtkbimiimgcklaaaDoor.Pure
open Go.RowKit Go.Proofs.YtkbimiimgcklaaaDoor.Print Go.Proofs.YtkbimiimgcklaaaDoor.BitMath Go.Proofs.YtkbimiimgcklaaaDoor.SetMath Go.Proofs.YtkbimiimgcklaaaDoorW.PrintWords Go.Proofs.YtkbimiimgcklaaaDoorW.PrintLast Go.Proofs.YtkbimiimgcklaaaDoorW.PrintMore
theorem live1 (k : Nat) (hk : 12 ≤ k) : riverbanklaw01_live.f k = some true := by
  have h : riverbanklaw01_live.f 12 = some true := by decide +kernel
  exact at_rounds riverbanklaw01_live.mono hk h
theorem List_f {a b : Int} (ha : U a) (hb : U b) : bits_Set_List.f a b = some (setL a b) := by
  unfold bits_Set_List.f; rw [if_pos ⟨ha, hb⟩]
theorem BitsBack : riverbanklaw01_BitsBack.Pure := by
  intro l _ _ _
  by_cases c : (l.length : Int) > 1000
  · refine ⟨100, ?_⟩
    unfold riverbanklaw01_BitsBack.f
    rw [if_pos c, live1 100 (by decide)]; rfl
  · refine ⟨2000, ?_⟩
    obtain ⟨s, hs, ts⟩ := Of_f l 2000 (by omega) (by omega)
    have hlen : (setL s.1 s.2).length ≤ 90 := by
      unfold setL
      have := List.length_filter_le (mem s.1 s.2) (List.range 90)
      simp at this ⊢
      omega
    obtain ⟨q, hq, tq⟩ := Of_f (setL s.1 s.2) 2000 (by omega) (by omega)
    have e : q = s := tq.eq ts fun j hj => by
      have h1 : ofP (setL s.1 s.2) (setL s.1 s.2).length j = (setL s.1 s.2).contains (j : Int) := by unfold ofP; rw [List.take_length]
      have h2 : setL s.1 s.2 = soL (mem s.1 s.2) := rfl
      rw [h1, h2, soL_mem, decide_eq_true hj, Bool.true_and, ts.mem j hj]
    unfold riverbanklaw01_BitsBack.f
    rw [if_neg c]
    simp only [hs, ROf_f l 2000 (by omega) (by omega), is_f 2000 (by decide) ts, List_f ts.can.lo ts.can.hi, hq, e, Option.bind_some, beq_self_eq_true, Bool.and_self, if_true, live1 2000 (by decide)]
end Go.Proofs.YtkbimiimgcklaaaDoor.Pure
