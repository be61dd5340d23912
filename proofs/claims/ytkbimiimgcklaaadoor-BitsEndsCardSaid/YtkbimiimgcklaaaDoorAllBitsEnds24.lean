/- Merged by a program of this session (wip/gprint/merge.py): what this claim needs of this session's texts, each part as it was. -/
import Derived.Test.YtkbimiimgcklaaaDoorAllBitsEnds21
import Derived.Test.YtkbimiimgcklaaaDoorAllBitsEnds20
import Derived.Test.YtkbimiimgcklaaaDoorAllBitsEnds23
namespace Go.Proofs.YtkbimiimgcklaaaDoor.BitMath
end Go.Proofs.YtkbimiimgcklaaaDoor.BitMath
namespace Go.Proofs.YtkbimiimgcklaaaDoor.Print
end Go.Proofs.YtkbimiimgcklaaaDoor.Print
namespace Go.Proofs.YtkbimiimgcklaaaDoor.Pure
end Go.Proofs.YtkbimiimgcklaaaDoor.Pure
namespace Go.Proofs.YtkbimiimgcklaaaDoor.SetMath
end Go.Proofs.YtkbimiimgcklaaaDoor.SetMath

-- of YtkbimiimgcklaaaDoorPureBitsEnds
/- For any set of two words: without its first and its last square it has what lies between them; it has none just if both are -1; the first is no greater than the last; no condition. -/
namespace Go.Proofs.YtkbimiimgcklaaaDoor.Pure
open Go.RowKit Go.Proofs.YtkbimiimgcklaaaDoor.Print Go.Proofs.YtkbimiimgcklaaaDoor.BitMath Go.Proofs.YtkbimiimgcklaaaDoor.SetMath Go.Proofs.YtkbimiimgcklaaaDoorW.PrintWords Go.Proofs.YtkbimiimgcklaaaDoorW.PrintLast Go.Proofs.YtkbimiimgcklaaaDoorW.PrintMore
theorem u64_wf {x : Int} (h : (Lit.int .u64 x).wf = true) : U x := by
  simp [Lit.wf, IntKind.min, IntKind.max, IntKind.signed, IntKind.bits] at h
  exact ⟨by omega, by omega⟩
theorem live1 (k : Nat) (hk : 12 ≤ k) : riverbanklaw01_live.f k = some true := by
  have h : riverbanklaw01_live.f 12 = some true := by decide +kernel
  exact at_rounds riverbanklaw01_live.mono hk h
theorem setL_nil {a b : Int} (h : ∀ n, n < 90 → mem a b n = false) : setL a b = [] := by
  unfold setL
  rw [List.map_eq_nil_iff, List.filter_eq_nil_iff]
  intro x hx; rw [h x (List.mem_range.1 hx)]; decide
theorem setL_some {a b : Int} {n : Nat} (hn : n < 90) (h : mem a b n = true) : (setL a b).length ≠ 0 := by
  intro e
  have e2 := List.eq_nil_of_length_eq_zero e
  unfold setL at e2
  rw [List.map_eq_nil_iff, List.filter_eq_nil_iff] at e2
  exact e2 n (List.mem_range.2 hn) h
theorem BitsEnds (a b : Int) (ha : (Lit.int .u64 a).wf = true) (hb : (Lit.int .u64 b).wf = true) : ∃ k, riverbanklaw01_BitsEnds.f k a b = some true := by
  replace ha := u64_wf ha
  replace hb := u64_wf hb
  refine ⟨100, ?_⟩
  have hl := live1 100 (by decide)
  have hc := Count_f ha hb
  have fin : ∀ x y : Int, bits_Set_First.f a b = some x → bits_Set_Last.f a b = some y → -9223372036854775808 ≤ x → -9223372036854775808 ≤ y → x ≤ y → (((setL a b).length : Int) = 0 ↔ x = -1) → (x = -1 ↔ y = -1) →
      (∀ j : Nat, j < 90 → (betweenP (mem a b) x y j = ((mem a b j && !decide ((j : Int) = x)) && !decide ((j : Int) = y)))) → riverbanklaw01_BitsEnds.f 100 a b = some true := by
    intro x y hx hy x0 y0 hxy h1 h2 h3
    obtain ⟨t, ht, tt⟩ := Between_f 100 (by decide) ha hb x y x0 y0
    obtain ⟨r, hr, tr⟩ := Without_f 99 ha hb x
    obtain ⟨q, hq, tq⟩ := Without_f 99 tr.can.lo tr.can.hi y
    have e := tq.eq tt (fun j hj => by rw [tr.mem j hj, h3 j hj])
    unfold riverbanklaw01_BitsEnds.f
    have k1 : ((((setL a b).length : Int) == 0) == (x == -1)) = true := by
      by_cases c : x = -1
      · rw [c, h1.2 c]; rfl
      · rw [beq_eq_false_iff_ne.2 c, beq_eq_false_iff_ne.2 (fun e => c (h1.1 e))]; rfl
    have k2 : ((x == -1) == (y == -1)) = true := by
      by_cases c : x = -1
      · rw [c, h2.1 c]; rfl
      · rw [beq_eq_false_iff_ne.2 c, beq_eq_false_iff_ne.2 (fun e => c (h2.2 e))]; rfl
    simp only [hx, hy, ht, hr, hq, hc, e, Option.bind_some, beq_self_eq_true, Bool.and_self, if_true, k1, k2, if_pos hxy, hl]
  rcases First_f ha hb with ⟨h1, h2, _⟩ | ⟨n, h1, hn, h2, h3, _⟩
  · rcases Last_f ha hb with ⟨g1, _⟩ | ⟨m, _, hm, g2, _⟩
    · refine fin (-1) (-1) h1 g1 (by omega) (by omega) (by omega) ?_ (by simp) fun j hj => ?_
      · rw [setL_nil h2]; simp
      · unfold betweenP; rw [h2 j hj]; rfl
    · rw [h2 m hm] at g2; cases g2
  · rcases Last_f ha hb with ⟨_, g2⟩ | ⟨m, g1, hm, g2, g3⟩
    · rw [g2 n hn] at h2; cases h2
    · have hnm : n ≤ m := by
        rcases Nat.lt_or_ge m n with c | c
        · rw [h3 m c] at g2; cases g2
        · exact c
      refine fin n m h1 g1 (by omega) (by omega) (by omega) ?_ ⟨fun e => by omega, fun e => by omega⟩ fun j hj => ?_
      · have := setL_some hn h2
        exact ⟨fun e => absurd e (by omega), fun e => by omega⟩
      · obtain ⟨m1, m2, m3⟩ := mn_le (n : Int) (m : Int)
        obtain ⟨M1, M2, M3⟩ := mx_ge (n : Int) (m : Int)
        unfold betweenP
        by_cases c1 : mem a b j = true
        · have hj1 : n ≤ j := by
            rcases Nat.lt_or_ge j n with c | c
            · rw [h3 j c] at c1; cases c1
            · exact c
          have hj2 : j ≤ m := by
            rcases Nat.lt_or_ge m j with c | c
            · rw [g3 j c hj] at c1; cases c1
            · exact c
          rw [c1, Bool.true_and, Bool.true_and]
          by_cases c2 : (j : Int) = n
          · rw [decide_eq_true c2, decide_eq_false (by omega : ¬ (j : Int) > mn n m)]; rfl
          · by_cases c3 : (j : Int) = m
            · rw [decide_eq_true c3, decide_eq_false (by omega : ¬ (j : Int) < mx n m)]; simp
            · rw [decide_eq_false c2, decide_eq_false c3, decide_eq_true (by omega), decide_eq_true (by omega)]; rfl
        · rw [Bool.not_eq_true] at c1; rw [c1]; rfl
end Go.Proofs.YtkbimiimgcklaaaDoor.Pure
