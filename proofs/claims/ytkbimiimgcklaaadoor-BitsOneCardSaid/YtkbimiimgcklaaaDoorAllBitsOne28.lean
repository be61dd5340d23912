/- Merged by a program of this session (wip/gprint/merge.py): what this claim needs of this session's texts, each part as it was. -/
import Derived.Test.YtkbimiimgcklaaaDoorAllBitsOne24
import Derived.Test.YtkbimiimgcklaaaDoorAllBitsOne22
import Derived.Test.YtkbimiimgcklaaaDoorAllBitsOne21
import Derived.Test.YtkbimiimgcklaaaDoorAllBitsOne27
namespace Go.Proofs.YtkbimiimgcklaaaDoor.BitMath
end Go.Proofs.YtkbimiimgcklaaaDoor.BitMath
namespace Go.Proofs.YtkbimiimgcklaaaDoor.Print
end Go.Proofs.YtkbimiimgcklaaaDoor.Print
namespace Go.Proofs.YtkbimiimgcklaaaDoor.Pure
end Go.Proofs.YtkbimiimgcklaaaDoor.Pure
namespace Go.Proofs.YtkbimiimgcklaaaDoor.SetMath
end Go.Proofs.YtkbimiimgcklaaaDoor.SetMath

-- of YtkbimiimgcklaaaDoorPureBitsOne
/- For any set of two words and any number: what it has, how many, which first and last, with that square and without it, is what the document says; no condition. -/
namespace Go.Proofs.YtkbimiimgcklaaaDoor.Pure
open Go.RowKit Go.Proofs.YtkbimiimgcklaaaDoor.Print Go.Proofs.YtkbimiimgcklaaaDoor.BitMath Go.Proofs.YtkbimiimgcklaaaDoor.SetMath Go.Proofs.YtkbimiimgcklaaaDoorW.PrintWords Go.Proofs.YtkbimiimgcklaaaDoorW.PrintLast Go.Proofs.YtkbimiimgcklaaaDoorW.PrintMore
theorem u64_wf {x : Int} (h : (Lit.int .u64 x).wf = true) : U x := by
  simp [Lit.wf, IntKind.min, IntKind.max, IntKind.signed, IntKind.bits] at h
  exact ⟨by omega, by omega⟩
theorem live1 (k : Nat) (hk : 12 ≤ k) : riverbanklaw01_live.f k = some true := by
  have h : riverbanklaw01_live.f 12 = some true := by decide +kernel
  exact at_rounds riverbanklaw01_live.mono hk h
theorem List_f {a b : Int} (ha : U a) (hb : U b) : bits_Set_List.f a b = some (setL a b) := by
  unfold bits_Set_List.f; rw [if_pos ⟨ha, hb⟩]
theorem filter_last (p : Nat → Bool) (n : Nat) (hn : p n = true) : ∀ N, n < N → (∀ j, n < j → j < N → p j = false) → (List.range N).filter p = (List.range n).filter p ++ [n] := by
  intro N
  induction N with
  | zero => intro h _; omega
  | succ N ih =>
    intro h hj
    rw [List.range_succ, List.filter_append]
    rcases Nat.lt_or_ge n N with c | c
    · rw [ih c (fun j h1 h2 => hj j h1 (by omega))]
      simp [hj N c (by omega)]
    · obtain rfl : n = N := by omega
      simp [hn]
theorem first_of {a b : Int} (n : Nat) (hn : n < 90) (h : mem a b n = true) (hlow : ∀ j, j < n → mem a b j = false) : rd (setL a b) 0 = n ∧ 0 < (setL a b).length := by
  have e := filter_cons (mem a b) (fun i => mem a b i && !decide (i = n)) n h hlow (fun _ => rfl) 90 hn
  unfold setL
  rw [e]
  exact ⟨rfl, by simp⟩
theorem last_of {a b : Int} (n : Nat) (hn : n < 90) (h : mem a b n = true) (hup : ∀ j, n < j → j < 90 → mem a b j = false) : rd (setL a b) (((setL a b).length : Int) - 1) = n := by
  have e := filter_last (mem a b) n h 90 hn hup
  unfold setL rd
  rw [e]
  simp [List.getD_eq_getElem?_getD]
theorem BitsOne (a b n : Int) (ha : (Lit.int .u64 a).wf = true) (hb : (Lit.int .u64 b).wf = true) (_ : (Lit.int .i64 n).wf = true) : ∃ k, riverbanklaw01_BitsOne.f k a b n = some true := by
  replace ha := u64_wf ha
  replace hb := u64_wf hb
  refine ⟨200, ?_⟩
  obtain ⟨w, hw, tw⟩ := With_f 197 ha hb n
  obtain ⟨o, ho, t_o⟩ := Without_f 197 ha hb n
  have hlen : (setL a b).length ≤ 90 := by
    unfold setL
    have := List.length_filter_le (mem a b) (List.range 90)
    simp at this ⊢
    omega
  have p1 : tl (fun i => if (i : Int) = n then true else mem a b i) = tl (fun i => mem a b i || decide ((i : Int) = n)) := tl_congr fun i _ => by
    by_cases c : (i : Int) = n <;> simp [c]
  have p2 : tl (fun i => if (i : Int) = n then false else mem a b i) = tl (fun i => mem a b i && !decide ((i : Int) = n)) := tl_congr fun i _ => by
    by_cases c : (i : Int) = n <;> simp [c]
  have hH := Has_f 197 ha hb n
  have core : ∀ x y : Int, bits_Set_First.f a b = some x → bits_Set_Last.f a b = some y → riverbanklaw01_BitsOne.j0 200 n (tl (mem a b)) (setL a b) x y a b = some true := by
    intro x y hx hy
    have j1 : riverbanklaw01_BitsOne.j1 199 n (tl (mem a b)) (setL a b) x y (decide (0 ≤ n ∧ n < 90) && mem a b n.toNat) a b = some true := by
      simp only [riverbanklaw01_BitsOne.j1, List_f ha hb, Ints_f 198 (setL a b) (by omega) (by omega), Count_f ha hb, hx, hy, hH, hw, ho, RPut_f, p1, p2, is_f 198 (by decide) tw, is_f 198 (by decide) t_o, Option.bind_some, if_true, beq_self_eq_true, live1 198 (by decide)]
    simp only [riverbanklaw01_BitsOne.j0, Square_f, Option.bind_some]
    by_cases c : 0 ≤ n ∧ n < 90
    · have m1 : mx (mn n 89) 0 = n := by unfold mx mn; split <;> split <;> omega
      rw [decide_eq_true c] at j1 ⊢
      rw [if_pos rfl, m1, if_pos c.1, if_pos (tl_lt _ _ c.2)]
      obtain ⟨m, rfl⟩ : ∃ m : Nat, n = m := ⟨n.toNat, by omega⟩
      rw [tl_rd _ m (by omega)]
      rw [Int.toNat_natCast, Bool.true_and] at j1
      exact j1
    · rw [decide_eq_false c] at j1 ⊢
      rw [if_neg (by decide)]
      rw [Bool.false_and] at j1
      exact j1
  unfold riverbanklaw01_BitsOne.f
  rw [Truths_f 200 (by decide) ha hb]
  simp only [Option.bind_some]
  rw [RList_f 200 (by decide)]
  simp only [Option.bind_some]
  rw [show soL (mem a b) = setL a b from rfl]
  rcases First_f ha hb with ⟨h1, h2, _⟩ | ⟨i, h1, hi, h2, h3, _⟩
  · rcases Last_f ha hb with ⟨g1, _⟩ | ⟨m, _, hm, g2, _⟩
    · have : setL a b = [] := by
        unfold setL
        rw [List.map_eq_nil_iff, List.filter_eq_nil_iff]
        intro x hx; rw [h2 x (List.mem_range.1 hx)]; decide
      have c := core _ _ h1 g1
      rw [this] at c ⊢
      rw [if_neg (by decide)]
      exact c
    · rw [h2 m hm] at g2; cases g2
  · rcases Last_f ha hb with ⟨_, g2⟩ | ⟨m, g1, hm, g2, g3⟩
    · rw [g2 i hi] at h2; cases h2
    · obtain ⟨f1, f2⟩ := first_of i hi h2 h3
      have l1 := last_of m hm g2 g3
      have w1 : wrap64 (((setL a b).length : Int) - 1) = ((setL a b).length : Int) - 1 := by unfold wrap64; omega
      rw [w1, if_pos (by omega), if_pos (by omega), if_pos (by omega), if_pos (by omega), f1, l1]
      exact core _ _ h1 g1
end Go.Proofs.YtkbimiimgcklaaaDoor.Pure
