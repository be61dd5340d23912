/- Merged by a program of this session (wip/gprint/merge.py): what this claim needs of this session's texts, each part as it was. -/
import Derived.Test.YtkbimiimgcklaaaDoorAllPlaceChecks30
import Derived.Test.YtkbimiimgcklaaaDoorAllPlaceChecks34
namespace Go.Proofs.YtkbimiimgcklaaaDoor.Print
end Go.Proofs.YtkbimiimgcklaaaDoor.Print
namespace Go.Proofs.YtkbimiimgcklaaaDoor.Pure
end Go.Proofs.YtkbimiimgcklaaaDoor.Pure
namespace Go.Proofs.YtkbimiimgcklaaaDoor.SetMath
end Go.Proofs.YtkbimiimgcklaaaDoor.SetMath

-- of YtkbimiimgcklaaaDoorPureBoardCounts
/- The plain law BoardCounts. -/
namespace Go.Proofs.YtkbimiimgcklaaaDoor.Pure
open Go.RowKit Go.Proofs.YtkbimiimgcklaaaDoor.Print Go.Proofs.YtkbimiimgcklaaaDoor.SetMath Go.Proofs.YtkbimiimgcklaaaDoorW.PrintWords Go.Proofs.YtkbimiimgcklaaaDoorW.PrintLast Go.Proofs.YtkbimiimgcklaaaDoorW.PrintMore
def kindOne (c : UInt8) : Bool := !okCell c || ((sideOf (c.toNat : Int) == 0) && !(sideOf (c.toNat : Int) == 1) && !((c.toNat : Int) == 46) || !(sideOf (c.toNat : Int) == 0) && (sideOf (c.toNat : Int) == 1) && !((c.toNat : Int) == 46) || !(sideOf (c.toNat : Int) == 0) && !(sideOf (c.toNat : Int) == 1) && ((c.toNat : Int) == 46))
set_option maxRecDepth 100000 in
theorem kind_all : ∀ n : Fin 256, kindOne (UInt8.ofNat n.val) = true := by decide +kernel
theorem kind_one (c : UInt8) : kindOne c = true := by
  have h := kind_all ⟨c.toNat, c.toNat_lt⟩
  have e : UInt8.ofNat (⟨c.toNat, c.toNat_lt⟩ : Fin 256).val = c := UInt8.ofNat_toNat
  rw [e] at h; exact h
theorem three_filters (p q r : Nat → Bool) : ∀ l : List Nat, (∀ n ∈ l, p n && !q n && !r n || !p n && q n && !r n || !p n && !q n && r n) → (l.filter p).length + (l.filter q).length + (l.filter r).length = l.length
  | [], _ => rfl
  | x :: l, h => by
    have ih := three_filters p q r l (fun n hn => h n (List.mem_cons_of_mem _ hn))
    have hx := h x (List.mem_cons_self)
    simp only [List.filter_cons, List.length_cons]
    cases hp : p x <;> cases hq : q x <;> cases hr : r x <;> rw [hp, hq, hr] at hx <;> simp at hx ⊢ <;> omega
theorem soL_le (p : Nat → Bool) : (soL p).length ≤ 90 := by
  unfold soL
  have := List.length_filter_le p (List.range 90)
  simp at this ⊢
  omega
theorem soL_rise (p : Nat → Bool) : (soL p).Pairwise (· < ·) := by
  unfold soL
  rw [List.pairwise_map]
  exact ((List.pairwise_lt_range (n := 90)).filter p).imp (fun h => by omega)
theorem counts_loop (l : List UInt8) (hl : l.length = 90) (ha : l.all okCell = true) (c : Int) (L : List Int) (hL : L = soL (fun (n : Nat) => bt ⟨l.toArray⟩ n == c)) : ∀ (d i k : Nat), L.length = i + d → riverbanklaw02_BoardCounts.l0 (k + d + 1) ⟨l.toArray⟩ c L (i : Int) = some true
  | 0, i, k, h => by
    rw [riverbanklaw02_BoardCounts.l0, if_neg (by omega)]
    have h3 := three_filters (fun (n : Nat) => decide ((0 : Int) ≥ 0) && (sideOf (bt ⟨l.toArray⟩ n) == 0)) (fun (n : Nat) => decide ((1 : Int) ≥ 0) && (sideOf (bt ⟨l.toArray⟩ n) == 1)) (fun (n : Nat) => bt ⟨l.toArray⟩ n == 46) (List.range 90) (fun n hn => by
      have hn := List.mem_range.1 hn
      have := kind_one (l.getD n 0)
      unfold kindOne at this
      rw [getD_ok ha (show n < l.length by omega)] at this
      simp only [bt_list hl hn]
      simpa using this)
    have e0 : board_Pieces.f ⟨l.toArray⟩ 0 = some (soL (fun (n : Nat) => decide ((0 : Int) ≥ 0) && (sideOf (bt ⟨l.toArray⟩ n) == 0))) := by unfold board_Pieces.f; rw [is_of hl ha, Option.bind_some, if_pos rfl]
    have e1 : board_Pieces.f ⟨l.toArray⟩ 1 = some (soL (fun (n : Nat) => decide ((1 : Int) ≥ 0) && (sideOf (bt ⟨l.toArray⟩ n) == 1))) := by unfold board_Pieces.f; rw [is_of hl ha, Option.bind_some, if_pos rfl]
    have e2 : board_Find.f ⟨l.toArray⟩ 46 = some (soL (fun (n : Nat) => bt ⟨l.toArray⟩ n == 46)) := by unfold board_Find.f; rw [is_of hl ha, Option.bind_some, if_pos rfl]
    rw [e0, Option.bind_some, e1, Option.bind_some, e2, Option.bind_some]
    rw [List.length_range] at h3
    unfold soL
    simp only [List.length_map]
    rw [if_pos (by unfold wrap64; omega)]
    rfl
  | d + 1, i, k, h => by
    have hi : i < L.length := by omega
    have hr : rd L (i : Int) = L[i] := by unfold rd; simp [hi]
    obtain ⟨n, hn, hc, e⟩ : ∃ n : Nat, n < 90 ∧ bt ⟨l.toArray⟩ (n : Int) = c ∧ L[i] = (n : Int) := by
      have hm : L[i] ∈ soL (fun (n : Nat) => bt ⟨l.toArray⟩ n == c) := hL ▸ List.getElem_mem hi
      unfold soL at hm
      obtain ⟨n, hn, e⟩ := List.mem_map.1 hm
      obtain ⟨h1, h2⟩ := List.mem_filter.1 hn
      exact ⟨n, List.mem_range.1 h1, by simpa using h2, e.symm⟩
    rw [show k + (d + 1) + 1 = (k + d + 1) + 1 by omega, riverbanklaw02_BoardCounts.l0, if_pos (by omega), if_pos (by omega), hr, e, at_in hl ha hn, Option.bind_some, if_pos (by rw [← hc, bt_list hl hn])]
    have ih := counts_loop l hl ha c L hL d (i + 1) k (by omega)
    have h90 : L.length ≤ 90 := by rw [hL]; exact soL_le _
    have ew : wrap64 ((i : Int) + 1) = ((i + 1 : Nat) : Int) := by unfold wrap64; omega
    rw [ew]
    by_cases c0 : (i : Int) > 0
    · have e1 : wrap64 ((i : Int) - 1) = ((i - 1 : Nat) : Int) := by unfold wrap64; omega
      have hi1 : i - 1 < L.length := by omega
      have hr1 : rd L ((i - 1 : Nat) : Int) = L[i - 1] := by unfold rd; simp [hi1]
      have hlt : L[i - 1] < L[i] := List.pairwise_iff_getElem.1 (by rw [hL]; exact soL_rise _) (i - 1) i hi1 hi (by omega)
      rw [if_pos c0, e1, if_pos (by omega), if_pos (by omega), hr1, if_neg (by omega)]
      exact ih
    · rw [if_neg c0]
      exact ih
theorem BoardCounts (s : ByteArray) (a1 : Int) : (Lit.int .u8 a1).wf = true → ∃ k, riverbanklaw02_BoardCounts.f k s a1 = some true := by
  intro _
  refine ⟨100 + 1, ?_⟩
  unfold riverbanklaw02_BoardCounts.f
  have hfalse : ∀ (b : Bool), board_Is.f s = some b → (riverbanklaw02_small.f s = some false ∨ b = false) → riverbanklaw02_BoardCounts.j0 (100 + 1) s a1 true = some true := fun b _ _ => by
    rw [riverbanklaw02_BoardCounts.j0, if_pos rfl]
    unfold riverbanklaw02_small.f
    rw [Option.bind_some, if_pos (by simp)]; rfl
  obtain ⟨t, ht⟩ : ∃ t, board_Is.f s = some t := ⟨_, rfl⟩
  by_cases hs : (s.size : Int) ≤ 200
  case neg =>
    rw [show riverbanklaw02_small.f s = some false by unfold riverbanklaw02_small.f; rw [decide_eq_false hs], Option.bind_some, if_neg (by decide)]
    exact hfalse t ht (.inl (by unfold riverbanklaw02_small.f; rw [decide_eq_false hs]))
  rw [show riverbanklaw02_small.f s = some true by unfold riverbanklaw02_small.f; rw [decide_eq_true hs], Option.bind_some, if_pos rfl, ht, Option.bind_some]
  cases t with
  | false => exact hfalse false ht (.inr rfl)
  | true =>
    obtain ⟨h1, h2⟩ := is_true ht
    obtain ⟨l, rfl⟩ : ∃ l : List UInt8, s = ⟨l.toArray⟩ := ⟨s.data.toList, by simp⟩
    have hl : l.length = 90 := h1
    have ha : l.all okCell = true := by simpa using h2
    rw [riverbanklaw02_BoardCounts.j0, if_neg (by decide), show board_Find.f ⟨l.toArray⟩ a1 = some (soL (fun (n : Nat) => bt ⟨l.toArray⟩ n == a1)) by unfold board_Find.f; rw [ht, Option.bind_some, if_pos rfl], Option.bind_some]
    have h90 := soL_le (fun (n : Nat) => bt ⟨l.toArray⟩ n == a1)
    have := counts_loop l hl ha a1 _ rfl (soL (fun (n : Nat) => bt ⟨l.toArray⟩ n == a1)).length 0 (99 - (soL (fun (n : Nat) => bt ⟨l.toArray⟩ n == a1)).length) (by omega)
    rw [show 99 - (soL (fun (n : Nat) => bt ⟨l.toArray⟩ n == a1)).length + (soL (fun (n : Nat) => bt ⟨l.toArray⟩ n == a1)).length + 1 = 100 by omega] at this
    exact this
end Go.Proofs.YtkbimiimgcklaaaDoor.Pure
