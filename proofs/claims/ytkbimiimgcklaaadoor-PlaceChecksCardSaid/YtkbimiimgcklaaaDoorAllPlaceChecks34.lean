/- Merged by a program of this session (wip/gprint/merge.py): what this claim needs of this session's texts, each part as it was. -/
import Derived.Test.YtkbimiimgcklaaaDoorAllPlaceChecks31
import Derived.Test.YtkbimiimgcklaaaDoorAllPlaceChecks33
namespace Go.Proofs.YtkbimiimgcklaaaDoor.Print
end Go.Proofs.YtkbimiimgcklaaaDoor.Print
namespace Go.Proofs.YtkbimiimgcklaaaDoor.Pure
end Go.Proofs.YtkbimiimgcklaaaDoor.Pure
namespace Go.Proofs.YtkbimiimgcklaaaDoor.SetMath
end Go.Proofs.YtkbimiimgcklaaaDoor.SetMath

-- of YtkbimiimgcklaaaDoorPureBoardTurn
/- The plain law BoardTurn. -/
namespace Go.Proofs.YtkbimiimgcklaaaDoor.Pure
open Go.RowKit Go.Proofs.YtkbimiimgcklaaaDoor.Print Go.Proofs.YtkbimiimgcklaaaDoor.SetMath Go.Proofs.YtkbimiimgcklaaaDoorW.PrintWords Go.Proofs.YtkbimiimgcklaaaDoorW.PrintLast Go.Proofs.YtkbimiimgcklaaaDoorW.PrintMore
def turnOk (c : UInt8) : Bool :=
  !okCell c || (okCell (swapB c) && swapB (swapB c) == c && (sideOf ((swapB c).toNat : Int) == 0) == (sideOf (c.toNat : Int) == 1) && decide (board_Kind.f (c.toNat : Int) = board_Kind.f ((swapB c).toNat : Int)) && (board_Kind.f (c.toNat : Int)).isSome && (decide (sideOf (c.toNat : Int) = -1) || decide (wrap64 (sideOf (c.toNat : Int) + sideOf ((swapB c).toNat : Int)) = 1)))
set_option maxRecDepth 100000 in
theorem turn_all_ok : ∀ n : Fin 256, turnOk (UInt8.ofNat n.val) = true := by decide +kernel
theorem turn_ok (c : UInt8) (hc : okCell c = true) : okCell (swapB c) = true ∧ swapB (swapB c) = c ∧ ((sideOf ((swapB c).toNat : Int) == 0) = (sideOf (c.toNat : Int) == 1)) ∧ board_Kind.f (c.toNat : Int) = board_Kind.f ((swapB c).toNat : Int) ∧ (board_Kind.f (c.toNat : Int)).isSome = true ∧ (sideOf (c.toNat : Int) = -1 ∨ wrap64 (sideOf (c.toNat : Int) + sideOf ((swapB c).toNat : Int)) = 1) := by
  have h := turn_all_ok ⟨c.toNat, c.toNat_lt⟩
  have e : UInt8.ofNat (⟨c.toNat, c.toNat_lt⟩ : Fin 256).val = c := UInt8.ofNat_toNat
  rw [e] at h
  unfold turnOk at h
  rw [hc] at h
  simp only [Bool.not_true, Bool.false_or, Bool.and_eq_true, Bool.or_eq_true, beq_iff_eq, decide_eq_true_eq] at h
  obtain ⟨⟨⟨⟨⟨h1, h2⟩, h3⟩, h4⟩, h5⟩, h6⟩ := h
  exact ⟨h1, h2, h3, h4, h5, h6⟩
def turnL (l : List UInt8) : List UInt8 := l.reverse.map swapB
theorem turnL_len {l : List UInt8} (h : l.length = 90) : (turnL l).length = 90 := by simp [turnL, h]
theorem turnL_ok {l : List UInt8} (ha : l.all okCell = true) : (turnL l).all okCell = true := by
  rw [List.all_eq_true] at ha ⊢
  intro x hx
  obtain ⟨y, hy, rfl⟩ := List.mem_map.1 hx
  exact (turn_ok y (ha y (List.mem_reverse.1 hy))).1
theorem turnL_back {l : List UInt8} (ha : l.all okCell = true) : turnL (turnL l) = l := by
  rw [List.all_eq_true] at ha
  unfold turnL
  rw [← List.map_reverse, List.reverse_reverse, List.map_map]
  refine (List.map_congr_left fun x hx => ?_).trans (List.map_id _)
  exact (turn_ok x (ha x hx)).2.1
theorem turnL_at {l : List UInt8} (h : l.length = 90) {n : Nat} (hn : n < 90) : (turnL l).getD n 0 = swapB (l.getD (89 - n) 0) := by
  have h2 : 89 - n < l.length := by omega
  simp only [turnL, List.getD_eq_getElem?_getD, List.getElem?_map, List.getElem?_reverse (show n < l.length by omega)]
  rw [show l.length - 1 - n = 89 - n by omega, List.getElem?_eq_getElem h2]
  rfl
theorem turn_f {l : List UInt8} (h : l.length = 90) (ha : l.all okCell = true) : board_Turn.f ⟨l.toArray⟩ = some ⟨(turnL l).toArray⟩ := by
  unfold board_Turn.f
  rw [is_of h ha, Option.bind_some, if_pos rfl]
  unfold turnB turnL
  simp
theorem bt_list {l : List UInt8} (h : l.length = 90) {n : Nat} (hn : n < 90) : bt ⟨l.toArray⟩ (n : Int) = ((l.getD n 0).toNat : Int) := by
  have e : (ByteArray.mk l.toArray).size = 90 := by rw [← h]; rfl
  have hn' : n < l.length := by omega
  unfold bt
  simp [hn', e, hn]
  rfl
theorem range_back : (List.range 90).reverse = (List.range 90).map (fun n => 89 - n) := by decide +kernel
theorem soL_back (p q : Nat → Bool) (h : ∀ n, n < 90 → p n = q (89 - n)) : (soL p).length = (soL q).length := by
  have e : (((List.range 90).reverse).filter q).length = ((List.range 90).filter q).length := by rw [List.filter_reverse, List.length_reverse]
  unfold soL
  rw [List.length_map, List.length_map, ← e, range_back, List.filter_map, List.length_map]
  congr 1
  exact List.filter_congr fun n hn => h n (List.mem_range.1 hn)
theorem pieces_turn {l : List UInt8} (h : l.length = 90) (ha : l.all okCell = true) : ∃ u v, board_Pieces.f ⟨(turnL l).toArray⟩ 0 = some u ∧ board_Pieces.f ⟨l.toArray⟩ 1 = some v ∧ u.length = v.length := by
  refine ⟨soL (fun (n : Nat) => decide ((0 : Int) ≥ 0) && (sideOf (bt ⟨(turnL l).toArray⟩ n) == 0)), soL (fun (n : Nat) => decide ((1 : Int) ≥ 0) && (sideOf (bt ⟨l.toArray⟩ n) == 1)), ?_, ?_, ?_⟩
  · unfold board_Pieces.f; rw [is_of (turnL_len h) (turnL_ok ha), Option.bind_some, if_pos rfl]
  · unfold board_Pieces.f; rw [is_of h ha, Option.bind_some, if_pos rfl]
  · refine soL_back _ _ fun n hn => ?_
    have h89 : 89 - n < 90 := by omega
    rw [bt_list (turnL_len h) hn, bt_list h h89, turnL_at h hn, (turn_ok _ (getD_ok ha (by omega))).2.2.1]
    rfl
theorem BoardTurn (s : ByteArray) (a1 : Int) : (Lit.int .i64 a1).wf = true → ∃ k, riverbanklaw02_BoardTurn.f k s a1 = some true := by
  intro _
  obtain ⟨kk, _⟩ : ∃ kk : Nat, kk = 5 := ⟨5, rfl⟩
  refine ⟨kk + 2, ?_⟩
  unfold riverbanklaw02_BoardTurn.f
  by_cases hs : (s.size : Int) ≤ 200
  case neg =>
    rw [show riverbanklaw02_small.f s = some false by unfold riverbanklaw02_small.f; rw [decide_eq_false hs], Option.bind_some, if_neg (by decide)]
    rfl
  rw [show riverbanklaw02_small.f s = some true by unfold riverbanklaw02_small.f; rw [decide_eq_true hs], Option.bind_some, if_pos rfl]
  obtain ⟨t, ht⟩ : ∃ t, board_Is.f s = some t := ⟨_, rfl⟩
  cases t with
  | false =>
    rw [show board_Turn.f s = some ⟨#[]⟩ by unfold board_Turn.f; rw [ht, Option.bind_some, if_neg (by decide)], Option.bind_some, ht, Option.bind_some, if_neg (by decide), if_pos (by decide +kernel)]
    rfl
  | true =>
    obtain ⟨h1, h2⟩ := is_true ht
    obtain ⟨l, rfl⟩ : ∃ l : List UInt8, s = ⟨l.toArray⟩ := ⟨s.data.toList, by simp⟩
    have hl : l.length = 90 := h1
    have ha : l.all okCell = true := by simpa using h2
    have hl' := turnL_len hl
    have ha' := turnL_ok ha
    obtain ⟨u, v, hu, hv, huv⟩ := pieces_turn hl ha
    rw [turn_f hl ha, Option.bind_some, ht, Option.bind_some, if_pos rfl, turn_f hl' ha', turnL_back ha, Option.bind_some, if_pos rfl, hu, Option.bind_some, hv, Option.bind_some, huv,
      show (((v.length : Int)) != (v.length : Int)) = false by simp, riverbanklaw02_BoardTurn.j0, if_neg (by decide)]
    by_cases c1 : a1 < 0
    · rw [if_pos c1, riverbanklaw02_BoardTurn.j1, if_pos rfl]; rfl
    rw [if_neg c1]
    by_cases c2 : a1 > 89
    · rw [decide_eq_true c2, riverbanklaw02_BoardTurn.j1, if_pos rfl]; rfl
    rw [decide_eq_false c2, riverbanklaw02_BoardTurn.j1, if_neg (by decide)]
    obtain ⟨n, rfl⟩ : ∃ n : Nat, a1 = n := ⟨a1.toNat, by omega⟩
    have hn : n < 90 := by omega
    have ew : wrap64 (89 - (n : Int)) = ((89 - n : Nat) : Int) := by unfold wrap64; omega
    have hc := getD_ok ha (show n < l.length by omega)
    obtain ⟨_, _, _, hk, hks, hsd⟩ := turn_ok _ hc
    obtain ⟨q, hq⟩ := Option.isSome_iff_exists.1 hks
    have hq' := hk.symm.trans hq
    rw [at_in hl ha hn, Option.bind_some, ew, at_in hl' ha' (by omega), turnL_at hl (by omega), show 89 - (89 - n) = n by omega, Option.bind_some, hq, Option.bind_some, hq', Option.bind_some, if_pos rfl, side_some, Option.bind_some]
    by_cases c3 : sideOf ((l.getD n 0).toNat : Int) = -1
    · rw [if_pos c3]; rfl
    · rw [if_neg c3, Option.bind_some, side_some, Option.bind_some, if_pos (hsd.resolve_left c3)]; rfl
end Go.Proofs.YtkbimiimgcklaaaDoor.Pure
