/- Merged by a program of this session (wip/gprint/merge.py): what this claim needs of this session's texts, each part as it was. -/
import Derived.Test.YtkbimiimgcklaaaDoorAllPlaceTurn36
import Derived.WalkKit
import Derived.Test.YtkbimiimgcklaaaDoorAllPlaceTurn35
import Derived.Test.YtkbimiimgcklaaaDoorAllPlaceTurn34
import Derived.Test.YtkbimiimgcklaaaDoorAllPlaceTurn7
import Derived.Test.YtkbimiimgcklaaaDoorAllPlaceTurn11
import Derived.Test.YtkbimiimgcklaaaDoorAllPlaceTurn14
import Derived.Test.YtkbimiimgcklaaaDoorAllPlaceTurn12
import Derived.Test.YtkbimiimgcklaaaDoorAllPlaceTurn16
import Derived.Test.YtkbimiimgcklaaaDoorAllPlaceTurn17
import Derived.Test.YtkbimiimgcklaaaDoorAllPlaceTurn18
import Derived.Test.YtkbimiimgcklaaaDoorAllPlaceTurn22
import Derived.Test.YtkbimiimgcklaaaDoorAllPlaceTurn28
import Derived.Test.YtkbimiimgcklaaaDoorAllPlaceTurn29
import Derived.Test.YtkbimiimgcklaaaDoorAllPlaceTurn26
import Derived.Test.YtkbimiimgcklaaaDoorAllPlaceTurn19
import Derived.Test.YtkbimiimgcklaaaDoorAllPlaceTurn32
import Derived.Test.YtkbimiimgcklaaaDoorAllPlaceTurn8
import Derived.Test.YtkbimiimgcklaaaDoorAllPlaceTurn13
import Derived.Test.YtkbimiimgcklaaaDoorAllPlaceTurn9
import Derived.Test.YtkbimiimgcklaaaDoorAllPlaceTurn30
import Derived.Test.YtkbimiimgcklaaaDoorAllPlaceTurn21
import Derived.Test.YtkbimiimgcklaaaDoorAllPlaceTurn10
import Derived.Test.YtkbimiimgcklaaaDoorAllPlaceTurn20
import Derived.Test.YtkbimiimgcklaaaDoorAllPlaceTurn5
import Derived.Test.YtkbimiimgcklaaaDoorAllPlaceTurn31
import Derived.Test.YtkbimiimgcklaaaDoorAllPlaceTurn39
import Derived.Test.YtkbimiimgcklaaaDoorAllPlaceTurn37
import Derived.Test.YtkbimiimgcklaaaDoorAllPlaceTurn38
import Derived.Test.YtkbimiimgcklaaaDoorAllPlaceTurn41
import Derived.Test.YtkbimiimgcklaaaDoorAllPlaceTurn40
import Derived.Test.YtkbimiimgcklaaaDoorAllPlaceTurn42
namespace Go.Proofs.YtkbimiimgcklaaaDoor.Print
end Go.Proofs.YtkbimiimgcklaaaDoor.Print
namespace Go.Proofs.YtkbimiimgcklaaaDoor.Pure
end Go.Proofs.YtkbimiimgcklaaaDoor.Pure
namespace Go.Proofs.YtkbimiimgcklaaaDoor.SetMath
end Go.Proofs.YtkbimiimgcklaaaDoor.SetMath

-- of YtkbimiimgcklaaaDoorPureBoardPut
/- The plain law BoardPut. -/
namespace Go.Proofs.YtkbimiimgcklaaaDoor.Pure
open Go.RowKit Go.Proofs.YtkbimiimgcklaaaDoor.Print Go.Proofs.YtkbimiimgcklaaaDoorW.PrintWords Go.Proofs.YtkbimiimgcklaaaDoorW.PrintLast Go.Proofs.YtkbimiimgcklaaaDoorW.PrintMore
set_option maxRecDepth 100000 in
theorem put_c (c : UInt8) : board_isCell.f (c.toNat : Int) = some (okCell c) ∧ ∃ s, board_Side.f (c.toNat : Int) = some s ∧ (okCell c = false → s < 0 ∧ c.toNat ≠ 46) ∧ (okCell c = true → ¬ s < 0 ∨ c.toNat = 46) := by
  have h : ∀ n : Fin 256, board_isCell.f ((UInt8.ofNat n.val).toNat : Int) = some (okCell (UInt8.ofNat n.val)) ∧ (board_Side.f ((UInt8.ofNat n.val).toNat : Int)).isSome = true ∧ (okCell (UInt8.ofNat n.val) = false → (board_Side.f ((UInt8.ofNat n.val).toNat : Int)).getD 0 < 0 ∧ (UInt8.ofNat n.val).toNat ≠ 46) ∧ (okCell (UInt8.ofNat n.val) = true → ¬ (board_Side.f ((UInt8.ofNat n.val).toNat : Int)).getD 0 < 0 ∨ (UInt8.ofNat n.val).toNat = 46) := by decide +kernel
  have h := h ⟨c.toNat, c.toNat_lt⟩
  have e : UInt8.ofNat (⟨c.toNat, c.toNat_lt⟩ : Fin 256).val = c := UInt8.ofNat_toNat
  rw [e] at h
  obtain ⟨h1, h2, h3, h4⟩ := h
  obtain ⟨s, hs⟩ := Option.isSome_iff_exists.1 h2
  rw [hs] at h3 h4
  exact ⟨h1, s, hs, h3, h4⟩
theorem is_true {s : ByteArray} (h : board_Is.f s = some true) : s.size = 90 ∧ s.data.toList.all okCell = true := by
  unfold board_Is.f at h
  have := Option.some.inj h
  rw [Bool.and_eq_true] at this
  exact ⟨of_decide_eq_true this.1, this.2⟩
theorem is_of {l : List UInt8} (h : l.length = 90) (ha : l.all okCell = true) : board_Is.f ⟨l.toArray⟩ = some true := by
  unfold board_Is.f
  have e : (ByteArray.mk l.toArray).size = 90 := by rw [← h]; rfl
  rw [e]
  simp [ha]
theorem sq_true {n : Nat} (h : n < 90) : board_isSquare.f (n : Int) = some true := by
  unfold board_isSquare.f
  rw [if_pos (by omega), decide_eq_true (by omega)]
theorem at_in {l : List UInt8} (h : l.length = 90) (ha : l.all okCell = true) {n : Nat} (hn : n < 90) : board_At.f ⟨l.toArray⟩ (n : Int) = some ((l.getD n 0).toNat : Int) := by
  unfold board_At.f
  have e : (ByteArray.mk l.toArray).size = 90 := by rw [← h]; rfl
  rw [sq_true hn, Option.bind_some, if_pos rfl, is_of h ha, Option.bind_some, if_pos rfl, if_pos (by omega), e, if_pos (by omega)]
  have hn' : n < l.length := by omega
  congr 1
  unfold bt
  simp [hn', e, hn]
  rfl
theorem put_in {l : List UInt8} (h : l.length = 90) (ha : l.all okCell = true) {n : Nat} (hn : n < 90) (c : UInt8) (hc : okCell c = true) : board_Put.f ⟨l.toArray⟩ (n : Int) (c.toNat : Int) = some ⟨(l.set n c).toArray⟩ := by
  unfold board_Put.f
  have := c.toNat_lt
  rw [if_pos (by omega), sq_true hn, Option.bind_some, if_pos rfl, (put_c c).1, Option.bind_some, if_pos hc, is_of h ha, Option.bind_some, if_pos rfl]
  unfold putB
  simp
theorem put_no {l : List UInt8} {n : Nat} (hn : n < 90) (c : UInt8) (hc : okCell c = false) : board_Put.f ⟨l.toArray⟩ (n : Int) (c.toNat : Int) = some ⟨l.toArray⟩ := by
  unfold board_Put.f
  have := c.toNat_lt
  rw [if_pos (by omega), sq_true hn, Option.bind_some, if_pos rfl, (put_c c).1, Option.bind_some, if_neg (by rw [hc]; decide)]
theorem all_set {l : List UInt8} (ha : l.all okCell = true) (n : Nat) {c : UInt8} (hc : okCell c = true) : (l.set n c).all okCell = true := by
  rw [List.all_eq_true] at ha ⊢
  intro x hx
  rcases List.mem_or_eq_of_mem_set hx with h | rfl
  · exact ha x h
  · exact hc
theorem getD_ok {l : List UInt8} (ha : l.all okCell = true) {n : Nat} (h : n < l.length) : okCell (l.getD n 0) = true := by
  rw [List.all_eq_true] at ha
  have : l.getD n 0 = l[n] := by simp [h]
  rw [this]; exact ha _ (List.getElem_mem h)
theorem BoardPut (s : ByteArray) (a1 a2 a3 : Int) : (Lit.int .i64 a1).wf = true → (Lit.int .u8 a2).wf = true → (Lit.int .i64 a3).wf = true → ∃ k, riverbanklaw02_BoardPut.f k s a1 a2 a3 = some true := by
  intro _ w0 _
  have hc : 0 ≤ a2 ∧ a2 < 256 := by
    simp [Lit.wf, IntKind.min, IntKind.max, IntKind.signed, IntKind.bits] at w0
    omega
  obtain ⟨c, rfl⟩ : ∃ c : UInt8, a2 = (c.toNat : Int) := ⟨a2.toNat.toUInt8, by simp; omega⟩
  obtain ⟨kk, _⟩ : ∃ kk : Nat, kk = 5 := ⟨5, rfl⟩
  refine ⟨kk + 2, ?_⟩
  unfold riverbanklaw02_BoardPut.f
  have hlive : ∀ a b x d, riverbanklaw02_BoardPut.j0 (kk + 2) a b x d true = some true := fun a b x d => by
    rw [riverbanklaw02_BoardPut.j0]; rw [if_pos rfl]; rfl
  by_cases hs : (s.size : Int) ≤ 200
  case neg =>
    rw [show riverbanklaw02_small.f s = some false by unfold riverbanklaw02_small.f; rw [decide_eq_false hs], Option.bind_some, if_neg (by decide)]
    exact hlive _ _ _ _
  rw [show riverbanklaw02_small.f s = some true by unfold riverbanklaw02_small.f; rw [decide_eq_true hs], Option.bind_some, if_pos rfl]
  obtain ⟨t, ht⟩ : ∃ t, board_Is.f s = some t := ⟨_, rfl⟩
  rw [ht, Option.bind_some]
  cases t with
  | false => rw [if_neg (by decide)]; exact hlive _ _ _ _
  | true =>
    rw [if_pos rfl]
    by_cases c1 : a1 < 0
    · rw [if_pos c1]; exact hlive _ _ _ _
    by_cases c2 : a1 > 89
    · rw [if_neg c1, if_pos c2]; exact hlive _ _ _ _
    by_cases c3 : a3 < 0
    · rw [if_neg c1, if_neg c2, if_pos c3]; exact hlive _ _ _ _
    by_cases c4 : a3 > 89
    · rw [if_neg c1, if_neg c2, if_neg c3, decide_eq_true c4]; exact hlive _ _ _ _
    rw [if_neg c1, if_neg c2, if_neg c3, decide_eq_false c4]
    obtain ⟨n, rfl⟩ : ∃ n : Nat, a1 = n := ⟨a1.toNat, by omega⟩
    obtain ⟨m, rfl⟩ : ∃ m : Nat, a3 = m := ⟨a3.toNat, by omega⟩
    have hn : n < 90 := by omega
    have hm : m < 90 := by omega
    obtain ⟨h1, h2⟩ := is_true ht
    obtain ⟨l, rfl⟩ : ∃ l : List UInt8, s = ⟨l.toArray⟩ := ⟨s.data.toList, by simp⟩
    have hl : l.length = 90 := h1
    have ha : l.all okCell = true := by simpa using h2
    obtain ⟨_, sd, hsd, hno, hyes⟩ := put_c c
    rw [riverbanklaw02_BoardPut.j0]
    rw [if_neg (by decide)]
    cases hk : okCell c with
    | false =>
      obtain ⟨g1, g2⟩ := hno hk
      rw [put_no hn c hk, Option.bind_some, hsd, Option.bind_some, if_pos g1, show (((c.toNat : Int)) != 46) = true by simp; omega]
      rw [riverbanklaw02_BoardPut.j1]
      rw [if_pos rfl, if_pos rfl]; rfl
    | true =>
      have hj : (if sd < 0 then riverbanklaw02_BoardPut.j1 (kk + 1) ⟨l.toArray⟩ (n : Int) (c.toNat : Int) (m : Int) ⟨(l.set n c).toArray⟩ ((c.toNat : Int) != 46) else riverbanklaw02_BoardPut.j1 (kk + 1) ⟨l.toArray⟩ (n : Int) (c.toNat : Int) (m : Int) ⟨(l.set n c).toArray⟩ false) = riverbanklaw02_BoardPut.j1 (kk + 1) ⟨l.toArray⟩ (n : Int) (c.toNat : Int) (m : Int) ⟨(l.set n c).toArray⟩ false := by
        by_cases g : sd < 0
        · rw [if_pos g]
          rcases hyes hk with h | h
          · exact absurd g h
          · rw [h]; rfl
        · rw [if_neg g]
      rw [put_in hl ha hn c hk, Option.bind_some, hsd, Option.bind_some]
      refine hj.trans ?_
      have hl' : (l.set n c).length = 90 := by simpa using hl
      have ha' := all_set ha n hk
      have e1 : (l.set n c).getD n 0 = c := by simp [hl, hn]
      have e2 : board_Put.f ⟨(l.set n c).toArray⟩ (n : Int) ((l.getD n 0).toNat : Int) = some ⟨l.toArray⟩ := by
        rw [put_in hl' ha' hn _ (getD_ok ha (by omega)), List.set_set]
        simp [hl, hn]
      rw [riverbanklaw02_BoardPut.j1]
      rw [if_neg (by decide), at_in hl' ha' hn, Option.bind_some, e1, if_pos rfl]
      by_cases em : (m : Int) = (n : Int)
      · rw [if_pos em, at_in hl ha hn, Option.bind_some, e2, Option.bind_some, if_pos rfl, is_of hl' ha', Option.bind_some, if_pos rfl]; rfl
      · have e3 : (l.set n c).getD m 0 = l.getD m 0 := by
          have : n ≠ m := by omega
          simp [this]
        rw [if_neg em, at_in hl' ha' hm, Option.bind_some, at_in hl ha hm, Option.bind_some, e3, if_pos rfl, at_in hl ha hn, Option.bind_some, e2, Option.bind_some, if_pos rfl, is_of hl' ha', Option.bind_some, if_pos rfl]; rfl
end Go.Proofs.YtkbimiimgcklaaaDoor.Pure

-- of YtkbimiimgcklaaaDoorPureBoardTurn
/- The plain law BoardTurn. -/
namespace Go.Proofs.YtkbimiimgcklaaaDoor.Pure
open Go.RowKit Go.Proofs.YtkbimiimgcklaaaDoor.Print Go.Proofs.YtkbimiimgcklaaaDoor.SetMath Go.Proofs.YtkbimiimgcklaaaDoorW.PrintWords Go.Proofs.YtkbimiimgcklaaaDoorW.PrintLast Go.Proofs.YtkbimiimgcklaaaDoorW.PrintMore
def turnOk (c : UInt8) : Bool :=
  !okCell c || (okCell (swapB c) && swapB (swapB c) == c && (sideOf ((swapB c).toNat : Int) == 0) == (sideOf (c.toNat : Int) == 1) && decide (board_Kind.f (c.toNat : Int) = board_Kind.f ((swapB c).toNat : Int)) && (board_Kind.f (c.toNat : Int)).isSome && (decide (sideOf (c.toNat : Int) = -1) || decide (wrap64 (sideOf (c.toNat : Int) + sideOf ((swapB c).toNat : Int)) = 1)))
set_option maxRecDepth 100000 in
theorem turn_all_ok : ∀ n : Fin 256, turnOk (UInt8.ofNat n.val) = true := by decide +kernel
theorem turn_ok (c : UInt8) (hc : okCell c = true) : okCell (swapB c) = true ∧ swapB (swapB c) = c ∧ ((sideOf ((swapB c).toNat : Int) == 0) = (sideOf (c.toNat : Int) == 1)) ∧ board_Kind.f (c.toNat : Int) = board_Kind.f ((swapB c).toNat : Int) ∧ (board_Kind.f (c.toNat : Int)).isSome = true ∧ (sideOf (c.toNat : Int) = -1 ∨ wrap64 (sideOf (c.toNat : Int) + sideOf ((swapB c).toNat : Int)) = 1) := by
  have h := turn_all_ok ⟨c.toNat, c.toNat_lt⟩
  have e : UInt8.ofNat (⟨c.toNat, c.toNat_lt⟩ : Fin 256).val = c := UInt8.ofNat_toNat
  rw [e] at h
  unfold turnOk at h
  rw [hc] at h
  simp only [Bool.not_true, Bool.false_or, Bool.and_eq_true, Bool.or_eq_true, beq_iff_eq, decide_eq_true_eq] at h
  obtain ⟨⟨⟨⟨⟨h1, h2⟩, h3⟩, h4⟩, h5⟩, h6⟩ := h
  exact ⟨h1, h2, h3, h4, h5, h6⟩
def turnL (l : List UInt8) : List UInt8 := l.reverse.map swapB
theorem turnL_len {l : List UInt8} (h : l.length = 90) : (turnL l).length = 90 := by simp [turnL, h]
theorem turnL_ok {l : List UInt8} (ha : l.all okCell = true) : (turnL l).all okCell = true := by
  rw [List.all_eq_true] at ha ⊢
  intro x hx
  obtain ⟨y, hy, rfl⟩ := List.mem_map.1 hx
  exact (turn_ok y (ha y (List.mem_reverse.1 hy))).1
theorem turnL_back {l : List UInt8} (ha : l.all okCell = true) : turnL (turnL l) = l := by
  rw [List.all_eq_true] at ha
  unfold turnL
  rw [← List.map_reverse, List.reverse_reverse, List.map_map]
  refine (List.map_congr_left fun x hx => ?_).trans (List.map_id _)
  exact (turn_ok x (ha x hx)).2.1
theorem turnL_at {l : List UInt8} (h : l.length = 90) {n : Nat} (hn : n < 90) : (turnL l).getD n 0 = swapB (l.getD (89 - n) 0) := by
  have h2 : 89 - n < l.length := by omega
  simp only [turnL, List.getD_eq_getElem?_getD, List.getElem?_map, List.getElem?_reverse (show n < l.length by omega)]
  rw [show l.length - 1 - n = 89 - n by omega, List.getElem?_eq_getElem h2]
  rfl
theorem turn_f {l : List UInt8} (h : l.length = 90) (ha : l.all okCell = true) : board_Turn.f ⟨l.toArray⟩ = some ⟨(turnL l).toArray⟩ := by
  unfold board_Turn.f
  rw [is_of h ha, Option.bind_some, if_pos rfl]
  unfold turnB turnL
  simp
theorem bt_list {l : List UInt8} (h : l.length = 90) {n : Nat} (hn : n < 90) : bt ⟨l.toArray⟩ (n : Int) = ((l.getD n 0).toNat : Int) := by
  have e : (ByteArray.mk l.toArray).size = 90 := by rw [← h]; rfl
  have hn' : n < l.length := by omega
  unfold bt
  simp [hn', e, hn]
  rfl
theorem range_back : (List.range 90).reverse = (List.range 90).map (fun n => 89 - n) := by decide +kernel
theorem soL_back (p q : Nat → Bool) (h : ∀ n, n < 90 → p n = q (89 - n)) : (soL p).length = (soL q).length := by
  have e : (((List.range 90).reverse).filter q).length = ((List.range 90).filter q).length := by rw [List.filter_reverse, List.length_reverse]
  unfold soL
  rw [List.length_map, List.length_map, ← e, range_back, List.filter_map, List.length_map]
  congr 1
  exact List.filter_congr fun n hn => h n (List.mem_range.1 hn)
theorem pieces_turn {l : List UInt8} (h : l.length = 90) (ha : l.all okCell = true) : ∃ u v, board_Pieces.f ⟨(turnL l).toArray⟩ 0 = some u ∧ board_Pieces.f ⟨l.toArray⟩ 1 = some v ∧ u.length = v.length := by
  refine ⟨soL (fun (n : Nat) => decide ((0 : Int) ≥ 0) && (sideOf (bt ⟨(turnL l).toArray⟩ n) == 0)), soL (fun (n : Nat) => decide ((1 : Int) ≥ 0) && (sideOf (bt ⟨l.toArray⟩ n) == 1)), ?_, ?_, ?_⟩
  · unfold board_Pieces.f; rw [is_of (turnL_len h) (turnL_ok ha), Option.bind_some, if_pos rfl]
  · unfold board_Pieces.f; rw [is_of h ha, Option.bind_some, if_pos rfl]
  · refine soL_back _ _ fun n hn => ?_
    have h89 : 89 - n < 90 := by omega
    rw [bt_list (turnL_len h) hn, bt_list h h89, turnL_at h hn, (turn_ok _ (getD_ok ha (by omega))).2.2.1]
    rfl
theorem BoardTurn (s : ByteArray) (a1 : Int) : (Lit.int .i64 a1).wf = true → ∃ k, riverbanklaw02_BoardTurn.f k s a1 = some true := by
  intro _
  obtain ⟨kk, _⟩ : ∃ kk : Nat, kk = 5 := ⟨5, rfl⟩
  refine ⟨kk + 2, ?_⟩
  unfold riverbanklaw02_BoardTurn.f
  by_cases hs : (s.size : Int) ≤ 200
  case neg =>
    rw [show riverbanklaw02_small.f s = some false by unfold riverbanklaw02_small.f; rw [decide_eq_false hs], Option.bind_some, if_neg (by decide)]
    rfl
  rw [show riverbanklaw02_small.f s = some true by unfold riverbanklaw02_small.f; rw [decide_eq_true hs], Option.bind_some, if_pos rfl]
  obtain ⟨t, ht⟩ : ∃ t, board_Is.f s = some t := ⟨_, rfl⟩
  cases t with
  | false =>
    rw [show board_Turn.f s = some ⟨#[]⟩ by unfold board_Turn.f; rw [ht, Option.bind_some, if_neg (by decide)], Option.bind_some, ht, Option.bind_some, if_neg (by decide), if_pos (by decide +kernel)]
    rfl
  | true =>
    obtain ⟨h1, h2⟩ := is_true ht
    obtain ⟨l, rfl⟩ : ∃ l : List UInt8, s = ⟨l.toArray⟩ := ⟨s.data.toList, by simp⟩
    have hl : l.length = 90 := h1
    have ha : l.all okCell = true := by simpa using h2
    have hl' := turnL_len hl
    have ha' := turnL_ok ha
    obtain ⟨u, v, hu, hv, huv⟩ := pieces_turn hl ha
    rw [turn_f hl ha, Option.bind_some, ht, Option.bind_some, if_pos rfl, turn_f hl' ha', turnL_back ha, Option.bind_some, if_pos rfl, hu, Option.bind_some, hv, Option.bind_some, huv,
      show (((v.length : Int)) != (v.length : Int)) = false by simp, riverbanklaw02_BoardTurn.j0, if_neg (by decide)]
    by_cases c1 : a1 < 0
    · rw [if_pos c1, riverbanklaw02_BoardTurn.j1, if_pos rfl]; rfl
    rw [if_neg c1]
    by_cases c2 : a1 > 89
    · rw [decide_eq_true c2, riverbanklaw02_BoardTurn.j1, if_pos rfl]; rfl
    rw [decide_eq_false c2, riverbanklaw02_BoardTurn.j1, if_neg (by decide)]
    obtain ⟨n, rfl⟩ : ∃ n : Nat, a1 = n := ⟨a1.toNat, by omega⟩
    have hn : n < 90 := by omega
    have ew : wrap64 (89 - (n : Int)) = ((89 - n : Nat) : Int) := by unfold wrap64; omega
    have hc := getD_ok ha (show n < l.length by omega)
    obtain ⟨_, _, _, hk, hks, hsd⟩ := turn_ok _ hc
    obtain ⟨q, hq⟩ := Option.isSome_iff_exists.1 hks
    have hq' := hk.symm.trans hq
    rw [at_in hl ha hn, Option.bind_some, ew, at_in hl' ha' (by omega), turnL_at hl (by omega), show 89 - (89 - n) = n by omega, Option.bind_some, hq, Option.bind_some, hq', Option.bind_some, if_pos rfl, side_some, Option.bind_some]
    by_cases c3 : sideOf ((l.getD n 0).toNat : Int) = -1
    · rw [if_pos c3]; rfl
    · rw [if_neg c3, Option.bind_some, side_some, Option.bind_some, if_pos (hsd.resolve_left c3)]; rfl
end Go.Proofs.YtkbimiimgcklaaaDoor.Pure

-- of YtkbimiimgcklaaaDoorPureBoardCounts
/- The plain law BoardCounts. -/
namespace Go.Proofs.YtkbimiimgcklaaaDoor.Pure
open Go.RowKit Go.Proofs.YtkbimiimgcklaaaDoor.Print Go.Proofs.YtkbimiimgcklaaaDoor.SetMath Go.Proofs.YtkbimiimgcklaaaDoorW.PrintWords Go.Proofs.YtkbimiimgcklaaaDoorW.PrintLast Go.Proofs.YtkbimiimgcklaaaDoorW.PrintMore
def kindOne (c : UInt8) : Bool := !okCell c || ((sideOf (c.toNat : Int) == 0) && !(sideOf (c.toNat : Int) == 1) && !((c.toNat : Int) == 46) || !(sideOf (c.toNat : Int) == 0) && (sideOf (c.toNat : Int) == 1) && !((c.toNat : Int) == 46) || !(sideOf (c.toNat : Int) == 0) && !(sideOf (c.toNat : Int) == 1) && ((c.toNat : Int) == 46))
set_option maxRecDepth 100000 in
theorem kind_all : ∀ n : Fin 256, kindOne (UInt8.ofNat n.val) = true := by decide +kernel
theorem kind_one (c : UInt8) : kindOne c = true := by
  have h := kind_all ⟨c.toNat, c.toNat_lt⟩
  have e : UInt8.ofNat (⟨c.toNat, c.toNat_lt⟩ : Fin 256).val = c := UInt8.ofNat_toNat
  rw [e] at h; exact h
theorem three_filters (p q r : Nat → Bool) : ∀ l : List Nat, (∀ n ∈ l, p n && !q n && !r n || !p n && q n && !r n || !p n && !q n && r n) → (l.filter p).length + (l.filter q).length + (l.filter r).length = l.length
  | [], _ => rfl
  | x :: l, h => by
    have ih := three_filters p q r l (fun n hn => h n (List.mem_cons_of_mem _ hn))
    have hx := h x (List.mem_cons_self)
    simp only [List.filter_cons, List.length_cons]
    cases hp : p x <;> cases hq : q x <;> cases hr : r x <;> rw [hp, hq, hr] at hx <;> simp at hx ⊢ <;> omega
theorem soL_le (p : Nat → Bool) : (soL p).length ≤ 90 := by
  unfold soL
  have := List.length_filter_le p (List.range 90)
  simp at this ⊢
  omega
theorem soL_rise (p : Nat → Bool) : (soL p).Pairwise (· < ·) := by
  unfold soL
  rw [List.pairwise_map]
  exact ((List.pairwise_lt_range (n := 90)).filter p).imp (fun h => by omega)
theorem counts_loop (l : List UInt8) (hl : l.length = 90) (ha : l.all okCell = true) (c : Int) (L : List Int) (hL : L = soL (fun (n : Nat) => bt ⟨l.toArray⟩ n == c)) : ∀ (d i k : Nat), L.length = i + d → riverbanklaw02_BoardCounts.l0 (k + d + 1) ⟨l.toArray⟩ c L (i : Int) = some true
  | 0, i, k, h => by
    rw [riverbanklaw02_BoardCounts.l0, if_neg (by omega)]
    have h3 := three_filters (fun (n : Nat) => decide ((0 : Int) ≥ 0) && (sideOf (bt ⟨l.toArray⟩ n) == 0)) (fun (n : Nat) => decide ((1 : Int) ≥ 0) && (sideOf (bt ⟨l.toArray⟩ n) == 1)) (fun (n : Nat) => bt ⟨l.toArray⟩ n == 46) (List.range 90) (fun n hn => by
      have hn := List.mem_range.1 hn
      have := kind_one (l.getD n 0)
      unfold kindOne at this
      rw [getD_ok ha (show n < l.length by omega)] at this
      simp only [bt_list hl hn]
      simpa using this)
    have e0 : board_Pieces.f ⟨l.toArray⟩ 0 = some (soL (fun (n : Nat) => decide ((0 : Int) ≥ 0) && (sideOf (bt ⟨l.toArray⟩ n) == 0))) := by unfold board_Pieces.f; rw [is_of hl ha, Option.bind_some, if_pos rfl]
    have e1 : board_Pieces.f ⟨l.toArray⟩ 1 = some (soL (fun (n : Nat) => decide ((1 : Int) ≥ 0) && (sideOf (bt ⟨l.toArray⟩ n) == 1))) := by unfold board_Pieces.f; rw [is_of hl ha, Option.bind_some, if_pos rfl]
    have e2 : board_Find.f ⟨l.toArray⟩ 46 = some (soL (fun (n : Nat) => bt ⟨l.toArray⟩ n == 46)) := by unfold board_Find.f; rw [is_of hl ha, Option.bind_some, if_pos rfl]
    rw [e0, Option.bind_some, e1, Option.bind_some, e2, Option.bind_some]
    rw [List.length_range] at h3
    unfold soL
    simp only [List.length_map]
    rw [if_pos (by unfold wrap64; omega)]
    rfl
  | d + 1, i, k, h => by
    have hi : i < L.length := by omega
    have hr : rd L (i : Int) = L[i] := by unfold rd; simp [hi]
    obtain ⟨n, hn, hc, e⟩ : ∃ n : Nat, n < 90 ∧ bt ⟨l.toArray⟩ (n : Int) = c ∧ L[i] = (n : Int) := by
      have hm : L[i] ∈ soL (fun (n : Nat) => bt ⟨l.toArray⟩ n == c) := hL ▸ List.getElem_mem hi
      unfold soL at hm
      obtain ⟨n, hn, e⟩ := List.mem_map.1 hm
      obtain ⟨h1, h2⟩ := List.mem_filter.1 hn
      exact ⟨n, List.mem_range.1 h1, by simpa using h2, e.symm⟩
    rw [show k + (d + 1) + 1 = (k + d + 1) + 1 by omega, riverbanklaw02_BoardCounts.l0, if_pos (by omega), if_pos (by omega), hr, e, at_in hl ha hn, Option.bind_some, if_pos (by rw [← hc, bt_list hl hn])]
    have ih := counts_loop l hl ha c L hL d (i + 1) k (by omega)
    have h90 : L.length ≤ 90 := by rw [hL]; exact soL_le _
    have ew : wrap64 ((i : Int) + 1) = ((i + 1 : Nat) : Int) := by unfold wrap64; omega
    rw [ew]
    by_cases c0 : (i : Int) > 0
    · have e1 : wrap64 ((i : Int) - 1) = ((i - 1 : Nat) : Int) := by unfold wrap64; omega
      have hi1 : i - 1 < L.length := by omega
      have hr1 : rd L ((i - 1 : Nat) : Int) = L[i - 1] := by unfold rd; simp [hi1]
      have hlt : L[i - 1] < L[i] := List.pairwise_iff_getElem.1 (by rw [hL]; exact soL_rise _) (i - 1) i hi1 hi (by omega)
      rw [if_pos c0, e1, if_pos (by omega), if_pos (by omega), hr1, if_neg (by omega)]
      exact ih
    · rw [if_neg c0]
      exact ih
theorem BoardCounts (s : ByteArray) (a1 : Int) : (Lit.int .u8 a1).wf = true → ∃ k, riverbanklaw02_BoardCounts.f k s a1 = some true := by
  intro _
  refine ⟨100 + 1, ?_⟩
  unfold riverbanklaw02_BoardCounts.f
  have hfalse : ∀ (b : Bool), board_Is.f s = some b → (riverbanklaw02_small.f s = some false ∨ b = false) → riverbanklaw02_BoardCounts.j0 (100 + 1) s a1 true = some true := fun b _ _ => by
    rw [riverbanklaw02_BoardCounts.j0, if_pos rfl]
    unfold riverbanklaw02_small.f
    rw [Option.bind_some, if_pos (by simp)]; rfl
  obtain ⟨t, ht⟩ : ∃ t, board_Is.f s = some t := ⟨_, rfl⟩
  by_cases hs : (s.size : Int) ≤ 200
  case neg =>
    rw [show riverbanklaw02_small.f s = some false by unfold riverbanklaw02_small.f; rw [decide_eq_false hs], Option.bind_some, if_neg (by decide)]
    exact hfalse t ht (.inl (by unfold riverbanklaw02_small.f; rw [decide_eq_false hs]))
  rw [show riverbanklaw02_small.f s = some true by unfold riverbanklaw02_small.f; rw [decide_eq_true hs], Option.bind_some, if_pos rfl, ht, Option.bind_some]
  cases t with
  | false => exact hfalse false ht (.inr rfl)
  | true =>
    obtain ⟨h1, h2⟩ := is_true ht
    obtain ⟨l, rfl⟩ : ∃ l : List UInt8, s = ⟨l.toArray⟩ := ⟨s.data.toList, by simp⟩
    have hl : l.length = 90 := h1
    have ha : l.all okCell = true := by simpa using h2
    rw [riverbanklaw02_BoardCounts.j0, if_neg (by decide), show board_Find.f ⟨l.toArray⟩ a1 = some (soL (fun (n : Nat) => bt ⟨l.toArray⟩ n == a1)) by unfold board_Find.f; rw [ht, Option.bind_some, if_pos rfl], Option.bind_some]
    have h90 := soL_le (fun (n : Nat) => bt ⟨l.toArray⟩ n == a1)
    have := counts_loop l hl ha a1 _ rfl (soL (fun (n : Nat) => bt ⟨l.toArray⟩ n == a1)).length 0 (99 - (soL (fun (n : Nat) => bt ⟨l.toArray⟩ n == a1)).length) (by omega)
    rw [show 99 - (soL (fun (n : Nat) => bt ⟨l.toArray⟩ n == a1)).length + (soL (fun (n : Nat) => bt ⟨l.toArray⟩ n == a1)).length + 1 = 100 by omega] at this
    exact this
end Go.Proofs.YtkbimiimgcklaaaDoor.Pure

-- of YtkbimiimgcklaaaDoorRefBoard
/- What the document's functions on boards compute. -/
namespace Go.Proofs.YtkbimiimgcklaaaDoor.Pure
open Go.RowKit Go.Proofs.YtkbimiimgcklaaaDoor.Print Go.Proofs.YtkbimiimgcklaaaDoor.SetMath Go.Proofs.YtkbimiimgcklaaaDoorW.PrintWords Go.Proofs.YtkbimiimgcklaaaDoorW.PrintLast Go.Proofs.YtkbimiimgcklaaaDoorW.PrintMore
set_option maxRecDepth 100000 in
theorem side_ref30 : ∀ n : Fin 256, riverbankref02_Side.f 30 ((UInt8.ofNat n.val).toNat : Int) = some (sideOf ((UInt8.ofNat n.val).toNat : Int)) := by decide +kernel
theorem side_ref (c : UInt8) (k : Nat) (hk : 30 ≤ k) : riverbankref02_Side.f k (c.toNat : Int) = some (sideOf (c.toNat : Int)) := by
  have h := side_ref30 ⟨c.toNat, c.toNat_lt⟩
  have e : UInt8.ofNat (⟨c.toNat, c.toNat_lt⟩ : Fin 256).val = c := UInt8.ofNat_toNat
  rw [e] at h
  exact at_rounds (riverbankref02_Side.mono _) hk h
theorem ok_side (c : UInt8) : okCell c = (decide ((c.toNat : Int) = 46) || !decide (sideOf (c.toNat : Int) < 0)) := by
  obtain ⟨_, s, hs, h1, h2⟩ := put_c c
  rw [side_some] at hs
  have e := Option.some.inj hs
  rw [e]
  cases h : okCell c with
  | false => obtain ⟨g1, g2⟩ := h1 h; simp [g1]; omega
  | true => rcases h2 h with g | g <;> simp [g]
theorem RIs_loop (l : List UInt8) (hl : l.length = 90) : ∀ (d i k : Nat), i + d = 90 → riverbankref02_Is.l0 (k + 30 + d + 1) ⟨l.toArray⟩ (i : Int) = some ((l.drop i).all okCell)
  | 0, i, k, h => by
    rw [riverbankref02_Is.l0, if_neg (by omega), List.drop_of_length_le (by omega)]; rfl
  | d + 1, i, k, h => by
    have hi : i < l.length := by omega
    have e90 : (ByteArray.mk l.toArray).size = 90 := by rw [← hl]; rfl
    have ew : wrap64 ((i : Int) + 1) = ((i + 1 : Nat) : Int) := by unfold wrap64; omega
    have ih := RIs_loop l hl d (i + 1) k (by omega)
    have hd : l.getD i 0 = l[i] := by simp [hi]
    rw [show k + 30 + (d + 1) + 1 = (k + 30 + d + 1) + 1 by omega, riverbankref02_Is.l0, if_pos (by omega), if_pos (by omega), e90, if_pos (by omega), bt_list hl (by omega), ew, ih, side_ref _ _ (by omega), Option.bind_some, hd, List.drop_eq_getElem_cons hi, List.all_cons, ok_side]
    by_cases c1 : ((l[i]).toNat : Int) = 46
    · rw [if_pos c1, decide_eq_true c1]; rfl
    · rw [if_neg c1, decide_eq_false c1]
      by_cases c2 : sideOf ((l[i]).toNat : Int) < 0
      · rw [if_pos c2, decide_eq_true c2]; rfl
      · rw [if_neg c2, decide_eq_false c2]; rfl
theorem RIs_f (s : ByteArray) (k : Nat) (hk : 130 ≤ k) : riverbankref02_Is.f k s = board_Is.f s := by
  obtain ⟨l, rfl⟩ : ∃ l : List UInt8, s = ⟨l.toArray⟩ := ⟨s.data.toList, by simp⟩
  have es : (ByteArray.mk l.toArray).size = l.length := rfl
  unfold riverbankref02_Is.f board_Is.f
  rw [es]
  by_cases h : l.length = 90
  · rw [if_pos (by omega), decide_eq_true h]
    have := RIs_loop l h 90 0 (k - 121) (by omega)
    rw [show k - 121 + 30 + 90 + 1 = k by omega] at this
    exact this.trans (by simp)
  · rw [if_neg (by omega), decide_eq_false h]; rfl
theorem RAt_f (s : ByteArray) (n : Int) (k : Nat) (hk : 130 ≤ k) : ∃ v, board_At.f s n = some v ∧ riverbankref02_At.f k s n = some v := by
  unfold riverbankref02_At.f
  rw [RIs_f s k hk]
  obtain ⟨t, ht⟩ : ∃ t, board_Is.f s = some t := ⟨_, rfl⟩
  rw [ht, Option.bind_some]
  cases t with
  | false =>
    rw [if_neg (by decide)]
    refine ⟨46, ?_, rfl⟩
    unfold board_At.f
    cases hq : board_isSquare.f n with
    | none => unfold board_isSquare.f at hq; split at hq <;> cases hq
    | some q =>
      rw [Option.bind_some]
      cases q with
      | false => rw [if_neg (by decide)]
      | true => rw [if_pos rfl, ht, Option.bind_some, if_neg (by decide)]
  | true =>
    rw [if_pos rfl]
    by_cases c : n < 0 ∨ n > 89
    · refine ⟨46, ?_, ?_⟩
      · have hq : board_isSquare.f n = some false := by
          unfold board_isSquare.f
          by_cases c : n ≥ 0
          · rw [if_pos c, decide_eq_false (by omega)]
          · rw [if_neg c]
        unfold board_At.f; rw [hq, Option.bind_some, if_neg (by decide)]
      · by_cases c1 : n < 0
        · rw [if_pos c1]
        · rw [if_neg c1, if_pos (by omega)]
    · obtain ⟨m, rfl⟩ : ∃ m : Nat, n = m := ⟨n.toNat, by omega⟩
      have hm : m < 90 := by omega
      have hz := (is_true ht).1
      refine ⟨bt s (m : Int), ?_, ?_⟩
      · unfold board_At.f
        rw [sq_true hm, Option.bind_some, if_pos rfl, ht, Option.bind_some, if_pos rfl, if_pos (by omega), if_pos (by omega)]
      · rw [if_neg (by omega), if_neg (by omega), if_pos (by omega), if_pos (by omega)]
theorem RFind_loop (l : List UInt8) (hl : l.length = 90) (c : Int) : ∀ (d i k : Nat) (acc : List Int), i + d = 90 → acc = ((List.range i).filter (fun (n : Nat) => bt ⟨l.toArray⟩ (n : Int) == c)).map (fun (n : Nat) => (n : Int)) → riverbankref02_Find.l0 (k + d + 1) ⟨l.toArray⟩ c acc (i : Int) = some (soL (fun (n : Nat) => bt ⟨l.toArray⟩ (n : Int) == c))
  | 0, i, k, acc, h, ha => by
    have e90 : (ByteArray.mk l.toArray).size = 90 := by rw [← hl]; rfl
    rw [riverbankref02_Find.l0, e90, if_neg (by omega), ha, show i = 90 by omega]; rfl
  | d + 1, i, k, acc, h, ha => by
    have e90 : (ByteArray.mk l.toArray).size = 90 := by rw [← hl]; rfl
    have ew : wrap64 ((i : Int) + 1) = ((i + 1 : Nat) : Int) := by unfold wrap64; omega
    have hlen : acc.length ≤ 90 := by
      rw [ha, List.length_map]
      have := List.length_filter_le (fun (n : Nat) => bt ⟨l.toArray⟩ (n : Int) == c) (List.range i)
      rw [List.length_range] at this; omega
    rw [show k + (d + 1) + 1 = (k + d + 1) + 1 by omega, riverbankref02_Find.l0, e90, if_pos (by omega), if_pos (by omega), ew]
    have hs : ((List.range (i + 1)).filter (fun (n : Nat) => bt ⟨l.toArray⟩ (n : Int) == c)).map (fun (n : Nat) => (n : Int)) = acc ++ if (bt ⟨l.toArray⟩ (i : Int) == c) = true then [(i : Int)] else [] := by
      rw [ha, List.range_succ, List.filter_append, List.map_append]
      congr 1
      cases hb : (bt ⟨l.toArray⟩ (i : Int) == c) <;> simp [hb]
    by_cases hc : bt ⟨l.toArray⟩ (i : Int) = c
    · rw [if_pos hc, if_pos (by omega)]
      exact RFind_loop l hl c d (i + 1) k _ (by omega) (by rw [hs, if_pos (by simp [hc])])
    · rw [if_neg hc]
      exact RFind_loop l hl c d (i + 1) k _ (by omega) (by rw [hs, if_neg (by simp [hc]), List.append_nil])
theorem RFind_f (s : ByteArray) (c : Int) (k : Nat) (hk : 130 ≤ k) : ∃ L, board_Find.f s c = some L ∧ riverbankref02_Find.f k s c = some L ∧ L.length ≤ 90 := by
  unfold riverbankref02_Find.f board_Find.f
  rw [RIs_f s k hk]
  obtain ⟨t, ht⟩ : ∃ t, board_Is.f s = some t := ⟨_, rfl⟩
  rw [ht, Option.bind_some, Option.bind_some]
  cases t with
  | false => exact ⟨[], rfl, rfl, by simp⟩
  | true =>
    obtain ⟨l, rfl⟩ : ∃ l : List UInt8, s = ⟨l.toArray⟩ := ⟨s.data.toList, by simp⟩
    have hl : l.length = 90 := (is_true ht).1
    refine ⟨_, rfl, ?_, soL_le _⟩
    rw [if_pos rfl]
    have := RFind_loop l hl c 90 0 (k - 91) [] (by omega) rfl
    rw [show k - 91 + 90 + 1 = k by omega] at this
    exact this
end Go.Proofs.YtkbimiimgcklaaaDoor.Pure

-- of YtkbimiimgcklaaaDoorRefBoardTwo
/- What the document's functions on boards compute: Put, Pieces, Turn. -/
namespace Go.Proofs.YtkbimiimgcklaaaDoor.Pure
open Go.RowKit Go.Proofs.YtkbimiimgcklaaaDoor.Print Go.Proofs.YtkbimiimgcklaaaDoor.SetMath Go.Proofs.YtkbimiimgcklaaaDoorW.PrintWords Go.Proofs.YtkbimiimgcklaaaDoorW.PrintLast Go.Proofs.YtkbimiimgcklaaaDoorW.PrintMore
theorem setB_set {l : List UInt8} {n : Nat} (h : n < l.length) (c : UInt8) : setB ⟨l.toArray⟩ n c = ⟨(l.set n c).toArray⟩ := by
  have e : (setB ⟨l.toArray⟩ n c).data.toList = l.set n c := by
    unfold setB
    rw [List.set_eq_take_append_cons_drop, if_pos h]
    simp [ByteArray.data_append, List.append_assoc]
    exact List.take_of_length_le (by simp; show l.length ≤ l.length - (n + 1) + (n + 1); omega)
  apply ByteArray.ext
  apply Array.toList_inj.mp
  rw [e]
theorem sq_out {n : Int} (h : n < 0 ∨ n > 89) : board_isSquare.f n = some false := by
  unfold board_isSquare.f
  by_cases c : n ≥ 0
  · rw [if_pos c, decide_eq_false (by omega)]
  · rw [if_neg c]
theorem RPut_f (s : ByteArray) (n : Int) (c : UInt8) (k : Nat) (hk : 130 ≤ k) : ∃ v, board_Put.f s n (c.toNat : Int) = some v ∧ riverbankref02_Put.f k s n (c.toNat : Int) = some v := by
  unfold riverbankref02_Put.f
  have hc := c.toNat_lt
  rw [if_pos (by omega), RIs_f s k hk]
  obtain ⟨t, ht⟩ : ∃ t, board_Is.f s = some t := ⟨_, rfl⟩
  rw [ht, Option.bind_some]
  cases t with
  | false =>
    rw [if_neg (by decide)]
    refine ⟨s, ?_, rfl⟩
    have hsq : ∃ q, board_isSquare.f n = some q := by unfold board_isSquare.f; split <;> exact ⟨_, rfl⟩
    obtain ⟨q, hq⟩ := hsq
    unfold board_Put.f
    rw [if_pos (by omega), hq, Option.bind_some]
    cases q with
    | false => rw [if_neg (by decide)]
    | true =>
      rw [if_pos rfl, (put_c c).1, Option.bind_some]
      cases okCell c with
      | false => rw [if_neg (by decide)]
      | true => rw [if_pos rfl, ht, Option.bind_some, if_neg (by decide)]
  | true =>
    rw [if_pos rfl]
    by_cases c1 : n < 0 ∨ n > 89
    · refine ⟨s, ?_, ?_⟩
      · unfold board_Put.f; rw [if_pos (by omega), sq_out c1, Option.bind_some, if_neg (by decide)]
      · by_cases d : n < 0
        · rw [if_pos d]
        · rw [if_neg d, if_pos (by omega)]
    · obtain ⟨m, rfl⟩ : ∃ m : Nat, n = m := ⟨n.toNat, by omega⟩
      have hm : m < 90 := by omega
      obtain ⟨h1, h2⟩ := is_true ht
      obtain ⟨l, rfl⟩ : ∃ l : List UInt8, s = ⟨l.toArray⟩ := ⟨s.data.toList, by simp⟩
      have hl : l.length = 90 := h1
      have ha : l.all okCell = true := by simpa using h2
      rw [if_neg (by omega), if_neg (by omega)]
      obtain ⟨_, sd, hsd, hno, hyes⟩ := put_c c
      have hss : riverbankref02_Side.f k (c.toNat : Int) = some sd := by
        rw [side_ref c k (by omega), ← hsd, side_some]
      have hset : setB ⟨l.toArray⟩ ((m : Int)).toNat ((c.toNat : Int)).toNat.toUInt8 = ⟨(l.set m c).toArray⟩ := by
        rw [Int.toNat_natCast, Int.toNat_natCast, show c.toNat.toUInt8 = c from UInt8.ofNat_toNat]
        exact setB_set (by omega) c
      cases hk2 : okCell c with
      | false =>
        obtain ⟨g1, g2⟩ := hno hk2
        refine ⟨⟨l.toArray⟩, put_no hm c hk2, ?_⟩
        rw [if_neg (by omega), hss, Option.bind_some, if_pos g1]
      | true =>
        refine ⟨⟨(l.set m c).toArray⟩, put_in hl ha hm c hk2, ?_⟩
        rw [hset]
        by_cases c2 : (c.toNat : Int) = 46
        · rw [if_pos c2]
        · rw [if_neg c2, hss, Option.bind_some]
          rcases hyes hk2 with g | g
          · rw [if_neg g]
          · exact absurd (by omega) c2
theorem RPieces_loop (l : List UInt8) (hl : l.length = 90) (c : Int) (p : Nat → Bool) (hp : ∀ n : Nat, p n = (sideOf (bt ⟨l.toArray⟩ (n : Int)) == c)) : ∀ (d i k : Nat) (acc : List Int), i + d = 90 → acc = ((List.range i).filter p).map (fun (n : Nat) => (n : Int)) → riverbankref02_Pieces.l0 (k + 30 + d + 1) ⟨l.toArray⟩ c acc (i : Int) = some (soL p)
  | 0, i, k, acc, h, ha => by
    rw [riverbankref02_Pieces.l0, if_neg (by omega), ha, show i = 90 by omega]; rfl
  | d + 1, i, k, acc, h, ha => by
    have e90 : (ByteArray.mk l.toArray).size = 90 := by rw [← hl]; rfl
    have ew : wrap64 ((i : Int) + 1) = ((i + 1 : Nat) : Int) := by unfold wrap64; omega
    have hlen : acc.length ≤ 90 := by
      rw [ha, List.length_map]
      have := List.length_filter_le p (List.range i)
      rw [List.length_range] at this; omega
    have hb := bt_list hl (show i < 90 by omega)
    have hs : ((List.range (i + 1)).filter p).map (fun (n : Nat) => (n : Int)) = acc ++ if p i = true then [(i : Int)] else [] := by
      rw [ha, List.range_succ, List.filter_append, List.map_append]
      congr 1
      cases hb : p i <;> simp [hb]
    have hpi := hp i
    rw [hb] at hpi
    rw [show k + 30 + (d + 1) + 1 = (k + 30 + d + 1) + 1 by omega, riverbankref02_Pieces.l0, if_pos (by omega), if_pos (by omega), e90, if_pos (by omega), ew, hb, side_ref _ _ (by omega), Option.bind_some]
    by_cases hc : sideOf ((l.getD i 0).toNat : Int) = c
    · rw [if_pos hc, if_pos (by omega)]
      exact RPieces_loop l hl c p hp d (i + 1) k _ (by omega) (by rw [hs, if_pos (by rw [hpi, hc]; simp)])
    · rw [if_neg hc]
      exact RPieces_loop l hl c p hp d (i + 1) k _ (by omega) (by rw [hs, if_neg (by rw [hpi]; simpa using hc), List.append_nil])
theorem soL_none : soL (fun _ => false) = [] := by decide
theorem RPieces_f (s : ByteArray) (c : Int) (k : Nat) (hk : 130 ≤ k) : ∃ L, board_Pieces.f s c = some L ∧ riverbankref02_Pieces.f k s c = some L ∧ L.length ≤ 90 := by
  unfold riverbankref02_Pieces.f board_Pieces.f
  rw [RIs_f s k hk]
  obtain ⟨t, ht⟩ : ∃ t, board_Is.f s = some t := ⟨_, rfl⟩
  obtain ⟨q, rfl⟩ : ∃ q, k = q + 1 := ⟨k - 1, by omega⟩
  rw [ht, Option.bind_some, Option.bind_some]
  cases t with
  | false => exact ⟨[], rfl, by rw [if_neg (by decide), riverbankref02_Pieces.j0, if_pos rfl], by simp⟩
  | true =>
    rw [if_pos rfl, if_pos rfl, riverbankref02_Pieces.j0]
    by_cases hc : c < 0
    · refine ⟨_, rfl, ?_, soL_le _⟩
      rw [decide_eq_true hc, if_pos rfl]
      refine congrArg some (Eq.trans soL_none.symm ?_)
      congr 1
      funext n
      rw [decide_eq_false (by omega)]; rfl
    · refine ⟨_, rfl, ?_, soL_le _⟩
      rw [decide_eq_false hc, if_neg (by decide)]
      obtain ⟨l, rfl⟩ : ∃ l : List UInt8, s = ⟨l.toArray⟩ := ⟨s.data.toList, by simp⟩
      have hl : l.length = 90 := (is_true ht).1
      have := RPieces_loop l hl c (fun (n : Nat) => decide (c ≥ 0) && (sideOf (bt ⟨l.toArray⟩ (n : Int)) == c)) (fun n => by rw [decide_eq_true (show c ≥ 0 by omega)]; rfl) 90 0 (q - 121) [] (by omega) rfl
      rw [show q - 121 + 30 + 90 + 1 = q by omega] at this
      exact this
def swapR (c : UInt8) : Bool := if 0 ≤ sideOf (c.toNat : Int) then decide (((riverbankref02_Kind.f 31 (c.toNat : Int)).bind fun t => riverbankref02_Of.f t (wrap64 (1 - sideOf (c.toNat : Int)))) = some ((swapB c).toNat : Int)) else swapB c == c
set_option maxRecDepth 100000 in
theorem swapR_all : ∀ n : Fin 256, swapR (UInt8.ofNat n.val) = true := by decide +kernel
theorem swapR_ok (c : UInt8) : swapR c = true := by
  have h := swapR_all ⟨c.toNat, c.toNat_lt⟩
  have e : UInt8.ofNat (⟨c.toNat, c.toNat_lt⟩ : Fin 256).val = c := UInt8.ofNat_toNat
  rw [e] at h
  exact h
theorem one_byte (d : UInt8) : strOfNums [(d.toNat : Int)] = ⟨[d].toArray⟩ := by
  unfold strOfNums
  rw [List.map_cons, List.map_nil, Int.toNat_natCast, UInt8.ofNat_toNat]
theorem push_list (a b : List UInt8) : (⟨a.toArray⟩ : ByteArray) ++ ⟨b.toArray⟩ = ⟨(a ++ b).toArray⟩ := by
  apply ByteArray.ext; simp [ByteArray.data_append]
theorem RTurn_loop (l : List UInt8) (hl : l.length = 90) : ∀ (j k : Nat), j ≤ 90 → riverbankref02_Turn.l0 (k + 31 + j + 1) ⟨l.toArray⟩ ⟨((l.drop j).reverse.map swapB).toArray⟩ ((j : Int) - 1) = some ⟨(turnL l).toArray⟩
  | 0, k, _ => by
    rw [riverbankref02_Turn.l0, if_neg (by omega), List.drop_zero]; rfl
  | j + 1, k, h => by
    have e90 : (ByteArray.mk l.toArray).size = 90 := by rw [← hl]; rfl
    have hj : j < l.length := by omega
    have ew : wrap64 ((j : Int) - 1) = (j : Int) - 1 := by unfold wrap64; omega
    have ec : (((j + 1 : Nat) : Int) - 1) = (j : Int) := by omega
    have hd : l.drop j = l.getD j 0 :: l.drop (j + 1) := by rw [List.drop_eq_getElem_cons hj]; simp [hj]
    have ih := RTurn_loop l hl j k (by omega)
    rw [hd, List.reverse_cons, List.map_append, List.map_cons, List.map_nil, ← push_list] at ih
    obtain ⟨acc, hacc⟩ : ∃ acc : ByteArray, acc = ⟨((l.drop (j + 1)).reverse.map swapB).toArray⟩ := ⟨_, rfl⟩
    have hsz : acc.size ≤ 90 := by rw [hacc]; show (((l.drop (j + 1)).reverse.map swapB).toArray).size ≤ 90; simp; omega
    rw [← hacc] at ih ⊢
    obtain ⟨c, hc⟩ : ∃ c, c = l.getD j 0 := ⟨_, rfl⟩
    have hb := bt_list hl (show j < 90 by omega)
    rw [← hc] at ih hb
    have h1 : ∀ d : UInt8, (ByteArray.mk [d].toArray).size = 1 := fun _ => rfl
    have hR := swapR_ok c
    unfold swapR at hR
    rw [ec, show k + 31 + (j + 1) + 1 = (k + 31 + j + 1) + 1 by omega, riverbankref02_Turn.l0, if_pos (by omega), if_pos (by omega), e90, if_pos (by omega), ew, hb, side_ref _ _ (by omega), Option.bind_some]
    by_cases g : 0 ≤ sideOf (c.toNat : Int)
    · rw [if_pos g] at hR
      obtain ⟨t, ht, hR⟩ := Option.bind_eq_some_iff.mp (of_decide_eq_true hR)
      have ht' : riverbankref02_Kind.f (k + 31 + j + 1) (c.toNat : Int) = some t := at_rounds (riverbankref02_Kind.mono _) (by omega) ht
      rw [if_pos (by omega), ht', Option.bind_some, Option.bind_some, hR, Option.bind_some, Option.bind_some, one_byte, h1, if_pos (by omega)]
      exact ih
    · rw [if_neg g] at hR
      rw [eq_of_beq hR] at ih
      rw [if_neg (by omega), Option.bind_some, one_byte, h1, if_pos (by omega)]
      exact ih
theorem RTurn_f (s : ByteArray) (k : Nat) (hk : 130 ≤ k) : ∃ v, board_Turn.f s = some v ∧ riverbankref02_Turn.f k s = some v := by
  unfold riverbankref02_Turn.f
  rw [RIs_f s k hk]
  obtain ⟨t, ht⟩ : ∃ t, board_Is.f s = some t := ⟨_, rfl⟩
  rw [ht, Option.bind_some]
  cases t with
  | false => exact ⟨⟨#[]⟩, by unfold board_Turn.f; rw [ht, Option.bind_some, if_neg (by decide)], by rw [if_neg (by decide)]⟩
  | true =>
    obtain ⟨h1, h2⟩ := is_true ht
    obtain ⟨l, rfl⟩ : ∃ l : List UInt8, s = ⟨l.toArray⟩ := ⟨s.data.toList, by simp⟩
    have hl : l.length = 90 := h1
    have ha : l.all okCell = true := by simpa using h2
    refine ⟨_, turn_f hl ha, ?_⟩
    rw [if_pos rfl]
    have := RTurn_loop l hl 90 (k - 122) (Nat.le_refl _)
    rw [show k - 122 + 31 + 90 + 1 = k by omega, List.drop_of_length_le (by omega)] at this
    exact this
end Go.Proofs.YtkbimiimgcklaaaDoor.Pure

-- of YtkbimiimgcklaaaDoorPlaceMath
/- Where pieces may stand, and how many there may be: the program's answer and the document's. -/
namespace Go.Proofs.YtkbimiimgcklaaaDoor.Pure
open Go.RowKit Go.Proofs.YtkbimiimgcklaaaDoor.Print Go.Proofs.YtkbimiimgcklaaaDoor.SetMath Go.Proofs.YtkbimiimgcklaaaDoorW.PrintWords Go.Proofs.YtkbimiimgcklaaaDoorW.PrintLast Go.Proofs.YtkbimiimgcklaaaDoorW.PrintMore
def mostP (c : Int) : Int := (place_Most.f c).getD 0
def kindP (c : Int) : Int := (board_Kind.f c).getD 0
def mayP (c n : Int) : Bool := (place_May.f 40 c n).getD false
theorem kind_some (c : Int) : board_Kind.f c = some (kindP c) := by
  unfold kindP board_Kind.f
  rw [side_some, Option.bind_some]
  split
  · rfl
  · split <;> rfl
theorem most_some (c : Int) : place_Most.f c = some (mostP c) := by
  unfold mostP place_Most.f
  rw [kind_some, Option.bind_some]
  split
  · rfl
  · split
    · rfl
    · split <;> rfl
theorem seen_some (k : Nat) (n t : Int) : ∃ v, place_seen.f (k + 1) n t = some v := by
  unfold place_seen.f
  simp only [place_seen.j0]
  repeat (first | exact ⟨_, rfl⟩ | split)
theorem may_some0 (c n : Int) : place_May.f 40 c n = some (mayP c n) := by
  have h : ∃ b, place_May.f 40 c n = some b := by
    unfold place_May.f
    obtain ⟨v, hv⟩ := seen_some 39 n (sideOf c)
    rw [side_some, Option.bind_some, hv, Option.bind_some, kind_some]
    simp only [Option.bind_some, place_spot_palace.f, place_spot_advisor.f, place_spot_elephant.f, place_spot_pawn.f, place_spot_over.f]
    repeat (first | exact ⟨_, rfl⟩ | split | simp only [Option.bind_some])
  obtain ⟨b, hb⟩ := h
  unfold mayP
  rw [hb]; rfl
theorem may_some (c n : Int) (k : Nat) (hk : 40 ≤ k) : place_May.f k c n = some (mayP c n) := at_rounds (place_May.mono _ _) hk (may_some0 c n)
/-- Is a byte on a square right? -/
def okAt (s : ByteArray) (i : Nat) : Bool := (bt s i == 46) || mayP (bt s i) i
/-- Is the number of a letter's pieces wrong? -/
def badC (s : ByteArray) (c : Int) : Bool := decide (cntB s c 90 > mostP c) || (kindP c == 75 && cntB s c 90 != 1)
theorem wrongB_f (s : ByteArray) : ∀ l, wrongB s l = some (l.any (badC s))
  | [] => rfl
  | c :: l => by
    have hb : badC s c = (decide (cntB s c 90 > mostP c) || (kindP c == 75 && cntB s c 90 != 1)) := rfl
    rw [wrongB, most_some, Option.bind_some, List.any_cons, hb]
    by_cases g : cntB s c 90 > mostP c
    · rw [if_pos g, decide_eq_true g]; rfl
    · rw [if_neg g, kind_some, Option.bind_some, wrongB_f s l, decide_eq_false g]
      by_cases e : kindP c = 75
      · rw [if_pos e, e]
        by_cases n1 : cntB s c 90 = 1
        · rw [if_pos n1, n1]; rfl
        · rw [if_neg n1, show (cntB s c 90 != 1) = true by simpa using n1]; rfl
      · rw [if_neg e, show (kindP c == 75) = false by simpa using e]; rfl
theorem rightB_f (s : ByteArray) (k : Nat) (hk : 40 ≤ k) : ∀ n, rightB k s n = some ((List.range n).all (okAt s))
  | 0 => rfl
  | n + 1 => by
    rw [rightB, rightB_f s k hk n, Option.bind_some, List.range_succ, List.all_append]
    cases h : (List.range n).all (okAt s) with
    | false => rw [if_neg (by decide)]; rfl
    | true =>
      rw [if_pos rfl]
      have ho : okAt s n = ((bt s n == 46) || mayP (bt s n) n) := rfl
      rw [List.all_cons, List.all_nil, ho]
      by_cases e : bt s n = 46
      · rw [if_pos e, e]; rfl
      · rw [if_neg e, may_some _ _ k hk, show (bt s n == 46) = false by simpa using e, Bool.false_or, Bool.true_and, Bool.and_true]
def rightP (s : ByteArray) : Bool := (List.range 90).all (okAt s)
def wrongP (s : ByteArray) : Bool := letters.any (badC s)
/-- What a board's pieces are worth: nothing is wrong, a place is, a number is. -/
def verdict (s : ByteArray) : Int := if wrongP s = true then 3 else if rightP s = true then 0 else 2
theorem check_f (s : ByteArray) (a1 a2 a3 : Int) (k : Nat) (hk : 40 ≤ k) (hI : board_Is.f s = some true) (h1 : a1 = 0 ∨ a1 = 1) (h2 : 0 ≤ a2 ∧ a2 ≤ 120) (h3 : 1 ≤ a3 ∧ a3 ≤ 9999) : place_Check.f k s a1 a2 a3 = some (verdict s) := by
  unfold place_Check.f
  rw [hI, Option.bind_some, if_neg (by simp; omega), rightB_f s k hk, Option.bind_some, wrongB_f, Option.bind_some]
  unfold verdict wrongP rightP
  split
  · rfl
  · rfl
theorem check_no (s : ByteArray) (a1 a2 a3 : Int) (k : Nat) (h : board_Is.f s = some false ∨ ¬ (a1 = 0 ∨ a1 = 1) ∨ ¬ (0 ≤ a2 ∧ a2 ≤ 120) ∨ ¬ (1 ≤ a3 ∧ a3 ≤ 9999)) : place_Check.f k s a1 a2 a3 = some 1 := by
  unfold place_Check.f
  obtain ⟨t, ht⟩ : ∃ t, board_Is.f s = some t := ⟨_, rfl⟩
  rw [ht, Option.bind_some, if_pos]
  rcases h with h | h
  · rw [ht] at h; exact Or.inl (Option.some.inj h)
  · right; omega
theorem cntB_len (s : ByteArray) (c : Int) : ∀ n, (((List.range n).filter (fun (i : Nat) => bt s (i : Int) == c)).length : Int) = cntB s c n
  | 0 => rfl
  | n + 1 => by
    rw [List.range_succ, List.filter_append, List.length_append, cntB, Int.natCast_add, cntB_len s c n]
    congr 1
    by_cases e : bt s (n : Int) = c
    · rw [if_pos e]; simp [e]
    · rw [if_neg e]; simp [e]
end Go.Proofs.YtkbimiimgcklaaaDoor.Pure

-- of YtkbimiimgcklaaaDoorPlaceMathTwo
/- A board from the other side, and a board with one square changed: what of a verdict stays. -/
namespace Go.Proofs.YtkbimiimgcklaaaDoor.Pure
open Go.RowKit Go.Proofs.YtkbimiimgcklaaaDoor.Print Go.Proofs.YtkbimiimgcklaaaDoor.SetMath Go.Proofs.YtkbimiimgcklaaaDoorW.PrintWords Go.Proofs.YtkbimiimgcklaaaDoorW.PrintLast Go.Proofs.YtkbimiimgcklaaaDoorW.PrintMore
def redL : List Int := [75, 65, 66, 78, 82, 67, 80]
theorem letters_red : letters = redL ++ redL.map (fun c => c + 32) := by decide
set_option maxRecDepth 100000 in
theorem swap_tab : ∀ c ∈ redL, ∀ n : Fin 256, (((swapB (UInt8.ofNat n.val)).toNat : Int) == c) = (((UInt8.ofNat n.val).toNat : Int) == c + 32) ∧ (((swapB (UInt8.ofNat n.val)).toNat : Int) == c + 32) = (((UInt8.ofNat n.val).toNat : Int) == c) := by decide +kernel
set_option maxRecDepth 100000 in
theorem red_tab : ∀ c ∈ redL, mostP (c + 32) = mostP c ∧ kindP (c + 32) = kindP c := by decide +kernel
theorem swap_is (x : UInt8) (c : Int) (hc : c ∈ redL) : (((swapB x).toNat : Int) == c) = ((x.toNat : Int) == c + 32) ∧ (((swapB x).toNat : Int) == c + 32) = ((x.toNat : Int) == c) := by
  have h := swap_tab c hc ⟨x.toNat, x.toNat_lt⟩
  have e : UInt8.ofNat (⟨x.toNat, x.toNat_lt⟩ : Fin 256).val = x := UInt8.ofNat_toNat
  rw [e] at h
  exact h
theorem soL_cnt (s : ByteArray) (c : Int) : ((soL (fun (i : Nat) => bt s (i : Int) == c)).length : Int) = cntB s c 90 := by
  unfold soL
  rw [List.length_map]
  exact cntB_len s c 90
theorem cnt_turn {l : List UInt8} (hl : l.length = 90) (c d : Int) (h : ∀ x : UInt8, (((swapB x).toNat : Int) == c) = ((x.toNat : Int) == d)) : cntB ⟨(turnL l).toArray⟩ c 90 = cntB ⟨l.toArray⟩ d 90 := by
  rw [← soL_cnt, ← soL_cnt]
  congr 1
  refine soL_back _ _ fun n hn => ?_
  have h89 : 89 - n < 90 := by omega
  rw [bt_list (turnL_len hl) hn, bt_list hl h89, turnL_at hl hn]
  exact h _
theorem any_same {f g : Int → Bool} : ∀ l : List Int, (∀ x ∈ l, f x = g x) → l.any f = l.any g
  | [], _ => rfl
  | x :: l, h => by
    rw [List.any_cons, List.any_cons, h x (List.mem_cons_self ..), any_same l (fun y hy => h y (List.mem_cons_of_mem _ hy))]
theorem wrong_turn {l : List UInt8} (hl : l.length = 90) : wrongP ⟨(turnL l).toArray⟩ = wrongP ⟨l.toArray⟩ := by
  have h1 : redL.any (badC ⟨(turnL l).toArray⟩) = redL.any (fun c => badC ⟨l.toArray⟩ (c + 32)) := any_same _ fun c hc => by
    unfold badC
    rw [cnt_turn hl c (c + 32) (fun x => (swap_is x c hc).1), (red_tab c hc).1, (red_tab c hc).2]
  have h2 : redL.any (fun c => badC ⟨(turnL l).toArray⟩ (c + 32)) = redL.any (badC ⟨l.toArray⟩) := any_same _ fun c hc => by
    unfold badC
    rw [cnt_turn hl (c + 32) c (fun x => (swap_is x c hc).2), (red_tab c hc).1, (red_tab c hc).2]
  unfold wrongP
  have e1 : ∀ f : Int → Bool, (redL.map (fun c => c + 32)).any f = redL.any (fun c => f (c + 32)) := fun f => by rw [List.any_map]; rfl
  rw [letters_red, List.any_append, List.any_append, e1, e1]
  rw [h1, h2, Bool.or_comm]
set_option maxRecDepth 100000 in
theorem may_swap_tab : ∀ n : Fin 256, okCell (UInt8.ofNat n.val) = true → ((((UInt8.ofNat n.val).toNat : Int) == 46) = (((swapB (UInt8.ofNat n.val)).toNat : Int) == 46)) ∧ ∀ m : Fin 90, mayP ((swapB (UInt8.ofNat n.val)).toNat : Int) (m.val : Int) = mayP ((UInt8.ofNat n.val).toNat : Int) (((89 - m.val : Nat)) : Int) := by decide +kernel
theorem ok_turn {l : List UInt8} (hl : l.length = 90) (ha : l.all okCell = true) {n : Nat} (hn : n < 90) : okAt ⟨(turnL l).toArray⟩ n = okAt ⟨l.toArray⟩ (89 - n) := by
  have h89 : 89 - n < 90 := by omega
  unfold okAt
  rw [bt_list (turnL_len hl) hn, bt_list hl h89, turnL_at hl hn]
  have hx := getD_ok ha (n := 89 - n) (by omega)
  obtain ⟨x, hxe⟩ : ∃ x, x = l.getD (89 - n) 0 := ⟨_, rfl⟩
  rw [← hxe] at hx ⊢
  have h := may_swap_tab ⟨x.toNat, x.toNat_lt⟩
  have e : UInt8.ofNat (⟨x.toNat, x.toNat_lt⟩ : Fin 256).val = x := UInt8.ofNat_toNat
  rw [e] at h
  obtain ⟨h1, h2⟩ := h hx
  rw [h1]
  congr 1
  exact h2 ⟨n, hn⟩
theorem all_same {f g : Nat → Bool} : ∀ l : List Nat, (∀ x ∈ l, f x = g x) → l.all f = l.all g
  | [], _ => rfl
  | x :: l, h => by
    rw [List.all_cons, List.all_cons, h x (List.mem_cons_self ..), all_same l (fun y hy => h y (List.mem_cons_of_mem _ hy))]
theorem right_turn {l : List UInt8} (hl : l.length = 90) (ha : l.all okCell = true) : rightP ⟨(turnL l).toArray⟩ = rightP ⟨l.toArray⟩ := by
  unfold rightP
  rw [all_same (List.range 90) (fun n hn => ok_turn hl ha (List.mem_range.1 hn))]
  rw [← List.all_reverse (l := List.range 90) (f := okAt ⟨l.toArray⟩), range_back, List.all_map]
  rfl
theorem verdict_turn {l : List UInt8} (hl : l.length = 90) (ha : l.all okCell = true) : verdict ⟨(turnL l).toArray⟩ = verdict ⟨l.toArray⟩ := by
  unfold verdict
  rw [wrong_turn hl, right_turn hl ha]
end Go.Proofs.YtkbimiimgcklaaaDoor.Pure

-- of YtkbimiimgcklaaaDoorPurePlaceTurn
/- The plain law PlaceTurn. -/
namespace Go.Proofs.YtkbimiimgcklaaaDoor.Pure
open Go.RowKit Go.Proofs.YtkbimiimgcklaaaDoor.Print Go.Proofs.YtkbimiimgcklaaaDoor.SetMath Go.Proofs.YtkbimiimgcklaaaDoorW.PrintWords Go.Proofs.YtkbimiimgcklaaaDoorW.PrintLast Go.Proofs.YtkbimiimgcklaaaDoorW.PrintMore
def redB : ByteArray := ⟨#[75, 65, 66, 78, 82, 67, 80]⟩
def turnMay (i m : Nat) : Bool := match riverbankref02_Of.f (bt redB (i : Int)) 1 with
  | some x => mayP (bt redB (i : Int)) (m : Int) == mayP x ((89 - m : Nat) : Int)
  | none => false
set_option maxRecDepth 100000 in
theorem turnMay_tab : ∀ i : Fin 7, ∀ m : Fin 90, turnMay i.val m.val = true := by decide +kernel
set_option maxRecDepth 100000 in
theorem pal_turn_tab : ∀ m : Fin 90, (place_Palace.f 2 (m.val : Int) 0).isSome = true ∧ place_Palace.f 2 ((89 - m.val : Nat) : Int) 1 = place_Palace.f 2 (m.val : Int) 0 ∧ (place_Over.f 2 (m.val : Int) 0).isSome = true ∧ place_Over.f 2 ((89 - m.val : Nat) : Int) 1 = place_Over.f 2 (m.val : Int) 0 ∧ place_Over.f 2 (m.val : Int) 1 = (place_Over.f 2 (m.val : Int) 0).map (fun b => !b) := by decide +kernel
theorem check_turn {s t : ByteArray} (hI : board_Is.f s = some true) (ht : board_Turn.f s = some t) (a1 a2 a3 : Int) (h1 : a1 = 0 ∨ a1 = 1) (k : Nat) (hk : 40 ≤ k) : ∃ v, place_Check.f k s a1 a2 a3 = some v ∧ place_Check.f k t (wrap64 (1 - a1)) a2 a3 = some v := by
  obtain ⟨l, rfl⟩ : ∃ l : List UInt8, s = ⟨l.toArray⟩ := ⟨s.data.toList, by simp⟩
  obtain ⟨hl, h2⟩ := is_true hI
  have hl : l.length = 90 := hl
  have ha : l.all okCell = true := by simpa using h2
  have e := turn_f hl ha
  rw [ht] at e
  obtain rfl := Option.some.inj e
  have hI' := is_of (turnL_len hl) (turnL_ok ha)
  have h1' : wrap64 (1 - a1) = 0 ∨ wrap64 (1 - a1) = 1 := by unfold wrap64; omega
  by_cases h : (0 ≤ a2 ∧ a2 ≤ 120) ∧ (1 ≤ a3 ∧ a3 ≤ 9999)
  · exact ⟨_, check_f _ a1 a2 a3 k hk hI h1 h.1 h.2, by rw [check_f _ _ a2 a3 k hk hI' h1' h.1 h.2, verdict_turn hl ha]⟩
  · exact ⟨1, check_no _ a1 a2 a3 k (by omega), check_no _ _ a2 a3 k (by omega)⟩
theorem turn_j2_no (q m : Nat) (s : ByteArray) (a1 a2 a3 : Int) (h : board_Is.f s = some false ∨ ¬ (a1 = 0 ∨ a1 = 1)) : riverbanklaw03_PlaceTurn.j2 (q + 1) (m : Int) true s a1 a2 a3 = some true := by
  rw [riverbanklaw03_PlaceTurn.j2, if_pos rfl, check_no s a1 a2 a3 q (by rcases h with h | h <;> simp [h]), Option.bind_some, if_pos rfl]; rfl
theorem turn_j2 (q m : Nat) (hm : m < 90) (hq : 200 ≤ q) (s : ByteArray) (a1 a2 a3 : Int) (hI : board_Is.f s = some true) (h1 : a1 = 0 ∨ a1 = 1) : riverbanklaw03_PlaceTurn.j2 (q + 1) (m : Int) false s a1 a2 a3 = some true := by
  obtain ⟨s1, e1, s2, e2, e3⟩ := pal_turn_tab ⟨m, hm⟩
  obtain ⟨b, hb⟩ := Option.isSome_iff_exists.1 s1
  obtain ⟨d, hd⟩ := Option.isSome_iff_exists.1 s2
  have hb : place_Palace.f 2 (m : Int) 0 = some b := hb
  have hd : place_Over.f 2 (m : Int) 0 = some d := hd
  have e1 : place_Palace.f 2 ((89 - m : Nat) : Int) 1 = place_Palace.f 2 (m : Int) 0 := e1
  have e2 : place_Over.f 2 ((89 - m : Nat) : Int) 1 = place_Over.f 2 (m : Int) 0 := e2
  have e3 : place_Over.f 2 (m : Int) 1 = (place_Over.f 2 (m : Int) 0).map (fun b => !b) := e3
  have p1 := at_rounds (place_Palace.mono _ _) (show 2 ≤ q by omega) hb
  have p2 := at_rounds (place_Palace.mono _ _) (show 2 ≤ q by omega) (e1.trans hb)
  have p3 := at_rounds (place_Over.mono _ _) (show 2 ≤ q by omega) hd
  have p4 := at_rounds (place_Over.mono _ _) (show 2 ≤ q by omega) (e2.trans hd)
  rw [hd] at e3
  have p5 := at_rounds (place_Over.mono _ _) (show 2 ≤ q by omega) (e3.trans rfl)
  have ew : wrap64 (89 - (m : Int)) = ((89 - m : Nat) : Int) := by unfold wrap64; omega
  obtain ⟨t, ht, ht2⟩ := RTurn_f s q (by omega)
  obtain ⟨v, hv, hv2⟩ := check_turn hI ht a1 a2 a3 h1 q (by omega)
  have hT : riverbankref03_Turn.f q s a1 a2 a3 = some (t, wrap64 (1 - a1), a2, a3) := by
    unfold riverbankref03_Turn.f; rw [ht2, Option.bind_some]
  rw [riverbanklaw03_PlaceTurn.j2, if_neg (by decide), p1, Option.bind_some, ew, p2, Option.bind_some, if_pos (by simp), p3, Option.bind_some, p4, Option.bind_some, if_pos (by simp), p5, Option.bind_some, Option.bind_some, if_pos (by cases d <;> decide), hv, Option.bind_some, hT, Option.bind_some]
  dsimp only
  rw [hv2, Option.bind_some, if_pos rfl]
  rfl
theorem turn_l0 (m : Nat) (hm : m < 90) (s : ByteArray) (a1 a2 a3 : Int) : ∀ (d i q : Nat), i + d = 7 → riverbanklaw03_PlaceTurn.l0 (q + 201 + d + 1) (m : Int) redB (i : Int) s a1 a2 a3 = some true
  | 0, i, q, h => by
    have e7 : (redB.size : Int) = 7 := rfl
    rw [riverbanklaw03_PlaceTurn.l0, e7, if_neg (by omega), RIs_f s _ (by omega)]
    obtain ⟨t, ht⟩ : ∃ t, board_Is.f s = some t := ⟨_, rfl⟩
    rw [ht, Option.bind_some]
    cases t with
    | false => rw [if_neg (by decide)]; exact turn_j2_no _ m s a1 a2 a3 (Or.inl ht)
    | true =>
      rw [if_pos rfl]
      by_cases c1 : a1 < 0
      · rw [if_pos c1]; exact turn_j2_no _ m s a1 a2 a3 (Or.inr (by omega))
      rw [if_neg c1]
      by_cases c2 : a1 > 1
      · rw [decide_eq_true c2]; exact turn_j2_no _ m s a1 a2 a3 (Or.inr (by omega))
      · rw [decide_eq_false c2]; exact turn_j2 _ m hm (by omega) s a1 a2 a3 ht (by omega)
  | d + 1, i, q, h => by
    have e7 : (redB.size : Int) = 7 := rfl
    have ew : wrap64 ((i : Int) + 1) = ((i + 1 : Nat) : Int) := by unfold wrap64; omega
    have ew2 : wrap64 (89 - (m : Int)) = ((89 - m : Nat) : Int) := by unfold wrap64; omega
    have hT := turnMay_tab ⟨i, by omega⟩ ⟨m, hm⟩
    have hT : turnMay i m = true := hT
    unfold turnMay at hT
    split at hT
    case h_2 => cases hT
    case h_1 x hx =>
      rw [show q + 201 + (d + 1) + 1 = (q + 201 + d + 1) + 1 by omega, riverbanklaw03_PlaceTurn.l0, e7, if_pos (by omega), if_pos (by omega), may_some _ _ _ (by omega), Option.bind_some, hx, Option.bind_some, ew2, may_some _ _ _ (by omega), Option.bind_some, if_neg (by rw [eq_of_beq hT]; simp), ew]
      exact turn_l0 m hm s a1 a2 a3 d (i + 1) q (by omega)
theorem PlaceTurn (s : ByteArray) (a1 a2 a3 n : Int) : (Lit.int .i64 a1).wf = true → (Lit.int .i64 a2).wf = true → (Lit.int .i64 a3).wf = true → (Lit.int .i64 n).wf = true → ∃ k, riverbanklaw03_PlaceTurn.f k s a1 a2 a3 n = some true := by
  intro _ _ _ _
  obtain ⟨q, _⟩ : ∃ q : Nat, q = 5 := ⟨5, rfl⟩
  refine ⟨q + 201 + 7 + 1 + 1, ?_⟩
  have hno : riverbanklaw03_PlaceTurn.j0 (q + 201 + 7 + 1 + 1) n true s a1 a2 a3 = some true := by
    rw [riverbanklaw03_PlaceTurn.j0, if_pos rfl]; rfl
  unfold riverbanklaw03_PlaceTurn.f
  by_cases hs : (s.size : Int) > 200
  · rw [if_pos hs]; exact hno
  rw [if_neg hs]
  by_cases c1 : n < 0
  · rw [if_pos c1]; exact hno
  rw [if_neg c1]
  by_cases c2 : n > 89
  · rw [decide_eq_true c2]; exact hno
  obtain ⟨m, rfl⟩ : ∃ m : Nat, n = m := ⟨n.toNat, by omega⟩
  rw [decide_eq_false c2, riverbanklaw03_PlaceTurn.j0, if_neg (by decide)]
  exact turn_l0 m (by omega) s a1 a2 a3 7 0 q rfl
end Go.Proofs.YtkbimiimgcklaaaDoor.Pure
