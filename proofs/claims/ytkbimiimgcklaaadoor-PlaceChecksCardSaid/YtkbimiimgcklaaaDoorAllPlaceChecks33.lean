/- Merged by a program of this session (wip/gprint/merge.py): what this claim needs of this session's texts, each part as it was. -/
import Derived.Test.YtkbimiimgcklaaaDoorAllPlaceChecks32
import Derived.WalkKit
namespace Go.Proofs.YtkbimiimgcklaaaDoor.Print
end Go.Proofs.YtkbimiimgcklaaaDoor.Print
namespace Go.Proofs.YtkbimiimgcklaaaDoor.Pure
end Go.Proofs.YtkbimiimgcklaaaDoor.Pure

-- of YtkbimiimgcklaaaDoorPureBoardPut
/- The plain law BoardPut. -/
namespace Go.Proofs.YtkbimiimgcklaaaDoor.Pure
open Go.RowKit Go.Proofs.YtkbimiimgcklaaaDoor.Print Go.Proofs.YtkbimiimgcklaaaDoorW.PrintWords Go.Proofs.YtkbimiimgcklaaaDoorW.PrintLast Go.Proofs.YtkbimiimgcklaaaDoorW.PrintMore
set_option maxRecDepth 100000 in
theorem put_c (c : UInt8) : board_isCell.f (c.toNat : Int) = some (okCell c) ∧ ∃ s, board_Side.f (c.toNat : Int) = some s ∧ (okCell c = false → s < 0 ∧ c.toNat ≠ 46) ∧ (okCell c = true → ¬ s < 0 ∨ c.toNat = 46) := by
  have h : ∀ n : Fin 256, board_isCell.f ((UInt8.ofNat n.val).toNat : Int) = some (okCell (UInt8.ofNat n.val)) ∧ (board_Side.f ((UInt8.ofNat n.val).toNat : Int)).isSome = true ∧ (okCell (UInt8.ofNat n.val) = false → (board_Side.f ((UInt8.ofNat n.val).toNat : Int)).getD 0 < 0 ∧ (UInt8.ofNat n.val).toNat ≠ 46) ∧ (okCell (UInt8.ofNat n.val) = true → ¬ (board_Side.f ((UInt8.ofNat n.val).toNat : Int)).getD 0 < 0 ∨ (UInt8.ofNat n.val).toNat = 46) := by decide +kernel
  have h := h ⟨c.toNat, c.toNat_lt⟩
  have e : UInt8.ofNat (⟨c.toNat, c.toNat_lt⟩ : Fin 256).val = c := UInt8.ofNat_toNat
  rw [e] at h
  obtain ⟨h1, h2, h3, h4⟩ := h
  obtain ⟨s, hs⟩ := Option.isSome_iff_exists.1 h2
  rw [hs] at h3 h4
  exact ⟨h1, s, hs, h3, h4⟩
theorem is_true {s : ByteArray} (h : board_Is.f s = some true) : s.size = 90 ∧ s.data.toList.all okCell = true := by
  unfold board_Is.f at h
  have := Option.some.inj h
  rw [Bool.and_eq_true] at this
  exact ⟨of_decide_eq_true this.1, this.2⟩
theorem is_of {l : List UInt8} (h : l.length = 90) (ha : l.all okCell = true) : board_Is.f ⟨l.toArray⟩ = some true := by
  unfold board_Is.f
  have e : (ByteArray.mk l.toArray).size = 90 := by rw [← h]; rfl
  rw [e]
  simp [ha]
theorem sq_true {n : Nat} (h : n < 90) : board_isSquare.f (n : Int) = some true := by
  unfold board_isSquare.f
  rw [if_pos (by omega), decide_eq_true (by omega)]
theorem at_in {l : List UInt8} (h : l.length = 90) (ha : l.all okCell = true) {n : Nat} (hn : n < 90) : board_At.f ⟨l.toArray⟩ (n : Int) = some ((l.getD n 0).toNat : Int) := by
  unfold board_At.f
  have e : (ByteArray.mk l.toArray).size = 90 := by rw [← h]; rfl
  rw [sq_true hn, Option.bind_some, if_pos rfl, is_of h ha, Option.bind_some, if_pos rfl, if_pos (by omega), e, if_pos (by omega)]
  have hn' : n < l.length := by omega
  congr 1
  unfold bt
  simp [hn', e, hn]
  rfl
theorem put_in {l : List UInt8} (h : l.length = 90) (ha : l.all okCell = true) {n : Nat} (hn : n < 90) (c : UInt8) (hc : okCell c = true) : board_Put.f ⟨l.toArray⟩ (n : Int) (c.toNat : Int) = some ⟨(l.set n c).toArray⟩ := by
  unfold board_Put.f
  have := c.toNat_lt
  rw [if_pos (by omega), sq_true hn, Option.bind_some, if_pos rfl, (put_c c).1, Option.bind_some, if_pos hc, is_of h ha, Option.bind_some, if_pos rfl]
  unfold putB
  simp
theorem put_no {l : List UInt8} {n : Nat} (hn : n < 90) (c : UInt8) (hc : okCell c = false) : board_Put.f ⟨l.toArray⟩ (n : Int) (c.toNat : Int) = some ⟨l.toArray⟩ := by
  unfold board_Put.f
  have := c.toNat_lt
  rw [if_pos (by omega), sq_true hn, Option.bind_some, if_pos rfl, (put_c c).1, Option.bind_some, if_neg (by rw [hc]; decide)]
theorem all_set {l : List UInt8} (ha : l.all okCell = true) (n : Nat) {c : UInt8} (hc : okCell c = true) : (l.set n c).all okCell = true := by
  rw [List.all_eq_true] at ha ⊢
  intro x hx
  rcases List.mem_or_eq_of_mem_set hx with h | rfl
  · exact ha x h
  · exact hc
theorem getD_ok {l : List UInt8} (ha : l.all okCell = true) {n : Nat} (h : n < l.length) : okCell (l.getD n 0) = true := by
  rw [List.all_eq_true] at ha
  have : l.getD n 0 = l[n] := by simp [h]
  rw [this]; exact ha _ (List.getElem_mem h)
theorem BoardPut (s : ByteArray) (a1 a2 a3 : Int) : (Lit.int .i64 a1).wf = true → (Lit.int .u8 a2).wf = true → (Lit.int .i64 a3).wf = true → ∃ k, riverbanklaw02_BoardPut.f k s a1 a2 a3 = some true := by
  intro _ w0 _
  have hc : 0 ≤ a2 ∧ a2 < 256 := by
    simp [Lit.wf, IntKind.min, IntKind.max, IntKind.signed, IntKind.bits] at w0
    omega
  obtain ⟨c, rfl⟩ : ∃ c : UInt8, a2 = (c.toNat : Int) := ⟨a2.toNat.toUInt8, by simp; omega⟩
  obtain ⟨kk, _⟩ : ∃ kk : Nat, kk = 5 := ⟨5, rfl⟩
  refine ⟨kk + 2, ?_⟩
  unfold riverbanklaw02_BoardPut.f
  have hlive : ∀ a b x d, riverbanklaw02_BoardPut.j0 (kk + 2) a b x d true = some true := fun a b x d => by
    rw [riverbanklaw02_BoardPut.j0]; rw [if_pos rfl]; rfl
  by_cases hs : (s.size : Int) ≤ 200
  case neg =>
    rw [show riverbanklaw02_small.f s = some false by unfold riverbanklaw02_small.f; rw [decide_eq_false hs], Option.bind_some, if_neg (by decide)]
    exact hlive _ _ _ _
  rw [show riverbanklaw02_small.f s = some true by unfold riverbanklaw02_small.f; rw [decide_eq_true hs], Option.bind_some, if_pos rfl]
  obtain ⟨t, ht⟩ : ∃ t, board_Is.f s = some t := ⟨_, rfl⟩
  rw [ht, Option.bind_some]
  cases t with
  | false => rw [if_neg (by decide)]; exact hlive _ _ _ _
  | true =>
    rw [if_pos rfl]
    by_cases c1 : a1 < 0
    · rw [if_pos c1]; exact hlive _ _ _ _
    by_cases c2 : a1 > 89
    · rw [if_neg c1, if_pos c2]; exact hlive _ _ _ _
    by_cases c3 : a3 < 0
    · rw [if_neg c1, if_neg c2, if_pos c3]; exact hlive _ _ _ _
    by_cases c4 : a3 > 89
    · rw [if_neg c1, if_neg c2, if_neg c3, decide_eq_true c4]; exact hlive _ _ _ _
    rw [if_neg c1, if_neg c2, if_neg c3, decide_eq_false c4]
    obtain ⟨n, rfl⟩ : ∃ n : Nat, a1 = n := ⟨a1.toNat, by omega⟩
    obtain ⟨m, rfl⟩ : ∃ m : Nat, a3 = m := ⟨a3.toNat, by omega⟩
    have hn : n < 90 := by omega
    have hm : m < 90 := by omega
    obtain ⟨h1, h2⟩ := is_true ht
    obtain ⟨l, rfl⟩ : ∃ l : List UInt8, s = ⟨l.toArray⟩ := ⟨s.data.toList, by simp⟩
    have hl : l.length = 90 := h1
    have ha : l.all okCell = true := by simpa using h2
    obtain ⟨_, sd, hsd, hno, hyes⟩ := put_c c
    rw [riverbanklaw02_BoardPut.j0]
    rw [if_neg (by decide)]
    cases hk : okCell c with
    | false =>
      obtain ⟨g1, g2⟩ := hno hk
      rw [put_no hn c hk, Option.bind_some, hsd, Option.bind_some, if_pos g1, show (((c.toNat : Int)) != 46) = true by simp; omega]
      rw [riverbanklaw02_BoardPut.j1]
      rw [if_pos rfl, if_pos rfl]; rfl
    | true =>
      have hj : (if sd < 0 then riverbanklaw02_BoardPut.j1 (kk + 1) ⟨l.toArray⟩ (n : Int) (c.toNat : Int) (m : Int) ⟨(l.set n c).toArray⟩ ((c.toNat : Int) != 46) else riverbanklaw02_BoardPut.j1 (kk + 1) ⟨l.toArray⟩ (n : Int) (c.toNat : Int) (m : Int) ⟨(l.set n c).toArray⟩ false) = riverbanklaw02_BoardPut.j1 (kk + 1) ⟨l.toArray⟩ (n : Int) (c.toNat : Int) (m : Int) ⟨(l.set n c).toArray⟩ false := by
        by_cases g : sd < 0
        · rw [if_pos g]
          rcases hyes hk with h | h
          · exact absurd g h
          · rw [h]; rfl
        · rw [if_neg g]
      rw [put_in hl ha hn c hk, Option.bind_some, hsd, Option.bind_some]
      refine hj.trans ?_
      have hl' : (l.set n c).length = 90 := by simpa using hl
      have ha' := all_set ha n hk
      have e1 : (l.set n c).getD n 0 = c := by simp [hl, hn]
      have e2 : board_Put.f ⟨(l.set n c).toArray⟩ (n : Int) ((l.getD n 0).toNat : Int) = some ⟨l.toArray⟩ := by
        rw [put_in hl' ha' hn _ (getD_ok ha (by omega)), List.set_set]
        simp [hl, hn]
      rw [riverbanklaw02_BoardPut.j1]
      rw [if_neg (by decide), at_in hl' ha' hn, Option.bind_some, e1, if_pos rfl]
      by_cases em : (m : Int) = (n : Int)
      · rw [if_pos em, at_in hl ha hn, Option.bind_some, e2, Option.bind_some, if_pos rfl, is_of hl' ha', Option.bind_some, if_pos rfl]; rfl
      · have e3 : (l.set n c).getD m 0 = l.getD m 0 := by
          have : n ≠ m := by omega
          simp [this]
        rw [if_neg em, at_in hl' ha' hm, Option.bind_some, at_in hl ha hm, Option.bind_some, e3, if_pos rfl, at_in hl ha hn, Option.bind_some, e2, Option.bind_some, if_pos rfl, is_of hl' ha', Option.bind_some, if_pos rfl]; rfl
end Go.Proofs.YtkbimiimgcklaaaDoor.Pure
