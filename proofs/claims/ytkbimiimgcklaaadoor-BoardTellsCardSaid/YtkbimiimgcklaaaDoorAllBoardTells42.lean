/- Merged by a program of this session (wip/gprint/merge.py): what this claim needs of this session's texts, each part as it was. -/
import Derived.Test.YtkbimiimgcklaaaDoorAllBoardTells40
import Derived.Test.YtkbimiimgcklaaaDoorAllBoardTells41
namespace Go.Proofs.YtkbimiimgcklaaaDoor.Print
end Go.Proofs.YtkbimiimgcklaaaDoor.Print
namespace Go.Proofs.YtkbimiimgcklaaaDoor.Pure
end Go.Proofs.YtkbimiimgcklaaaDoor.Pure
namespace Go.Proofs.YtkbimiimgcklaaaDoor.SetMath
end Go.Proofs.YtkbimiimgcklaaaDoor.SetMath

-- of YtkbimiimgcklaaaDoorRefBoardTwo
/- What the document's functions on boards compute: Put, Pieces, Turn. -/
namespace Go.Proofs.YtkbimiimgcklaaaDoor.Pure
open Go.RowKit Go.Proofs.YtkbimiimgcklaaaDoor.Print Go.Proofs.YtkbimiimgcklaaaDoor.SetMath Go.Proofs.YtkbimiimgcklaaaDoorW.PrintWords Go.Proofs.YtkbimiimgcklaaaDoorW.PrintLast Go.Proofs.YtkbimiimgcklaaaDoorW.PrintMore
theorem setB_set {l : List UInt8} {n : Nat} (h : n < l.length) (c : UInt8) : setB ⟨l.toArray⟩ n c = ⟨(l.set n c).toArray⟩ := by
  have e : (setB ⟨l.toArray⟩ n c).data.toList = l.set n c := by
    unfold setB
    rw [List.set_eq_take_append_cons_drop, if_pos h]
    simp [ByteArray.data_append, List.append_assoc]
    exact List.take_of_length_le (by simp; show l.length ≤ l.length - (n + 1) + (n + 1); omega)
  apply ByteArray.ext
  apply Array.toList_inj.mp
  rw [e]
theorem sq_out {n : Int} (h : n < 0 ∨ n > 89) : board_isSquare.f n = some false := by
  unfold board_isSquare.f
  by_cases c : n ≥ 0
  · rw [if_pos c, decide_eq_false (by omega)]
  · rw [if_neg c]
theorem RPut_f (s : ByteArray) (n : Int) (c : UInt8) (k : Nat) (hk : 130 ≤ k) : ∃ v, board_Put.f s n (c.toNat : Int) = some v ∧ riverbankref02_Put.f k s n (c.toNat : Int) = some v := by
  unfold riverbankref02_Put.f
  have hc := c.toNat_lt
  rw [if_pos (by omega), RIs_f s k hk]
  obtain ⟨t, ht⟩ : ∃ t, board_Is.f s = some t := ⟨_, rfl⟩
  rw [ht, Option.bind_some]
  cases t with
  | false =>
    rw [if_neg (by decide)]
    refine ⟨s, ?_, rfl⟩
    have hsq : ∃ q, board_isSquare.f n = some q := by unfold board_isSquare.f; split <;> exact ⟨_, rfl⟩
    obtain ⟨q, hq⟩ := hsq
    unfold board_Put.f
    rw [if_pos (by omega), hq, Option.bind_some]
    cases q with
    | false => rw [if_neg (by decide)]
    | true =>
      rw [if_pos rfl, (put_c c).1, Option.bind_some]
      cases okCell c with
      | false => rw [if_neg (by decide)]
      | true => rw [if_pos rfl, ht, Option.bind_some, if_neg (by decide)]
  | true =>
    rw [if_pos rfl]
    by_cases c1 : n < 0 ∨ n > 89
    · refine ⟨s, ?_, ?_⟩
      · unfold board_Put.f; rw [if_pos (by omega), sq_out c1, Option.bind_some, if_neg (by decide)]
      · by_cases d : n < 0
        · rw [if_pos d]
        · rw [if_neg d, if_pos (by omega)]
    · obtain ⟨m, rfl⟩ : ∃ m : Nat, n = m := ⟨n.toNat, by omega⟩
      have hm : m < 90 := by omega
      obtain ⟨h1, h2⟩ := is_true ht
      obtain ⟨l, rfl⟩ : ∃ l : List UInt8, s = ⟨l.toArray⟩ := ⟨s.data.toList, by simp⟩
      have hl : l.length = 90 := h1
      have ha : l.all okCell = true := by simpa using h2
      rw [if_neg (by omega), if_neg (by omega)]
      obtain ⟨_, sd, hsd, hno, hyes⟩ := put_c c
      have hss : riverbankref02_Side.f k (c.toNat : Int) = some sd := by
        rw [side_ref c k (by omega), ← hsd, side_some]
      have hset : setB ⟨l.toArray⟩ ((m : Int)).toNat ((c.toNat : Int)).toNat.toUInt8 = ⟨(l.set m c).toArray⟩ := by
        rw [Int.toNat_natCast, Int.toNat_natCast, show c.toNat.toUInt8 = c from UInt8.ofNat_toNat]
        exact setB_set (by omega) c
      cases hk2 : okCell c with
      | false =>
        obtain ⟨g1, g2⟩ := hno hk2
        refine ⟨⟨l.toArray⟩, put_no hm c hk2, ?_⟩
        rw [if_neg (by omega), hss, Option.bind_some, if_pos g1]
      | true =>
        refine ⟨⟨(l.set m c).toArray⟩, put_in hl ha hm c hk2, ?_⟩
        rw [hset]
        by_cases c2 : (c.toNat : Int) = 46
        · rw [if_pos c2]
        · rw [if_neg c2, hss, Option.bind_some]
          rcases hyes hk2 with g | g
          · rw [if_neg g]
          · exact absurd (by omega) c2
theorem RPieces_loop (l : List UInt8) (hl : l.length = 90) (c : Int) (p : Nat → Bool) (hp : ∀ n : Nat, p n = (sideOf (bt ⟨l.toArray⟩ (n : Int)) == c)) : ∀ (d i k : Nat) (acc : List Int), i + d = 90 → acc = ((List.range i).filter p).map (fun (n : Nat) => (n : Int)) → riverbankref02_Pieces.l0 (k + 30 + d + 1) ⟨l.toArray⟩ c acc (i : Int) = some (soL p)
  | 0, i, k, acc, h, ha => by
    rw [riverbankref02_Pieces.l0, if_neg (by omega), ha, show i = 90 by omega]; rfl
  | d + 1, i, k, acc, h, ha => by
    have e90 : (ByteArray.mk l.toArray).size = 90 := by rw [← hl]; rfl
    have ew : wrap64 ((i : Int) + 1) = ((i + 1 : Nat) : Int) := by unfold wrap64; omega
    have hlen : acc.length ≤ 90 := by
      rw [ha, List.length_map]
      have := List.length_filter_le p (List.range i)
      rw [List.length_range] at this; omega
    have hb := bt_list hl (show i < 90 by omega)
    have hs : ((List.range (i + 1)).filter p).map (fun (n : Nat) => (n : Int)) = acc ++ if p i = true then [(i : Int)] else [] := by
      rw [ha, List.range_succ, List.filter_append, List.map_append]
      congr 1
      cases hb : p i <;> simp [hb]
    have hpi := hp i
    rw [hb] at hpi
    rw [show k + 30 + (d + 1) + 1 = (k + 30 + d + 1) + 1 by omega, riverbankref02_Pieces.l0, if_pos (by omega), if_pos (by omega), e90, if_pos (by omega), ew, hb, side_ref _ _ (by omega), Option.bind_some]
    by_cases hc : sideOf ((l.getD i 0).toNat : Int) = c
    · rw [if_pos hc, if_pos (by omega)]
      exact RPieces_loop l hl c p hp d (i + 1) k _ (by omega) (by rw [hs, if_pos (by rw [hpi, hc]; simp)])
    · rw [if_neg hc]
      exact RPieces_loop l hl c p hp d (i + 1) k _ (by omega) (by rw [hs, if_neg (by rw [hpi]; simpa using hc), List.append_nil])
theorem soL_none : soL (fun _ => false) = [] := by decide
theorem RPieces_f (s : ByteArray) (c : Int) (k : Nat) (hk : 130 ≤ k) : ∃ L, board_Pieces.f s c = some L ∧ riverbankref02_Pieces.f k s c = some L ∧ L.length ≤ 90 := by
  unfold riverbankref02_Pieces.f board_Pieces.f
  rw [RIs_f s k hk]
  obtain ⟨t, ht⟩ : ∃ t, board_Is.f s = some t := ⟨_, rfl⟩
  obtain ⟨q, rfl⟩ : ∃ q, k = q + 1 := ⟨k - 1, by omega⟩
  rw [ht, Option.bind_some, Option.bind_some]
  cases t with
  | false => exact ⟨[], rfl, by rw [if_neg (by decide), riverbankref02_Pieces.j0, if_pos rfl], by simp⟩
  | true =>
    rw [if_pos rfl, if_pos rfl, riverbankref02_Pieces.j0]
    by_cases hc : c < 0
    · refine ⟨_, rfl, ?_, soL_le _⟩
      rw [decide_eq_true hc, if_pos rfl]
      refine congrArg some (Eq.trans soL_none.symm ?_)
      congr 1
      funext n
      rw [decide_eq_false (by omega)]; rfl
    · refine ⟨_, rfl, ?_, soL_le _⟩
      rw [decide_eq_false hc, if_neg (by decide)]
      obtain ⟨l, rfl⟩ : ∃ l : List UInt8, s = ⟨l.toArray⟩ := ⟨s.data.toList, by simp⟩
      have hl : l.length = 90 := (is_true ht).1
      have := RPieces_loop l hl c (fun (n : Nat) => decide (c ≥ 0) && (sideOf (bt ⟨l.toArray⟩ (n : Int)) == c)) (fun n => by rw [decide_eq_true (show c ≥ 0 by omega)]; rfl) 90 0 (q - 121) [] (by omega) rfl
      rw [show q - 121 + 30 + 90 + 1 = q by omega] at this
      exact this
def swapR (c : UInt8) : Bool := if 0 ≤ sideOf (c.toNat : Int) then decide (((riverbankref02_Kind.f 31 (c.toNat : Int)).bind fun t => riverbankref02_Of.f t (wrap64 (1 - sideOf (c.toNat : Int)))) = some ((swapB c).toNat : Int)) else swapB c == c
set_option maxRecDepth 100000 in
theorem swapR_all : ∀ n : Fin 256, swapR (UInt8.ofNat n.val) = true := by decide +kernel
theorem swapR_ok (c : UInt8) : swapR c = true := by
  have h := swapR_all ⟨c.toNat, c.toNat_lt⟩
  have e : UInt8.ofNat (⟨c.toNat, c.toNat_lt⟩ : Fin 256).val = c := UInt8.ofNat_toNat
  rw [e] at h
  exact h
theorem one_byte (d : UInt8) : strOfNums [(d.toNat : Int)] = ⟨[d].toArray⟩ := by
  unfold strOfNums
  rw [List.map_cons, List.map_nil, Int.toNat_natCast, UInt8.ofNat_toNat]
theorem push_list (a b : List UInt8) : (⟨a.toArray⟩ : ByteArray) ++ ⟨b.toArray⟩ = ⟨(a ++ b).toArray⟩ := by
  apply ByteArray.ext; simp [ByteArray.data_append]
theorem RTurn_loop (l : List UInt8) (hl : l.length = 90) : ∀ (j k : Nat), j ≤ 90 → riverbankref02_Turn.l0 (k + 31 + j + 1) ⟨l.toArray⟩ ⟨((l.drop j).reverse.map swapB).toArray⟩ ((j : Int) - 1) = some ⟨(turnL l).toArray⟩
  | 0, k, _ => by
    rw [riverbankref02_Turn.l0, if_neg (by omega), List.drop_zero]; rfl
  | j + 1, k, h => by
    have e90 : (ByteArray.mk l.toArray).size = 90 := by rw [← hl]; rfl
    have hj : j < l.length := by omega
    have ew : wrap64 ((j : Int) - 1) = (j : Int) - 1 := by unfold wrap64; omega
    have ec : (((j + 1 : Nat) : Int) - 1) = (j : Int) := by omega
    have hd : l.drop j = l.getD j 0 :: l.drop (j + 1) := by rw [List.drop_eq_getElem_cons hj]; simp [hj]
    have ih := RTurn_loop l hl j k (by omega)
    rw [hd, List.reverse_cons, List.map_append, List.map_cons, List.map_nil, ← push_list] at ih
    obtain ⟨acc, hacc⟩ : ∃ acc : ByteArray, acc = ⟨((l.drop (j + 1)).reverse.map swapB).toArray⟩ := ⟨_, rfl⟩
    have hsz : acc.size ≤ 90 := by rw [hacc]; show (((l.drop (j + 1)).reverse.map swapB).toArray).size ≤ 90; simp; omega
    rw [← hacc] at ih ⊢
    obtain ⟨c, hc⟩ : ∃ c, c = l.getD j 0 := ⟨_, rfl⟩
    have hb := bt_list hl (show j < 90 by omega)
    rw [← hc] at ih hb
    have h1 : ∀ d : UInt8, (ByteArray.mk [d].toArray).size = 1 := fun _ => rfl
    have hR := swapR_ok c
    unfold swapR at hR
    rw [ec, show k + 31 + (j + 1) + 1 = (k + 31 + j + 1) + 1 by omega, riverbankref02_Turn.l0, if_pos (by omega), if_pos (by omega), e90, if_pos (by omega), ew, hb, side_ref _ _ (by omega), Option.bind_some]
    by_cases g : 0 ≤ sideOf (c.toNat : Int)
    · rw [if_pos g] at hR
      obtain ⟨t, ht, hR⟩ := Option.bind_eq_some_iff.mp (of_decide_eq_true hR)
      have ht' : riverbankref02_Kind.f (k + 31 + j + 1) (c.toNat : Int) = some t := at_rounds (riverbankref02_Kind.mono _) (by omega) ht
      rw [if_pos (by omega), ht', Option.bind_some, Option.bind_some, hR, Option.bind_some, Option.bind_some, one_byte, h1, if_pos (by omega)]
      exact ih
    · rw [if_neg g] at hR
      rw [eq_of_beq hR] at ih
      rw [if_neg (by omega), Option.bind_some, one_byte, h1, if_pos (by omega)]
      exact ih
theorem RTurn_f (s : ByteArray) (k : Nat) (hk : 130 ≤ k) : ∃ v, board_Turn.f s = some v ∧ riverbankref02_Turn.f k s = some v := by
  unfold riverbankref02_Turn.f
  rw [RIs_f s k hk]
  obtain ⟨t, ht⟩ : ∃ t, board_Is.f s = some t := ⟨_, rfl⟩
  rw [ht, Option.bind_some]
  cases t with
  | false => exact ⟨⟨#[]⟩, by unfold board_Turn.f; rw [ht, Option.bind_some, if_neg (by decide)], by rw [if_neg (by decide)]⟩
  | true =>
    obtain ⟨h1, h2⟩ := is_true ht
    obtain ⟨l, rfl⟩ : ∃ l : List UInt8, s = ⟨l.toArray⟩ := ⟨s.data.toList, by simp⟩
    have hl : l.length = 90 := h1
    have ha : l.all okCell = true := by simpa using h2
    refine ⟨_, turn_f hl ha, ?_⟩
    rw [if_pos rfl]
    have := RTurn_loop l hl 90 (k - 122) (Nat.le_refl _)
    rw [show k - 122 + 31 + 90 + 1 = k by omega, List.drop_of_length_le (by omega)] at this
    exact this
end Go.Proofs.YtkbimiimgcklaaaDoor.Pure
