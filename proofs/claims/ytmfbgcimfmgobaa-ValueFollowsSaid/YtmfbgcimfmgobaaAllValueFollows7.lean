/- Merged by a program of this session (wip/gprint/merge.py): what this claim needs of this session's texts, each part as it was. -/
import Derived.Test.YtmfbgcimfmgobaaAllValueFollows6

-- of YtmfbgcimfmgobaaPrint35
-- Written by a program of this session (wip/gprint/gprint.py) over the kit's print; the parts marked GIVEN by hand.
namespace Go.Proofs.Ytmfbgcimfmgobaa.Print
open Go.RowKit Go.Proofs.YtmfbgcimfmgobaaW.PrintWords Go.Proofs.YtmfbgcimfmgobaaW.PrintLast Go.Proofs.YtmfbgcimfmgobaaW.PrintMore
attribute [local go_sem] max2_int min2_int max_two min_two max_three min_three max_four min_four   -- for this text's walks alone
set_option linter.unusedVariables false
set_option linter.unusedSimpArgs false
/-! GIVEN value_Of -/
-- GIVEN riverbank/value.Of
-- MAKES yes
-- IMPORT Derived.Deep.RegionWith
-- IMPORT Derived.Test.YtmfbgcimfmgobaaBytes
/-- What the first n squares are worth to a side. -/
def pieceN (s : ByteArray) (n : Nat) : Int := (value_Piece.f 200 (bt s n) n).getD 0
def sideSum (s : ByteArray) (side : Int) : Nat → Int
  | 0 => 0
  | n + 1 => if board_Side.f (bt s n) = some side then wrap64 (sideSum s side n + pieceN s n) else sideSum s side n
def value_Of.f (a0_0 : ByteArray) (a0_1 : Int) (a0_2 : Int) (a0_3 : Int) : Option (Int) := (board_Is.f a0_0).bind fun t => if t = true then (if a0_1 = 0 then some (wrap64 (sideSum a0_0 0 90 - sideSum a0_0 1 90)) else some (wrap64 (-wrap64 (sideSum a0_0 0 90 - sideSum a0_0 1 90)))) else some 0

theorem side_cases (c : Int) : board_Side.f c = some (-1) ∨ board_Side.f c = some 0 ∨ board_Side.f c = some 1 := by
  unfold board_Side.f strings_IndexByte.f
  simp only [Option.bind_some]
  split
  · exact .inr (.inl rfl)
  · split
    · exact .inr (.inr rfl)
    · exact .inl rfl
theorem bkind_some (c : Int) : ∃ v, board_Kind.f c = some v := by
  unfold board_Kind.f
  rcases side_cases c with h | h | h <;> rw [h] <;> simp only [Option.bind_some] <;> repeat (first | exact ⟨_, rfl⟩ | split)
theorem vkind_some (c : Int) : ∃ v, value_Kind.f c = some v := by
  unfold value_Kind.f strings_IndexByte.f
  obtain ⟨t, ht⟩ := bkind_some c
  rw [ht]; simp only [Option.bind_some]
  split <;> exact ⟨_, rfl⟩
theorem pover_some (k : Nat) (a b : Int) : ∃ v, place_Over.f (k + 1) a b = some v := by
  unfold place_Over.f place_seen.f place_spot_over.f
  simp only [place_seen.j0]
  repeat (first | exact ⟨_, rfl⟩ | split)
theorem bfile_some (a : Int) : ∃ v, board_File.f a = some v := by
  unfold board_File.f board_isSquare.f
  split <;> simp only [Option.bind_some] <;> split <;> exact ⟨_, rfl⟩
theorem brank_some (a : Int) : ∃ v, board_Rank.f a = some v := by
  unfold board_Rank.f board_isSquare.f
  split <;> simp only [Option.bind_some] <;> split <;> exact ⟨_, rfl⟩
theorem piece1_some (k : Nat) (a b c d e : Int) : ∃ v, value_Piece.j1 (k + 2) a b c d e = some v := by
  simp only [value_Piece.j1]
  obtain ⟨t, ht⟩ := vkind_some a
  obtain ⟨u, hu⟩ := bkind_some a
  obtain ⟨o, ho⟩ := pover_some k b c
  rw [ht]; simp only [Option.bind_some]
  rw [hu]; simp only [Option.bind_some]
  rw [ho]; simp only [Option.bind_some]
  repeat (first | exact ⟨_, rfl⟩ | split)
theorem piece_some (c : Int) (n : Nat) : ∃ v, value_Piece.f 200 c n = some v := by
  unfold value_Piece.f
  obtain ⟨s, hs⟩ : ∃ s, board_Side.f c = some s := by rcases side_cases c with h | h | h <;> exact ⟨_, h⟩
  obtain ⟨f, hf⟩ := bfile_some n
  obtain ⟨r, hr⟩ := brank_some n
  rw [hs]; simp only [Option.bind_some]
  rw [hf]; simp only [Option.bind_some]
  rw [hr]; simp only [Option.bind_some]
  simp only [value_Piece.j0]
  repeat (first | exact ⟨_, rfl⟩ | exact piece1_some _ _ _ _ _ _ | split)
theorem pieceN_is (s : ByteArray) (n : Nat) : value_Piece.f 200 (bt s n) n = some (pieceN s n) := by
  obtain ⟨v, hv⟩ := piece_some (bt s n) n
  unfold pieceN; rw [hv]; rfl

theorem two_cell {W : World} {B : Nat} {v u : Value} {t : TypeId} (h : W.heap[B]? = some (.cells #[v, u] t (0, 0))) : W.cell? ⟨B, 0, none⟩ = some v ∧ W.frozen? ⟨B, 0, none⟩ = false := by
  constructor <;> simp [World.cell?, World.frozen?, h]
theorem two_cell1 {W : World} {B : Nat} {v u : Value} {t : TypeId} (h : W.heap[B]? = some (.cells #[v, u] t (0, 0))) : W.cell? ⟨B, 1, none⟩ = some u ∧ W.frozen? ⟨B, 1, none⟩ = false := by
  constructor <;> simp [World.cell?, World.frozen?, h]
theorem cell_later_alloc2 {W : World} {a : Addr} {v : Value} (o : Obj) (h : W.cell? a = some v) : (W.alloc o).cell? a = some v :=
  (Below.cell (B := W.heap.size) ((Below.refl _ W).alloc (Nat.le_refl _) o) (p := a) (World.block_lt_of_cell? W _ h)).trans h

theorem cell_set_other (W : World) (B i C j : Nat) (u : Value) {v : Value} (hne : B ≠ C ∨ i ≠ j) (h : W.cell? ⟨C, j, none⟩ = some v) : (W.setCell ⟨B, i, none⟩ u).cell? ⟨C, j, none⟩ = some v :=
  (World.cell?_setCell_other W ⟨B, i, none⟩ ⟨C, j, none⟩ u (by intro e; injection e; omega)).trans h

set_option maxRecDepth 100000 in
set_option maxHeartbeats 4000000 in
theorem value_Of.board (a0_0 : ByteArray) (a0_1 : Int) (a0_2 : Int) (a0_3 : Int) (r : Int) (w : World) (hI : board_Is.f a0_0 = some true)
    (hr : r = if a0_1 = 0 then wrap64 (sideSum a0_0 0 90 - sideSum a0_0 1 90) else wrap64 (-wrap64 (sideSum a0_0 0 90 - sideSum a0_0 1 90))) :
    Calls Try.prog 37 #[.agg #[.string a0_0, .int .i64 a0_1, .int .i64 a0_2, .int .i64 a0_3]] w fun e w' => e = .returned (.int .i64 r) ∧ Below w.heap.size w w' := by
  have hsz : a0_0.size = 90 := by
    unfold board_Is.f at hI; have := Option.some.inj hI; simp at this; exact this.1
  have HR := Aside0.mk hr
  have HI := Aside0.mk hI
  clear hI hr
  have hs1 : a0_0.size ≤ 90 := by omega
  have hs2 : 90 ≤ a0_0.size := by omega
  clear hsz
  go_enter Try.func37, Try.ntmps37
  go_wp2_with fail
  refine (board_Is.calls _ true _ HI.out).mono ?_
  rintro e w1 ⟨rfl, hb1⟩
  have c0 : w1.cell? ⟨w.heap.size, 0, none⟩ = some (.string a0_0) := (hb1.cell (p := ⟨w.heap.size, 0, none⟩) (by simp)).trans (by simp)
  have c1 : w1.cell? ⟨w.heap.size, 1, none⟩ = some (.int .i64 a0_1) := (hb1.cell (p := ⟨w.heap.size, 1, none⟩) (by simp)).trans (by simp)
  have hB1 : Below w.heap.size w w1 := ((Below.refl _ w).alloc (Nat.le_refl _) _).trans (hb1.mono (by simp))
  have hz1 : w.heap.size + 1 ≤ w1.heap.size := by have := hb1.size; simp at this; omega
  clear hb1
  go_wp2
  have n0 := World.alloc_heap_new w1 (.cells #[.int .i64 0, .int .i64 0] 78)
  have e0 : (w1.alloc (.cells #[.int .i64 0, .int .i64 0] 78)).cell? ⟨w1.heap.size, 0, none⟩ = some (.int .i64 0) ∧ (w1.alloc (.cells #[.int .i64 0, .int .i64 0] 78)).frozen? ⟨w1.heap.size, 0, none⟩ = false := two_cell n0
  have e1 : (w1.alloc (.cells #[.int .i64 0, .int .i64 0] 78)).cell? ⟨w1.heap.size, 1, none⟩ = some (.int .i64 0) ∧ (w1.alloc (.cells #[.int .i64 0, .int .i64 0] 78)).frozen? ⟨w1.heap.size, 1, none⟩ = false := two_cell1 n0
  go_loopw [11] (fun i wr => ∃ k : Nat, i = .int .i64 k ∧ k ≤ 90 ∧ wr.cell? ⟨w.heap.size, 0, none⟩ = some (.string a0_0) ∧ wr.cell? ⟨w.heap.size, 1, none⟩ = some (.int .i64 a0_1) ∧
      (wr.cell? ⟨w1.heap.size, 0, none⟩ = some (.int .i64 (sideSum a0_0 0 k)) ∧ wr.frozen? ⟨w1.heap.size, 0, none⟩ = false) ∧ (wr.cell? ⟨w1.heap.size, 1, none⟩ = some (.int .i64 (sideSum a0_0 1 k)) ∧ wr.frozen? ⟨w1.heap.size, 1, none⟩ = false) ∧ Below w.heap.size w wr) (fun i _ => 90 - (intOf i).toNat)
  case atStart =>
    exact ⟨0, rfl, by omega, cell_later_alloc2 _ c0, cell_later_alloc2 _ c1, e0, e1, hB1.alloc hB1.size _⟩
  case round =>
    clear c0 c1 e0 e1 n0 hB1
    obtain ⟨k, rfl, hk, f0, f1, ⟨g0, z0⟩, ⟨g1, z1⟩, hB⟩ := hrel
    by_cases hlt : k < 90
    · have hk' : k < a0_0.size := by omega
      have ex : ((a0_0[k]'hk').toNat : Int) = bt a0_0 k := by simp [bt, hk']
      have hp := pieceN_is a0_0 k
      rw [← ex] at hp
      have hA : sideSum a0_0 0 (k + 1) = if board_Side.f (bt a0_0 k) = some 0 then wrap64 (sideSum a0_0 0 k + pieceN a0_0 k) else sideSum a0_0 0 k := rfl
      have hC : sideSum a0_0 1 (k + 1) = if board_Side.f (bt a0_0 k) = some 1 then wrap64 (sideSum a0_0 1 k + pieceN a0_0 k) else sideSum a0_0 1 k := rfl
      rw [← ex] at hA hC
      obtain ⟨x0, hx0⟩ : ∃ x, x = sideSum a0_0 0 k := ⟨_, rfl⟩
      obtain ⟨x1, hx1⟩ : ∃ x, x = sideSum a0_0 1 k := ⟨_, rfl⟩
      obtain ⟨p, hpe⟩ : ∃ x, x = pieceN a0_0 k := ⟨_, rfl⟩
      rw [← hx0, ← hpe] at hA
      rw [← hx1, ← hpe] at hC
      rw [← hx0] at g0
      rw [← hx1] at g1
      rw [← hpe] at hp
      have HP := Aside0.mk hp
      clear hx0 hx1 hpe hp ex
      rcases side_cases ((a0_0[k]'hk').toNat : Int) with hs | hs | hs
      · rw [hs, if_neg (by decide)] at hA
        rw [hs, if_neg (by decide)] at hC
        have HS := Aside0.mk hs
        have HA := Aside0.mk hA
        have HC := Aside0.mk hC
        clear hs hA hC
        go_wp2_with (go_at_call 43; (with_reducible refine (board_Side.calls _ (-1) _ HS.out).mono ?_); rintro e w' ⟨rfl, ⟨q, rfl⟩⟩)
        go_roundw
        case rel => exact ⟨k + 1, by go_num, by omega, f0, f1, ⟨by rw [HA.out]; exact g0, z0⟩, ⟨by rw [HC.out]; exact g1, z1⟩, ⟨hB.os, hB.tape, hB.output, hB.size, hB.block⟩⟩
        case measure => simp [intOf]; omega
      · rw [hs, if_pos rfl] at hA
        rw [hs, if_neg (by decide)] at hC
        have HS := Aside0.mk hs
        have HA := Aside0.mk hA
        have HC := Aside0.mk hC
        clear hs hA hC
        go_wp2_with (go_at_call 43; (with_reducible refine (board_Side.calls _ 0 _ HS.out).mono ?_); rintro e w' ⟨rfl, ⟨q, rfl⟩⟩)
        have l0 := World.block_lt_of_cell? wr _ f0
        have l1 := World.block_lt_of_cell? wr _ g0
        go_region_with ((go_at_call 34; (with_reducible refine (value_Piece.calls _ _ _ p _ HP.out).mono ?_); rintro e w3 ⟨rfl, hb3⟩; have f0' : w3.cell? ⟨w.heap.size, 0, none⟩ = some (.string a0_0) := (hb3.cell (p := ⟨w.heap.size, 0, none⟩) (by simpa using l0)).trans f0; have f1' : w3.cell? ⟨w.heap.size, 1, none⟩ = some (.int .i64 a0_1) := (hb3.cell (p := ⟨w.heap.size, 1, none⟩) (by simpa using l0)).trans f1; have g0' : w3.cell? ⟨w1.heap.size, 0, none⟩ = some (.int .i64 x0) := (hb3.cell (p := ⟨w1.heap.size, 0, none⟩) (by simpa using l1)).trans g0; have z0' : w3.frozen? ⟨w1.heap.size, 0, none⟩ = false := (hb3.frozen (p := ⟨w1.heap.size, 0, none⟩) (by simpa using l1)).trans z0; have g1' : w3.cell? ⟨w1.heap.size, 1, none⟩ = some (.int .i64 x1) := (hb3.cell (p := ⟨w1.heap.size, 1, none⟩) (by simpa using l1)).trans g1; have z1' : w3.frozen? ⟨w1.heap.size, 1, none⟩ = false := (hb3.frozen (p := ⟨w1.heap.size, 1, none⟩) (by simpa using l1)).trans z1; have hB3 : Below w.heap.size w w3 := below_past hB rfl hb3))
        all_goals
          have u0 := cell_set_other w3 w1.heap.size 0 w.heap.size 0 (.int .i64 (wrap64 (x0 + p))) (by omega) f0'
          have u1 := cell_set_other w3 w1.heap.size 0 w.heap.size 1 (.int .i64 (wrap64 (x0 + p))) (by omega) f1'
          have u2 := World.cell?_setCell_same' w3 ⟨w1.heap.size, 0, none⟩ (.int .i64 (wrap64 (x0 + p))) (by rw [g0']; rfl)
          have u3 := cell_set_other w3 w1.heap.size 0 w1.heap.size 1 (.int .i64 (wrap64 (x0 + p))) (by omega) g1'
          go_wp2
          go_roundw
          case rel => exact ⟨k + 1, by go_num, by omega, u0, u1, ⟨by rw [HA.out]; exact u2, by rw [World.frozen?_setCell]; exact z0'⟩, ⟨by rw [HC.out]; exact u3, by rw [World.frozen?_setCell]; exact z1'⟩, hB3.setCell (p := ⟨w1.heap.size, 0, none⟩) (by simp; omega) _⟩
          case measure => simp [intOf]; omega
      · rw [hs, if_neg (by decide)] at hA
        rw [hs, if_pos rfl] at hC
        have HS := Aside0.mk hs
        have HA := Aside0.mk hA
        have HC := Aside0.mk hC
        clear hs hA hC
        go_wp2_with (go_at_call 43; (with_reducible refine (board_Side.calls _ 1 _ HS.out).mono ?_); rintro e w' ⟨rfl, ⟨q, rfl⟩⟩)
        have l0 := World.block_lt_of_cell? wr _ f0
        have l1 := World.block_lt_of_cell? wr _ g0
        go_region_with ((go_at_call 34; (with_reducible refine (value_Piece.calls _ _ _ p _ HP.out).mono ?_); rintro e w3 ⟨rfl, hb3⟩; have f0' : w3.cell? ⟨w.heap.size, 0, none⟩ = some (.string a0_0) := (hb3.cell (p := ⟨w.heap.size, 0, none⟩) (by simpa using l0)).trans f0; have f1' : w3.cell? ⟨w.heap.size, 1, none⟩ = some (.int .i64 a0_1) := (hb3.cell (p := ⟨w.heap.size, 1, none⟩) (by simpa using l0)).trans f1; have g0' : w3.cell? ⟨w1.heap.size, 0, none⟩ = some (.int .i64 x0) := (hb3.cell (p := ⟨w1.heap.size, 0, none⟩) (by simpa using l1)).trans g0; have z0' : w3.frozen? ⟨w1.heap.size, 0, none⟩ = false := (hb3.frozen (p := ⟨w1.heap.size, 0, none⟩) (by simpa using l1)).trans z0; have g1' : w3.cell? ⟨w1.heap.size, 1, none⟩ = some (.int .i64 x1) := (hb3.cell (p := ⟨w1.heap.size, 1, none⟩) (by simpa using l1)).trans g1; have z1' : w3.frozen? ⟨w1.heap.size, 1, none⟩ = false := (hb3.frozen (p := ⟨w1.heap.size, 1, none⟩) (by simpa using l1)).trans z1; have hB3 : Below w.heap.size w w3 := below_past hB rfl hb3))
        all_goals
          have u0 := cell_set_other w3 w1.heap.size 1 w.heap.size 0 (.int .i64 (wrap64 (x1 + p))) (by omega) f0'
          have u1 := cell_set_other w3 w1.heap.size 1 w.heap.size 1 (.int .i64 (wrap64 (x1 + p))) (by omega) f1'
          have u2 := World.cell?_setCell_same' w3 ⟨w1.heap.size, 1, none⟩ (.int .i64 (wrap64 (x1 + p))) (by rw [g1']; rfl)
          have u3 := cell_set_other w3 w1.heap.size 1 w1.heap.size 0 (.int .i64 (wrap64 (x1 + p))) (by omega) g0'
          go_wp2
          go_roundw
          case rel => exact ⟨k + 1, by go_num, by omega, u0, u1, ⟨by rw [HA.out]; exact u3, by rw [World.frozen?_setCell]; exact z0'⟩, ⟨by rw [HC.out]; exact u2, by rw [World.frozen?_setCell]; exact z1'⟩, hB3.setCell (p := ⟨w1.heap.size, 1, none⟩) (by simp; omega) _⟩
          case measure => simp [intOf]; omega
    · obtain rfl : k = 90 := by omega
      have hr := HR.out
      obtain ⟨x0, hx0⟩ : ∃ x, x = sideSum a0_0 0 90 := ⟨_, rfl⟩
      obtain ⟨x1, hx1⟩ : ∃ x, x = sideSum a0_0 1 90 := ⟨_, rfl⟩
      rw [← hx0, ← hx1] at hr
      rw [← hx0] at g0
      rw [← hx1] at g1
      clear HR hx0 hx1
      by_cases hz : a0_1 = 0
      · rw [if_pos hz] at hr
        have hz0 : (a0_1 == 0) = true := by simp [hz]
        have hz0' : (a0_1 != 0) = false := by simp [hz]
        have HR := Aside0.mk hr
        clear hr hz
        go_wp2
        go_ret
        exact ⟨by rw [HR.out]; rfl, hB⟩
      · rw [if_neg hz] at hr
        have hz0 : (a0_1 == 0) = false := by simp [hz]
        have hz0' : (a0_1 != 0) = true := by simp [hz]
        have HR := Aside0.mk hr
        clear hr hz
        go_wp2
        go_ret
        exact ⟨by rw [HR.out]; rfl, hB⟩

set_option maxHeartbeats 1000000 in
theorem value_Of.other (a0_0 : ByteArray) (a0_1 : Int) (a0_2 : Int) (a0_3 : Int) (w : World) (hI : board_Is.f a0_0 = some false) :
    Calls Try.prog 37 #[.agg #[.string a0_0, .int .i64 a0_1, .int .i64 a0_2, .int .i64 a0_3]] w fun e w' => e = .returned (.int .i64 0) ∧ Below w.heap.size w w' := by
  have HI := Aside0.mk hI
  clear hI
  go_enter Try.func37, Try.ntmps37
  go_wp2_with (go_at_call 41; refine (board_Is.calls _ false _ HI.out).mono ?_; rintro e w1 ⟨rfl, hb1⟩)
  go_ret
  exact ⟨rfl, ((Below.refl _ w).alloc (Nat.le_refl _) _).trans (hb1.mono (by simp))⟩

theorem value_Of.calls (a0_0 : ByteArray) (a0_1 : Int) (a0_2 : Int) (a0_3 : Int) (r : Int) (w : World) (h : value_Of.f a0_0 a0_1 a0_2 a0_3 = some r) :
    Calls Try.prog 37 #[.agg #[.string a0_0, .int .i64 a0_1, .int .i64 a0_2, .int .i64 a0_3]] w fun e w' => e = .returned (.int .i64 r) ∧ Below w.heap.size w w' := by
  unfold value_Of.f at h
  obtain ⟨b, hb, h⟩ := Option.bind_eq_some_iff.mp h
  cases b with
  | true =>
    rw [if_pos rfl] at h
    refine value_Of.board _ _ _ _ r w hb ?_
    split at h
    · rename_i hz; rw [if_pos hz]; exact (Option.some.inj h).symm
    · rename_i hz; rw [if_neg hz]; exact (Option.some.inj h).symm
  | false => rw [if_neg (by decide)] at h; obtain rfl := Option.some.inj h; exact value_Of.other _ _ _ _ w hb

end Go.Proofs.Ytmfbgcimfmgobaa.Print

-- of YtmfbgcimfmgobaaPrint36
-- Written by a program of this session (wip/gprint/gprint.py) over the kit's print; the parts marked GIVEN by hand.
namespace Go.Proofs.Ytmfbgcimfmgobaa.Print
open Go.RowKit Go.Proofs.YtmfbgcimfmgobaaW.PrintWords Go.Proofs.YtmfbgcimfmgobaaW.PrintLast Go.Proofs.YtmfbgcimfmgobaaW.PrintMore
attribute [local go_sem] max2_int min2_int max_two min_two max_three min_three max_four min_four   -- for this text's walks alone
set_option linter.unusedVariables false
set_option linter.unusedSimpArgs false
/-! ### value_Moved: function 39 -/
def value_Moved.f (k : Nat) (a0 : Int) (a1 : Int) (a2_0 : Int) (a2_1 : Int) (a3 : Int) : Option (Int) := (value_Piece.f k a1 a2_0).bind fun t342 => ((value_Piece.f k a1 a2_1).bind fun t343 => ((value_Piece.f k a3 a2_1).bind fun t344 => (some (wrap64 ((wrap64 ((wrap64 (t342 - t343)) - t344)) - a0)))))
theorem value_Moved.mono : ∀ a0 a1 a2 a3 a4 k, LeO (value_Moved.f k a0 a1 a2 a3 a4) (value_Moved.f (k + 1) a0 a1 a2 a3 a4) := by
  intro a0 a1 a2 a3 a4 k
  unfold value_Moved.f
  repeat' first
      | (with_reducible exact value_Piece.mono _ _ _)
      | (with_reducible exact LeO.refl _)
      | (with_reducible exact LeO.none _)
      | (with_reducible refine LeO.ite ?_ ?_)
      | (with_reducible refine LeO.bind ?_ (fun _ => ?_))
      | exact value_Piece.mono _ _ _
      | exact LeO.none _
      | refine LeO.ite ?_ ?_
      | refine LeO.bind ?_ (fun _ => ?_)
def value_Moved.T1 : Bool × List (List Nat × List Nat) := (true, [([], []), ([], []), ([1], [1]), ([0, 2], [0, 2]), ([], []), ([], []), ([5], [5]), ([4, 6, 3], [4, 6]), ([3, 7], [3, 7]), ([], []), ([], []), ([10], [10]), ([9, 11, 7], [9, 11]), ([8, 12], [8, 12]), ([], []), ([13, 14], [13, 14]), ([15, 12, 0, 1, 2, 3, 4, 5, 6, 7, 8, 9, 10, 11, 12, 13, 14, 15], [15])])
def value_Moved.B1 : List Nat := [0, 0, 2, 7, 0, 0, 32, 127, 255, 0, 0, 1024, 3839, 8191, 0, 32767, 65535]
theorem value_Moved.tab1 : rtab .any (opsOf Try.f39 1) = value_Moved.T1 := by kernel_rfl
theorem value_Moved.bits1 : waitsOk value_Moved.T1.2 value_Moved.B1 = true := by kernel_rfl
set_option maxHeartbeats 8000000 in
set_option maxRecDepth 100000 in
theorem value_Moved.calls (k : Nat) (a0 : Int) (a1 : Int) (a2_0 : Int) (a2_1 : Int) (a3 : Int) (r : Int) (w : World) (h : value_Moved.f k a0 a1 a2_0 a2_1 a3 = some r) :
    Calls Try.prog 39 #[.int .i64 a0, .int .u8 a1, .agg #[.int .i64 a2_0, .int .i64 a2_1], .int .u8 a3] w fun e w' => e = .returned (.int .i64 r) ∧ Below w.heap.size w w' := by
  have hu41 := Try.underlying41
  have HB := Aside0.mk (Below.refl w.heap.size w)
  have H : ((value_Piece.f k a1 a2_0).bind fun t342 => ((value_Piece.f k a1 a2_1).bind fun t343 => ((value_Piece.f k a3 a2_1).bind fun t344 => (some (wrap64 ((wrap64 ((wrap64 (t342 - t343)) - t344)) - a0)))))) = some r := h
  clear h
  replace H := Option.bind_eq_some_iff.mp H
  obtain ⟨t342, A50, H⟩ := H
  replace H : ((value_Piece.f k a1 a2_1).bind fun t343 => ((value_Piece.f k a3 a2_1).bind fun t344 => (some (wrap64 ((wrap64 ((wrap64 (t342 - t343)) - t344)) - a0))))) = some r := H
  have A5 := Aside0.mk A50
  clear A50
  replace H := Option.bind_eq_some_iff.mp H
  obtain ⟨t343, A60, H⟩ := H
  replace H : ((value_Piece.f k a3 a2_1).bind fun t344 => (some (wrap64 ((wrap64 ((wrap64 (t342 - t343)) - t344)) - a0)))) = some r := H
  have A6 := Aside0.mk A60
  clear A60
  replace H := Option.bind_eq_some_iff.mp H
  obtain ⟨t344, A70, H⟩ := H
  replace H : (some (wrap64 ((wrap64 ((wrap64 (t342 - t343)) - t344)) - a0))) = some r := H
  have A7 := Aside0.mk A70
  clear A70
  obtain rfl := Option.some.inj H
  go_enter Try.func39, Try.ntmps39
  try go_wp2_with (first | ((with_reducible refine gate_dst (N := 6) rfl ?_); refine box_event ?hg (N := 6) ?hd (cs := #[.int .i64 a2_0, .int .i64 a2_1]) (t := 41) ?hr ?_; (case hd => rfl); (case hg => rfl); (case hr => first | (go_simp; done) | (go_simp; rfl)); intro gb341 hg w8 hbox hb; have n0_ := Aside0.mk (below_step (by repeat (first | (with_reducible first | exact HB.out | apply below_alloc | apply pw_below_drewN | apply below_drew1) | exact HB.out)) hb); have n1_ := Aside0.mk (hbox); have n2_ := Aside0.mk ((by rw [hg]; exact (below_size (by repeat (first | (with_reducible first | exact HB.out | apply below_alloc | apply pw_below_drewN | apply below_drew1) | exact HB.out))) : w.heap.size ≤ gb341)); have n3_ := Aside0.mk ((by rw [hg]; exact (below_size (by repeat (first | (with_reducible first | exact HB.out | apply below_alloc | apply pw_below_drewN | apply below_drew1) | exact HB.out))) : w.heap.size ≤ gb341)); clear HB; have HB := n0_; have BK341 := n1_; have GW341 := n2_; have GE341 := n3_; clear n0_ n1_ n2_ n3_; clear hb hbox hg))
  have n0_ := Aside0.mk (blk_drew BK341.out)
  have n1_ := Aside0.mk (below_drew1 HB.out)
  clear BK341
  clear HB
  have BK341 := n0_
  have HB := n1_
  clear n0_ n1_
  refine start_ (n := 17) (S := fun w' => w'.cell? ⟨gb341, 0, none⟩ = some (.int .i64 a2_0) ∧ w'.cell? ⟨gb341, 1, none⟩ = some (.int .i64 a2_1)) (ds := []) #[false, false, false, false, false, false, false, false, false, false, false, false, false, false, false, false, false] (by kernel_rfl) rfl rfl ⟨(blk_cell BK341.out 0).trans rfl, (blk_cell BK341.out 1).trans rfl⟩ (fun hHeld => ?_); refine with_tabW value_Moved.tab1 value_Moved.bits1 (fun HT_ HW_ => ?_)
  generalize w8.drew = w9 at BK341 HB hHeld ⊢
  refine pure_ (i := 0) (N := some 9) (v := ?_) (a' := ?_) #[true, false, false, false, false, false, false, false, false, false, false, false, false, false, false, false, false] rfl rfl (any_of HT_.out (by kernel_rfl)) (fun _ _ _ h => h) (Or.inl ⟨by rfl, ?_⟩) ?_ ?_
  rotate_left
  · intro w'
    go_simp
    with_reducible rfl
  rotate_left
  · simp only [Act.put, List.setIfInBounds_toArray, List.set_cons_zero, List.set_cons_succ, i64_w, i32_w]
    rfl
  refine pure_ (i := 1) (N := some 10) (v := ?_) (a' := ?_) #[true, true, false, false, false, false, false, false, false, false, false, false, false, false, false, false, false] rfl rfl (any_of HT_.out (by kernel_rfl)) (fun _ _ _ h => h) (Or.inl ⟨by rfl, ?_⟩) ?_ ?_
  rotate_left
  · intro w'
    go_simp
    with_reducible rfl
  rotate_left
  · simp only [Act.put, List.setIfInBounds_toArray, List.set_cons_zero, List.set_cons_succ, i64_w, i32_w]
    rfl
  refine pure_ (i := 4) (N := some 13) (v := ?_) (a' := ?_) #[true, true, false, false, true, false, false, false, false, false, false, false, false, false, false, false, false] rfl rfl (any_of HT_.out (by kernel_rfl)) (fun _ _ _ h => h) (Or.inl ⟨by rfl, ?_⟩) ?_ ?_
  rotate_left
  · intro w'
    go_simp
    with_reducible rfl
  rotate_left
  · simp only [Act.put, List.setIfInBounds_toArray, List.set_cons_zero, List.set_cons_succ, i64_w, i32_w]
    rfl
  refine pure_ (i := 5) (N := some 14) (v := ?_) (a' := ?_) #[true, true, false, false, true, true, false, false, false, false, false, false, false, false, false, false, false] rfl rfl (any_of HT_.out (by kernel_rfl)) (fun _ _ _ h => h) (Or.inl ⟨by rfl, ?_⟩) ?_ ?_
  rotate_left
  · intro w'
    go_simp
    with_reducible rfl
  rotate_left
  · simp only [Act.put, List.setIfInBounds_toArray, List.set_cons_zero, List.set_cons_succ, i64_w, i32_w]
    rfl
  refine pure_ (i := 9) (N := some 18) (v := ?_) (a' := ?_) #[true, true, false, false, true, true, false, false, false, true, false, false, false, false, false, false, false] rfl rfl (any_of HT_.out (by kernel_rfl)) (fun _ _ _ h => h) (Or.inl ⟨by rfl, ?_⟩) ?_ ?_
  rotate_left
  · intro w'
    go_simp
    with_reducible rfl
  rotate_left
  · simp only [Act.put, List.setIfInBounds_toArray, List.set_cons_zero, List.set_cons_succ, i64_w, i32_w]
    rfl
  refine pure_ (i := 10) (N := some 19) (v := ?_) (a' := ?_) #[true, true, false, false, true, true, false, false, false, true, true, false, false, false, false, false, false] rfl rfl (any_of HT_.out (by kernel_rfl)) (fun _ _ _ h => h) (Or.inl ⟨by rfl, ?_⟩) ?_ ?_
  rotate_left
  · intro w'
    go_simp
    with_reducible rfl
  rotate_left
  · simp only [Act.put, List.setIfInBounds_toArray, List.set_cons_zero, List.set_cons_succ, i64_w, i32_w]
    rfl
  refine pure_ (i := 14) (N := some 23) (v := ?_) (a' := ?_) #[true, true, false, false, true, true, false, false, false, true, true, false, false, false, true, false, false] rfl rfl (any_of HT_.out (by kernel_rfl)) (fun _ _ _ h => h) (Or.inl ⟨by rfl, ?_⟩) ?_ ?_
  rotate_left
  · intro w'
    go_simp
    with_reducible rfl
  rotate_left
  · simp only [Act.put, List.setIfInBounds_toArray, List.set_cons_zero, List.set_cons_succ, i64_w, i32_w]
    rfl
  refine take_ (i := 2) (N := some 11) (v := ?_) (a' := ?_) #[true, true, true, false, true, true, false, false, false, true, true, false, false, false, true, false, false] rfl rfl (take_ofW HT_.out HW_.out (by kernel_rfl)) (fun _ _ _ h => h) (Or.inl ⟨by rfl, ?_⟩) hHeld ?_ ?_
  rotate_left
  · rintro w' ⟨s0, s1⟩
    go_simp
    with_reducible rfl
  rotate_left
  · simp only [Act.put, List.setIfInBounds_toArray, List.set_cons_zero, List.set_cons_succ, i64_w, i32_w]
    rfl
  refine take_ (i := 6) (N := some 15) (v := ?_) (a' := ?_) #[true, true, true, false, true, true, true, false, false, true, true, false, false, false, true, false, false] rfl rfl (take_ofW HT_.out HW_.out (by kernel_rfl)) (fun _ _ _ h => h) (Or.inl ⟨by rfl, ?_⟩) hHeld ?_ ?_
  rotate_left
  · rintro w' ⟨s0, s1⟩
    go_simp
    with_reducible rfl
  rotate_left
  · simp only [Act.put, List.setIfInBounds_toArray, List.set_cons_zero, List.set_cons_succ, i64_w, i32_w]
    rfl
  refine take_ (i := 11) (N := some 20) (v := ?_) (a' := ?_) #[true, true, true, false, true, true, true, false, false, true, true, true, false, false, true, false, false] rfl rfl (take_ofW HT_.out HW_.out (by kernel_rfl)) (fun _ _ _ h => h) (Or.inl ⟨by rfl, ?_⟩) hHeld ?_ ?_
  rotate_left
  · rintro w' ⟨s0, s1⟩
    go_simp
    with_reducible rfl
  rotate_left
  · simp only [Act.put, List.setIfInBounds_toArray, List.set_cons_zero, List.set_cons_succ, i64_w, i32_w]
    rfl
  refine one_ (i := 3) (N := some 12) #[true, true, true, true, true, true, true, false, false, true, true, true, false, false, true, false, false] rfl rfl (one_of HT_.out (by kernel_rfl)) (by decide) (fun K hK => ?_)
  refine goes_ Try.func34 (by kernel_rfl) rfl #[.int .u8 a1, .int .i64 a2_0] (by rfl) rfl rfl (by (try simp only [List.map_toArray, List.map_cons, List.map_nil]); first | done | rfl | (simp only [List.length_drop, List.length_take]; rfl)) ?_
  with_reducible refine (value_Piece.calls k a1 a2_0 t342 _ A5.out).mono ?_
  rintro e w10 ⟨rfl, hb⟩
  refine ⟨_, rfl, ?_⟩
  have n0_ := Aside0.mk (blk_below (g := gb341) (o := .cells #[.int .i64 a2_0, .int .i64 a2_1] 41 (0, 0)) (by (with_reducible repeat (first | refine blk_drewN ?_ _ | refine blk_drew ?_ | refine blk_alloc ?_ _)); exact BK341.out) hb)
  have n1_ := Aside0.mk (below_step (by repeat (first | (with_reducible first | exact HB.out | apply below_alloc | apply pw_below_drewN | apply below_drew1 | refine below_set ?_ GE341.out) | exact HB.out)) hb)
  clear BK341
  clear HB
  have BK341 := n0_
  have HB := n1_
  clear n0_ n1_
  (try clear hb)
  (try clear hb2)
  (try clear hk)
  (try clear hi)
  refine hK.out _ _ ⟨(blk_cell BK341.out 0).trans rfl, (blk_cell BK341.out 1).trans rfl⟩ (fun hHeld => ?_)
  clear hK K
  refine norm_ (a' := ?_) ?_ ?_
  rotate_left
  · show Act.put _ (some 12) _ = _
    simp only [Act.put, List.setIfInBounds_toArray, List.set_cons_zero, List.set_cons_succ, i64_w, i32_w]
    rfl
  refine one_ (i := 7) (N := some 16) #[true, true, true, true, true, true, true, true, false, true, true, true, false, false, true, false, false] rfl rfl (one_of HT_.out (by kernel_rfl)) (by decide) (fun K hK => ?_)
  refine goes_ Try.func34 (by kernel_rfl) rfl #[.int .u8 a1, .int .i64 a2_1] (by rfl) rfl rfl (by (try simp only [List.map_toArray, List.map_cons, List.map_nil]); first | done | rfl | (simp only [List.length_drop, List.length_take]; rfl)) ?_
  with_reducible refine (value_Piece.calls k a1 a2_1 t343 _ A6.out).mono ?_
  rintro e w11 ⟨rfl, hb⟩
  refine ⟨_, rfl, ?_⟩
  have n0_ := Aside0.mk (blk_below (g := gb341) (o := .cells #[.int .i64 a2_0, .int .i64 a2_1] 41 (0, 0)) (by (with_reducible repeat (first | refine blk_drewN ?_ _ | refine blk_drew ?_ | refine blk_alloc ?_ _)); exact BK341.out) hb)
  have n1_ := Aside0.mk (below_step (by repeat (first | (with_reducible first | exact HB.out | apply below_alloc | apply pw_below_drewN | apply below_drew1 | refine below_set ?_ GE341.out) | exact HB.out)) hb)
  clear BK341
  clear HB
  have BK341 := n0_
  have HB := n1_
  clear n0_ n1_
  (try clear hb)
  (try clear hb2)
  (try clear hk)
  (try clear hi)
  refine hK.out _ _ ⟨(blk_cell BK341.out 0).trans rfl, (blk_cell BK341.out 1).trans rfl⟩ (fun hHeld => ?_)
  clear hK K
  refine norm_ (a' := ?_) ?_ ?_
  rotate_left
  · show Act.put _ (some 16) _ = _
    simp only [Act.put, List.setIfInBounds_toArray, List.set_cons_zero, List.set_cons_succ, i64_w, i32_w]
    rfl
  refine pure_ (i := 8) (N := some 17) (v := ?_) (a' := ?_) #[true, true, true, true, true, true, true, true, true, true, true, true, false, false, true, false, false] rfl rfl (any_of HT_.out (by kernel_rfl)) (fun _ _ _ h => h) (Or.inl ⟨by rfl, ?_⟩) ?_ ?_
  rotate_left
  · intro w'
    go_simp
    with_reducible rfl
  rotate_left
  · simp only [Act.put, List.setIfInBounds_toArray, List.set_cons_zero, List.set_cons_succ, i64_w, i32_w]
    rfl
  refine one_ (i := 12) (N := some 21) #[true, true, true, true, true, true, true, true, true, true, true, true, true, false, true, false, false] rfl rfl (one_of HT_.out (by kernel_rfl)) (by decide) (fun K hK => ?_)
  refine goes_ Try.func34 (by kernel_rfl) rfl #[.int .u8 a3, .int .i64 a2_1] (by rfl) rfl rfl (by (try simp only [List.map_toArray, List.map_cons, List.map_nil]); first | done | rfl | (simp only [List.length_drop, List.length_take]; rfl)) ?_
  with_reducible refine (value_Piece.calls k a3 a2_1 t344 _ A7.out).mono ?_
  rintro e w12 ⟨rfl, hb⟩
  refine ⟨_, rfl, ?_⟩
  have n0_ := Aside0.mk (blk_below (g := gb341) (o := .cells #[.int .i64 a2_0, .int .i64 a2_1] 41 (0, 0)) (by (with_reducible repeat (first | refine blk_drewN ?_ _ | refine blk_drew ?_ | refine blk_alloc ?_ _)); exact BK341.out) hb)
  have n1_ := Aside0.mk (below_step (by repeat (first | (with_reducible first | exact HB.out | apply below_alloc | apply pw_below_drewN | apply below_drew1 | refine below_set ?_ GE341.out) | exact HB.out)) hb)
  clear BK341
  clear HB
  have BK341 := n0_
  have HB := n1_
  clear n0_ n1_
  (try clear hb)
  (try clear hb2)
  (try clear hk)
  (try clear hi)
  refine hK.out _ _ ⟨(blk_cell BK341.out 0).trans rfl, (blk_cell BK341.out 1).trans rfl⟩ (fun hHeld => ?_)
  clear hK K
  refine norm_ (a' := ?_) ?_ ?_
  rotate_left
  · show Act.put _ (some 21) _ = _
    simp only [Act.put, List.setIfInBounds_toArray, List.set_cons_zero, List.set_cons_succ, i64_w, i32_w]
    rfl
  refine pure_ (i := 13) (N := some 22) (v := ?_) (a' := ?_) #[true, true, true, true, true, true, true, true, true, true, true, true, true, true, true, false, false] rfl rfl (any_of HT_.out (by kernel_rfl)) (fun _ _ _ h => h) (Or.inl ⟨by rfl, ?_⟩) ?_ ?_
  rotate_left
  · intro w'
    go_simp
    with_reducible rfl
  rotate_left
  · simp only [Act.put, List.setIfInBounds_toArray, List.set_cons_zero, List.set_cons_succ, i64_w, i32_w]
    rfl
  refine pure_ (i := 15) (N := some 24) (v := ?_) (a' := ?_) #[true, true, true, true, true, true, true, true, true, true, true, true, true, true, true, true, false] rfl rfl (any_of HT_.out (by kernel_rfl)) (fun _ _ _ h => h) (Or.inl ⟨by rfl, ?_⟩) ?_ ?_
  rotate_left
  · intro w'
    go_simp
    with_reducible rfl
  rotate_left
  · simp only [Act.put, List.setIfInBounds_toArray, List.set_cons_zero, List.set_cons_succ, i64_w, i32_w]
    rfl
  refine pure_ (i := 16) (N := some 8) (v := ?_) (a' := ?_) #[true, true, true, true, true, true, true, true, true, true, true, true, true, true, true, true, true] rfl rfl (any_of HT_.out (by kernel_rfl)) (fun _ _ _ h => h) (Or.inl ⟨by rfl, ?_⟩) ?_ ?_
  rotate_left
  · intro w'
    go_simp
    with_reducible rfl
  rotate_left
  · simp only [Act.put, List.setIfInBounds_toArray, List.set_cons_zero, List.set_cons_succ, i64_w, i32_w]
    rfl
  refine done_ (done_of HT_.out (by kernel_rfl)) ?_
  try go_wp2
  go_ret
  exact ⟨by first | rfl | (simp [errW_none, errW_some] <;> rfl) | (simp [*, errW_none, errW_some] <;> rfl), by repeat (first | (with_reducible first | exact HB.out | apply below_alloc | apply pw_below_drewN | apply below_drew1 | refine below_set ?_ GE341.out) | exact HB.out)⟩

end Go.Proofs.Ytmfbgcimfmgobaa.Print

-- of YtmfbgcimfmgobaaPrint37
-- Written by a program of this session (wip/gprint/gprint.py) over the kit's print; the parts marked GIVEN by hand.
namespace Go.Proofs.Ytmfbgcimfmgobaa.Print
open Go.RowKit Go.Proofs.YtmfbgcimfmgobaaW.PrintWords Go.Proofs.YtmfbgcimfmgobaaW.PrintLast Go.Proofs.YtmfbgcimfmgobaaW.PrintMore
attribute [local go_sem] max2_int min2_int max_two min_two max_three min_three max_four min_four   -- for this text's walks alone
set_option linter.unusedVariables false
set_option linter.unusedSimpArgs false
/-! GIVEN riverbanklaw14_live -/
-- GIVEN riverbank/riverbanklaw14.live
-- MAKES yes
def riverbanklaw14_live.f : Option (Bool) := some true
def startV : ByteArray := ⟨#[82, 78, 66, 65, 75, 65, 66, 78, 82, 46, 46, 46, 46, 46, 46, 46, 46, 46, 46, 67, 46, 46, 46, 46, 46, 67, 46, 80, 46, 80, 46, 80, 46, 80, 46, 80, 46, 46, 46, 46, 46, 46, 46, 46, 46, 46, 46, 46, 46, 46, 46, 46, 46, 46, 112, 46, 112, 46, 112, 46, 112, 46, 112, 46, 99, 46, 46, 46, 46, 46, 99, 46, 46, 46, 46, 46, 46, 46, 46, 46, 46, 114, 110, 98, 97, 107, 97, 98, 110, 114]⟩
set_option maxRecDepth 100000 in
set_option maxHeartbeats 2000000 in
theorem riverbanklaw14_live.calls (r : Bool) (w : World) (h : riverbanklaw14_live.f = some r) :
    Calls Try.prog 36 #[] w fun e w' => e = .returned (.bool r) ∧ Below w.heap.size w w' := by
  obtain rfl := Option.some.inj h
  clear h
  have v1 : Aside0 (value_Of.f startV 0 0 1 = some 0) := ⟨by decide +kernel⟩
  have k1 : Aside0 (value_Kind.f 114 = some 200) := ⟨by decide +kernel⟩
  have k2 : Aside0 (value_Kind.f 46 = some 0) := ⟨by decide +kernel⟩
  have p1 : Aside0 (value_Piece.f 200 80 49 = some 80) := ⟨by decide +kernel⟩
  have p2 : Aside0 (value_Piece.f 200 80 40 = some 30) := ⟨by decide +kernel⟩
  have p3 : Aside0 (value_Piece.f 200 112 40 = some 80) := ⟨by decide +kernel⟩
  have p4 : Aside0 (value_Piece.f 200 110 82 = some 91) := ⟨by decide +kernel⟩
  have p5 : Aside0 (value_Piece.f 200 75 4 = some 0) := ⟨by decide +kernel⟩
  have m1 : Aside0 (value_Moved.f 200 0 80 40 49 112 = some (-80)) := ⟨by decide +kernel⟩
  unfold startV at v1
  have hB0 : Below w.heap.size w (w.alloc (.cells #[.string ⟨#[82, 78, 66, 65, 75, 65, 66, 78, 82, 46, 46, 46, 46, 46, 46, 46, 46, 46, 46, 67, 46, 46, 46, 46, 46, 67, 46, 80, 46, 80, 46, 80, 46, 80, 46, 80, 46, 46, 46, 46, 46, 46, 46, 46, 46, 46, 46, 46, 46, 46, 46, 46, 46, 46, 112, 46, 112, 46, 112, 46, 112, 46, 112, 46, 99, 46, 46, 46, 46, 46, 99, 46, 46, 46, 46, 46, 46, 46, 46, 46, 46, 114, 110, 98, 97, 107, 97, 98, 110, 114]⟩, .int .i64 0, .int .i64 0, .int .i64 1] 29)) := (Below.refl _ w).alloc (Nat.le_refl _) _
  go_enter Try.func36, Try.ntmps36
  go_wp2_with (first
    | (go_at_call 37; (with_reducible refine (value_Of.calls _ _ _ _ 0 _ v1.out).mono ?_); rintro e w1 ⟨rfl, hb⟩; have hB1 := hB0.trans (hb.mono hB0.size); clear hb)
    | (go_at_call 32; (with_reducible refine (value_Kind.calls 114 200 _ k1.out).mono ?_); rintro e w2 ⟨rfl, hb⟩; have hB2 := hB1.trans (hb.mono hB1.size); clear hb)
    | (go_at_call 32; (with_reducible refine (value_Kind.calls 46 0 _ k2.out).mono ?_); rintro e w3 ⟨rfl, hb⟩; have hB3 := hB2.trans (hb.mono hB2.size); clear hb)
    | (go_at_call 34; (with_reducible refine (value_Piece.calls 200 80 49 80 _ p1.out).mono ?_); rintro e w4 ⟨rfl, hb⟩; have hB4 := hB3.trans (hb.mono hB3.size); clear hb)
    | (go_at_call 34; (with_reducible refine (value_Piece.calls 200 80 40 30 _ p2.out).mono ?_); rintro e w5 ⟨rfl, hb⟩; have hB5 := hB4.trans (hb.mono hB4.size); clear hb)
    | (go_at_call 34; (with_reducible refine (value_Piece.calls 200 112 40 80 _ p3.out).mono ?_); rintro e w6 ⟨rfl, hb⟩; have hB6 := hB5.trans (hb.mono hB5.size); clear hb)
    | (go_at_call 34; (with_reducible refine (value_Piece.calls 200 110 82 91 _ p4.out).mono ?_); rintro e w7 ⟨rfl, hb⟩; have hB7 := hB6.trans (hb.mono hB6.size); clear hb)
    | (go_at_call 34; (with_reducible refine (value_Piece.calls 200 75 4 0 _ p5.out).mono ?_); rintro e w8 ⟨rfl, hb⟩; have hB8 := hB7.trans (hb.mono hB7.size); clear hb)
    | (go_at_call 39; (with_reducible refine (value_Moved.calls 200 0 80 40 49 112 (-80) _ m1.out).mono ?_); rintro e w9 ⟨rfl, hb⟩; have hB9 := hB8.trans (hb.mono hB8.size); clear hb))
  go_ret
  exact ⟨rfl, hB9⟩

end Go.Proofs.Ytmfbgcimfmgobaa.Print

-- of YtmfbgcimfmgobaaPrint40
-- Written by a program of this session (wip/gprint/gprint.py) over the kit's print; the parts marked GIVEN by hand.
namespace Go.Proofs.Ytmfbgcimfmgobaa.Print
open Go.RowKit Go.Proofs.YtmfbgcimfmgobaaW.PrintWords Go.Proofs.YtmfbgcimfmgobaaW.PrintLast Go.Proofs.YtmfbgcimfmgobaaW.PrintMore
attribute [local go_sem] max2_int min2_int max_two min_two max_three min_three max_four min_four   -- for this text's walks alone
set_option linter.unusedVariables false
set_option linter.unusedSimpArgs false
/-! ### riverbanklaw14_ValueFollows: function 12 -/
def riverbanklaw14_ValueFollows.l0 : Nat → List (S41) → Int → Int → ByteArray → Int → Int → Int → Option (Bool)
  | 0, _, _, _, _, _, _, _ => none
  | k + 1, x3, x4, x5, x369000, x369001, x369002, x369003 => if x5 < (x3.length : Int) then (if 0 ≤ x5 then ((riverbankref08_Make.f k x369000 x369001 x369002 x369003 ((rd_T41 x3 x5).f0) ((rd_T41 x3 x5).f1)).bind fun bt376 => (if 0 ≤ ((rd_T41 x3 x5).f0) then (if ((rd_T41 x3 x5).f0) < (x369000.size : Int) then ((value_Moved.f k x4 (bt x369000 ((rd_T41 x3 x5).f0)) ((rd_T41 x3 x5).f0) ((rd_T41 x3 x5).f1) bt376.2.2.2.2.1).bind fun t385 => ((value_Of.f bt376.1 bt376.2.1 bt376.2.2.1 bt376.2.2.2.1).bind fun t386 => (if t385 = t386 then (riverbanklaw14_ValueFollows.l0 k x3 x4 (wrap64 (x5 + 1)) x369000 x369001 x369002 x369003) else (some false)))) else (none)) else (none))) else (none)) else ((riverbanklaw14_live.f).bind fun t374 => (some t374))
def riverbanklaw14_ValueFollows.f (k : Nat) (a0_0 : ByteArray) (a0_1 : Int) (a0_2 : Int) (a0_3 : Int) : Option (Bool) := if (a0_0.size : Int) > 200 then ((riverbanklaw14_live.f).bind fun t369 => (some t369)) else ((riverbankref08_Moves.f k a0_0 a0_1 a0_2 a0_3).bind fun t370 => ((value_Of.f a0_0 a0_1 a0_2 a0_3).bind fun t373 => (riverbanklaw14_ValueFollows.l0 k t370 t373 0 a0_0 a0_1 a0_2 a0_3)))
theorem riverbanklaw14_ValueFollows.mono_l : ∀ k, (∀ y0 y1 y2 y3 y4 y5 y6, LeO (riverbanklaw14_ValueFollows.l0 k y0 y1 y2 y3 y4 y5 y6) (riverbanklaw14_ValueFollows.l0 (k + 1) y0 y1 y2 y3 y4 y5 y6))
  | 0 => fun _ _ _ _ _ _ _ r h => by simp [riverbanklaw14_ValueFollows.l0] at h
  | k + 1 => by
    have ih0 := riverbanklaw14_ValueFollows.mono_l k
    · intro y0 y1 y2 y3 y4 y5 y6
      unfold riverbanklaw14_ValueFollows.l0
      repeat' first
      | (with_reducible exact ih0 _ _ _ _ _ _ _)
      | (with_reducible exact riverbankref08_Make.mono _ _ _ _ _ _ _)
      | (with_reducible exact riverbankref08_Moves.mono _ _ _ _ _)
      | (with_reducible exact value_Moved.mono _ _ _ _ _ _)
      | (with_reducible exact LeO.refl _)
      | (with_reducible exact LeO.none _)
      | (with_reducible refine LeO.ite ?_ ?_)
      | (with_reducible refine LeO.bind ?_ (fun _ => ?_))
      | exact ih0 _ _ _ _ _ _ _
      | exact riverbankref08_Make.mono _ _ _ _ _ _ _
      | exact riverbankref08_Moves.mono _ _ _ _ _
      | exact value_Moved.mono _ _ _ _ _ _
      | exact LeO.none _
      | refine LeO.ite ?_ ?_
      | refine LeO.bind ?_ (fun _ => ?_)
theorem riverbanklaw14_ValueFollows.mono : ∀ a0 a1 a2 a3 k, LeO (riverbanklaw14_ValueFollows.f k a0 a1 a2 a3) (riverbanklaw14_ValueFollows.f (k + 1) a0 a1 a2 a3) := by
  intro a0 a1 a2 a3 k
  have ih0 := riverbanklaw14_ValueFollows.mono_l k
  unfold riverbanklaw14_ValueFollows.f
  repeat' first
      | (with_reducible exact ih0 _ _ _ _ _ _ _)
      | (with_reducible exact riverbankref08_Make.mono _ _ _ _ _ _ _)
      | (with_reducible exact riverbankref08_Moves.mono _ _ _ _ _)
      | (with_reducible exact value_Moved.mono _ _ _ _ _ _)
      | (with_reducible exact LeO.refl _)
      | (with_reducible exact LeO.none _)
      | (with_reducible refine LeO.ite ?_ ?_)
      | (with_reducible refine LeO.bind ?_ (fun _ => ?_))
      | exact ih0 _ _ _ _ _ _ _
      | exact riverbankref08_Make.mono _ _ _ _ _ _ _
      | exact riverbankref08_Moves.mono _ _ _ _ _
      | exact value_Moved.mono _ _ _ _ _ _
      | exact LeO.none _
      | refine LeO.ite ?_ ?_
      | refine LeO.bind ?_ (fun _ => ?_)
def riverbanklaw14_ValueFollows.T8 : Bool × List (List Nat × List Nat) := (true, [([], []), ([], []), ([], []), ([1, 2], [1, 2]), ([3], [3]), ([0, 4], [0, 4]), ([5], [5]), ([6], [6]), ([6], [6]), ([6], [6]), ([], []), ([10, 7, 5, 0, 1, 2, 3, 4, 5, 6, 7, 10], [7, 10]), ([8, 11, 0, 1, 2, 3, 4, 5, 6, 7, 8, 10, 11], [8]), ([9, 12, 0, 1, 2, 3, 4, 5, 6, 7, 8, 9, 10, 11, 12], [9])])
def riverbanklaw14_ValueFollows.B8 : List Nat := [0, 0, 0, 6, 14, 31, 63, 127, 127, 127, 0, 1279, 3583, 8191]
theorem riverbanklaw14_ValueFollows.tab8 : rtab .any (opsOf Try.f12 8) = riverbanklaw14_ValueFollows.T8 := by kernel_rfl
theorem riverbanklaw14_ValueFollows.bits8 : waitsOk riverbanklaw14_ValueFollows.T8.2 riverbanklaw14_ValueFollows.B8 = true := by kernel_rfl
def riverbanklaw14_ValueFollows.T9 : Bool × List (List Nat × List Nat) := (true, [([], []), ([], []), ([1], [1]), ([], []), ([], []), ([3, 4], [3, 4]), ([5], [5]), ([6], [6]), ([2, 7], [2, 7]), ([], []), ([], []), ([9, 10], [9, 10]), ([11], [11]), ([], []), ([0, 8, 12, 13], [0, 8, 12, 13]), ([], []), ([15, 14], [15]), ([14, 16], [14, 16])])
def riverbanklaw14_ValueFollows.B9 : List Nat := [0, 0, 2, 0, 0, 24, 56, 120, 254, 0, 0, 1536, 3584, 0, 16383, 0, 65535, 131071]
theorem riverbanklaw14_ValueFollows.tab9 : rtab .any (opsOf Try.f12 9) = riverbanklaw14_ValueFollows.T9 := by kernel_rfl
theorem riverbanklaw14_ValueFollows.bits9 : waitsOk riverbanklaw14_ValueFollows.T9.2 riverbanklaw14_ValueFollows.B9 = true := by kernel_rfl
set_option maxHeartbeats 8000000 in
set_option maxRecDepth 100000 in
theorem riverbanklaw14_ValueFollows.calls (k : Nat) (a0_0 : ByteArray) (a0_1 : Int) (a0_2 : Int) (a0_3 : Int) (r : Bool) (w : World) (h : riverbanklaw14_ValueFollows.f k a0_0 a0_1 a0_2 a0_3 = some r) :
    Calls Try.prog 12 #[.agg #[.string a0_0, .int .i64 a0_1, .int .i64 a0_2, .int .i64 a0_3]] w fun e w' => e = .returned (.bool r) ∧ Below w.heap.size w w' := by
  have hu29 := Try.underlying29
  have hu41 := Try.underlying41
  have HB := Aside0.mk (Below.refl w.heap.size w)
  have H : (if (a0_0.size : Int) > 200 then ((riverbanklaw14_live.f).bind fun t369 => (some t369)) else ((riverbankref08_Moves.f k a0_0 a0_1 a0_2 a0_3).bind fun t370 => ((value_Of.f a0_0 a0_1 a0_2 a0_3).bind fun t373 => (riverbanklaw14_ValueFollows.l0 k t370 t373 0 a0_0 a0_1 a0_2 a0_3)))) = some r := h
  clear h
  by_cases c2 : (a0_0.size : Int) > 200
  · rw [if_pos c2] at H
    have c2b0 : decide (200 < (a0_0.size : Int)) = true := decide_eq_true c2
    have c2b1 : decide (200 < a0_0.size) = true := decide_eq_true (by omega)
    clear c2
    replace H := Option.bind_eq_some_iff.mp H
    obtain ⟨t369, A30, H⟩ := H
    replace H : (some t369) = some r := H
    have A3 := Aside0.mk A30
    clear A30
    obtain rfl := Option.some.inj H
    go_enter Try.func12, Try.ntmps12
    go_wp2_with (first | ((with_reducible refine gate_dst (N := 1) rfl ?_); refine box_event ?hg (N := 1) ?hd (cs := #[.string a0_0, .int .i64 a0_1, .int .i64 a0_2, .int .i64 a0_3]) (t := 29) ?hr ?_; (case hd => rfl); (case hg => rfl); (case hr => first | (go_simp; done) | (go_simp; rfl)); intro gb368 hg w4 hbox hb; have n0_ := Aside0.mk (below_step (by repeat (first | (with_reducible first | exact HB.out | apply below_alloc | apply pw_below_drewN | apply below_drew1) | exact HB.out)) hb); have n1_ := Aside0.mk (hbox); have n2_ := Aside0.mk ((by rw [hg]; exact (below_size (by repeat (first | (with_reducible first | exact HB.out | apply below_alloc | apply pw_below_drewN | apply below_drew1) | exact HB.out))) : w.heap.size ≤ gb368)); have n3_ := Aside0.mk ((by rw [hg]; exact (below_size (by repeat (first | (with_reducible first | exact HB.out | apply below_alloc | apply pw_below_drewN | apply below_drew1) | exact HB.out))) : w.heap.size ≤ gb368)); clear HB; have HB := n0_; have BK368 := n1_; have GW368 := n2_; have GE368 := n3_; clear n0_ n1_ n2_ n3_; clear hb hbox hg; have hcz5_0 : w4.cell? ⟨gb368, 0, none⟩ = some (.string a0_0) := (blk_cell BK368.out 0).trans rfl; have hcz5_1 : w4.cell? ⟨gb368, 1, none⟩ = some (.int .i64 a0_1) := (blk_cell BK368.out 1).trans rfl; have hcz5_2 : w4.cell? ⟨gb368, 2, none⟩ = some (.int .i64 a0_2) := (blk_cell BK368.out 2).trans rfl; have hcz5_3 : w4.cell? ⟨gb368, 3, none⟩ = some (.int .i64 a0_3) := (blk_cell BK368.out 3).trans rfl; have hfz5_0 := blk_frozen BK368.out 0; have hfz5_1 := blk_frozen BK368.out 1; have hfz5_2 := blk_frozen BK368.out 2; have hfz5_3 := blk_frozen BK368.out 3) | ((with_reducible refine gate_callee (f := 36) rfl ?_); refine goesL_ (some 13) rfl rfl Try.func36 (by kernel_rfl) rfl #[] rfl (by (try simp only [List.map_toArray, List.map_cons, List.map_nil]); first | done | rfl | (simp only [List.length_drop, List.length_take]; rfl)) ?_; (with_reducible refine (riverbanklaw14_live.calls  t369 _ A3.out).mono ?_); rintro e w6 ⟨rfl, hb⟩; refine ⟨_, rfl, ?_⟩; have n0_ := Aside0.mk (blk_below (g := gb368) (o := .cells #[.string a0_0, .int .i64 a0_1, .int .i64 a0_2, .int .i64 a0_3] 29 (0, 0)) (by (with_reducible repeat (first | refine blk_drewN ?_ _ | refine blk_drew ?_ | refine blk_alloc ?_ _)); exact BK368.out) hb); have n1_ := Aside0.mk (below_step (by repeat (first | (with_reducible first | exact HB.out | apply below_alloc | apply pw_below_drewN | apply below_drew1 | refine below_set ?_ GE368.out) | exact HB.out)) hb); clear BK368; clear HB; have BK368 := n0_; have HB := n1_; clear n0_ n1_; (try clear hb); (try clear hb2); (try clear hk); (try clear hi)))
    go_ret
    exact ⟨by first | rfl | (simp [errW_none, errW_some] <;> rfl) | (simp [*, errW_none, errW_some] <;> rfl), by repeat (first | (with_reducible first | exact HB.out | apply below_alloc | apply pw_below_drewN | apply below_drew1 | refine below_set ?_ GE368.out) | exact HB.out)⟩
  · rw [if_neg c2] at H
    have c2b0 : decide (200 < (a0_0.size : Int)) = false := decide_eq_false c2
    have c2b1 : decide (200 < a0_0.size) = false := decide_eq_false (by omega)
    clear c2
    replace H := Option.bind_eq_some_iff.mp H
    obtain ⟨t370, A70, H⟩ := H
    replace H : ((value_Of.f a0_0 a0_1 a0_2 a0_3).bind fun t373 => (riverbanklaw14_ValueFollows.l0 k t370 t373 0 a0_0 a0_1 a0_2 a0_3)) = some r := H
    have A7 := Aside0.mk A70
    clear A70
    replace H := Option.bind_eq_some_iff.mp H
    obtain ⟨t373, A80, H⟩ := H
    replace H : (riverbanklaw14_ValueFollows.l0 k t370 t373 0 a0_0 a0_1 a0_2 a0_3) = some r := H
    have A8 := Aside0.mk A80
    clear A80
    have H' := Aside0.mk H
    clear H
    go_enter Try.func12, Try.ntmps12
    go_wp2_with (first | ((with_reducible refine gate_dst (N := 1) rfl ?_); refine box_event ?hg (N := 1) ?hd (cs := #[.string a0_0, .int .i64 a0_1, .int .i64 a0_2, .int .i64 a0_3]) (t := 29) ?hr ?_; (case hd => rfl); (case hg => rfl); (case hr => first | (go_simp; done) | (go_simp; rfl)); intro gb368 hg w9 hbox hb; have n0_ := Aside0.mk (below_step (by repeat (first | (with_reducible first | exact HB.out | apply below_alloc | apply pw_below_drewN | apply below_drew1) | exact HB.out)) hb); have n1_ := Aside0.mk (hbox); have n2_ := Aside0.mk ((by rw [hg]; exact (below_size (by repeat (first | (with_reducible first | exact HB.out | apply below_alloc | apply pw_below_drewN | apply below_drew1) | exact HB.out))) : w.heap.size ≤ gb368)); have n3_ := Aside0.mk ((by rw [hg]; exact (below_size (by repeat (first | (with_reducible first | exact HB.out | apply below_alloc | apply pw_below_drewN | apply below_drew1) | exact HB.out))) : w.heap.size ≤ gb368)); clear HB; have HB := n0_; have BK368 := n1_; have GW368 := n2_; have GE368 := n3_; clear n0_ n1_ n2_ n3_; clear hb hbox hg; have hcz10_0 : w9.cell? ⟨gb368, 0, none⟩ = some (.string a0_0) := (blk_cell BK368.out 0).trans rfl; have hcz10_1 : w9.cell? ⟨gb368, 1, none⟩ = some (.int .i64 a0_1) := (blk_cell BK368.out 1).trans rfl; have hcz10_2 : w9.cell? ⟨gb368, 2, none⟩ = some (.int .i64 a0_2) := (blk_cell BK368.out 2).trans rfl; have hcz10_3 : w9.cell? ⟨gb368, 3, none⟩ = some (.int .i64 a0_3) := (blk_cell BK368.out 3).trans rfl; have hfz10_0 := blk_frozen BK368.out 0; have hfz10_1 := blk_frozen BK368.out 1; have hfz10_2 := blk_frozen BK368.out 2; have hfz10_3 := blk_frozen BK368.out 3) | ((with_reducible refine gate_callee (f := 30) rfl ?_); refine goesL_ (some 15) rfl rfl Try.func30 (by kernel_rfl) rfl #[.agg #[.string a0_0, .int .i64 a0_1, .int .i64 a0_2, .int .i64 a0_3]] rfl (by (try simp only [List.map_toArray, List.map_cons, List.map_nil]); first | done | rfl | (simp only [List.length_drop, List.length_take]; rfl)) ?_; (with_reducible refine (riverbankref08_Moves.calls k a0_0 a0_1 a0_2 a0_3 t370 _ A7.out).mono ?_); rintro e w11 ⟨v371, rfl, ho0, hb⟩; refine ⟨_, rfl, ?_⟩; have n0_ := Aside0.mk (Kd.R_lower ho0 (below_size (by repeat (first | (with_reducible first | exact HB.out | apply below_alloc | apply pw_below_drewN | apply below_drew1 | refine below_set ?_ GE368.out) | exact HB.out)))); have n1_ := Aside0.mk (blk_below (g := gb368) (o := .cells #[.string a0_0, .int .i64 a0_1, .int .i64 a0_2, .int .i64 a0_3] 29 (0, 0)) (by (with_reducible repeat (first | refine blk_drewN ?_ _ | refine blk_drew ?_ | refine blk_alloc ?_ _)); exact BK368.out) hb); have n2_ := Aside0.mk (below_step (by repeat (first | (with_reducible first | exact HB.out | apply below_alloc | apply pw_below_drewN | apply below_drew1 | refine below_set ?_ GE368.out) | exact HB.out)) hb); clear BK368; clear HB; have HO372 := n0_; have BK368 := n1_; have HB := n2_; clear n0_ n1_ n2_; (try clear hb); (try clear hb2); (try clear hk); (try clear hi); (try clear ho0); have hcz12_0 : w11.cell? ⟨gb368, 0, none⟩ = some (.string a0_0) := (blk_cell BK368.out 0).trans rfl; have hcz12_1 : w11.cell? ⟨gb368, 1, none⟩ = some (.int .i64 a0_1) := (blk_cell BK368.out 1).trans rfl; have hcz12_2 : w11.cell? ⟨gb368, 2, none⟩ = some (.int .i64 a0_2) := (blk_cell BK368.out 2).trans rfl; have hcz12_3 : w11.cell? ⟨gb368, 3, none⟩ = some (.int .i64 a0_3) := (blk_cell BK368.out 3).trans rfl; have hfz12_0 := blk_frozen BK368.out 0; have hfz12_1 := blk_frozen BK368.out 1; have hfz12_2 := blk_frozen BK368.out 2; have hfz12_3 := blk_frozen BK368.out 3) | ((with_reducible refine gate_callee (f := 37) rfl ?_); refine goesL_ (some 17) rfl rfl Try.func37 (by kernel_rfl) rfl #[.agg #[.string a0_0, .int .i64 a0_1, .int .i64 a0_2, .int .i64 a0_3]] rfl (by (try simp only [List.map_toArray, List.map_cons, List.map_nil]); first | done | rfl | (simp only [List.length_drop, List.length_take]; rfl)) ?_; (with_reducible refine (value_Of.calls a0_0 a0_1 a0_2 a0_3 t373 _ A8.out).mono ?_); rintro e w13 ⟨rfl, hb⟩; refine ⟨_, rfl, ?_⟩; have n0_ := Aside0.mk (Kd.R_below (by (with_reducible repeat (first | apply Kd.R_alloc | apply Kd.R_drewN | apply Kd.R_drew)); exact HO372.out) hb); have n1_ := Aside0.mk (blk_below (g := gb368) (o := .cells #[.string a0_0, .int .i64 a0_1, .int .i64 a0_2, .int .i64 a0_3] 29 (0, 0)) (by (with_reducible repeat (first | refine blk_drewN ?_ _ | refine blk_drew ?_ | refine blk_alloc ?_ _)); exact BK368.out) hb); have n2_ := Aside0.mk (below_step (by repeat (first | (with_reducible first | exact HB.out | apply below_alloc | apply pw_below_drewN | apply below_drew1 | refine below_set ?_ GE368.out) | exact HB.out)) hb); clear HO372; clear BK368; clear HB; have HO372 := n0_; have BK368 := n1_; have HB := n2_; clear n0_ n1_ n2_; (try clear hb); (try clear hb2); (try clear hk); (try clear hi)))
    go_loopg [5] k (fun kq v5 w' => ∃ (x5_1 : Int), v5 = .int .i64 x5_1 ∧ Aside0 (riverbanklaw14_ValueFollows.l0 kq t370 t373 x5_1 a0_0 a0_1 a0_2 a0_3 = some r) ∧ Aside0 (kq ≤ k) ∧ Aside0 (Kd.R k41 41 w' w.heap.size (fun _ => True) v371 t370) ∧ Aside0 (w'.heap[gb368]? = some (.cells #[.string a0_0, .int .i64 a0_1, .int .i64 a0_2, .int .i64 a0_3] 29 (0, 0))) ∧ Aside0 (Below w.heap.size w w'))
    case atStart => exact ⟨(0), (by first | rfl | (simp; done) | (simp [*]; done)), H', ⟨Nat.le_refl _⟩, ⟨by (with_reducible repeat (first | apply Kd.R_alloc | apply Kd.R_drewN | apply Kd.R_drew)); exact HO372.out⟩, ⟨by (with_reducible repeat (first | refine blk_drewN ?_ _ | refine blk_drew ?_ | refine blk_alloc ?_ _)); exact BK368.out⟩, ⟨by repeat (first | (with_reducible first | exact HB.out | apply below_alloc | apply pw_below_drewN | apply below_drew1 | refine below_set ?_ GE368.out) | exact HB.out)⟩⟩
    case round =>
      clear H'
      try clear c1
      try clear c2
      try clear c2b0
      try clear c2b1
      try clear p2
      try clear c3
      try clear c12
      try clear hcz10_0
      try clear hcz10_1
      try clear hcz10_2
      try clear hcz10_3
      try clear hcz12_0
      try clear hcz12_1
      try clear hcz12_2
      try clear hcz12_3
      try clear hcz5_0
      try clear hcz5_1
      try clear hcz5_2
      try clear hcz5_3
      try clear hfz10_0
      try clear hfz10_1
      try clear hfz10_2
      try clear hfz10_3
      try clear hfz12_0
      try clear hfz12_1
      try clear hfz12_2
      try clear hfz12_3
      try clear hfz5_0
      try clear hfz5_1
      try clear hfz5_2
      try clear hfz5_3
      obtain ⟨x5_1, rfl, HA, HK1, HO_3, BK368, HB⟩ := hrel
      cases gk with
      | zero => exact absurd HA.out (by simp [riverbanklaw14_ValueFollows.l0])
      | succ k1 =>
        have H := HA.out
        clear HA
        simp only [riverbanklaw14_ValueFollows.l0] at H
        by_cases c14 : x5_1 < (t370.length : Int)
        · rw [if_pos c14] at H
          have c14b0 : decide (x5_1 < (t370.length : Int)) = true := decide_eq_true c14
          clear c14
          by_cases c15 : 0 ≤ x5_1
          · rw [if_pos c15] at H
            have c15b0 : decide (0 ≤ x5_1) = true := decide_eq_true c15
            clear c15
            replace H := Option.bind_eq_some_iff.mp H
            obtain ⟨⟨t376, t377, t378, t379, t380, t381⟩, A160, H⟩ := H
            replace H : (if 0 ≤ ((rd_T41 t370 x5_1).f0) then (if ((rd_T41 t370 x5_1).f0) < (a0_0.size : Int) then ((value_Moved.f k1 t373 (bt a0_0 ((rd_T41 t370 x5_1).f0)) ((rd_T41 t370 x5_1).f0) ((rd_T41 t370 x5_1).f1) t380).bind fun t385 => ((value_Of.f t376 t377 t378 t379).bind fun t386 => (if t385 = t386 then (riverbanklaw14_ValueFollows.l0 k1 t370 t373 (wrap64 (x5_1 + 1)) a0_0 a0_1 a0_2 a0_3) else (some false)))) else (none)) else (none)) = some r := H
            have A16 := Aside0.mk A160
            clear A160
            by_cases c17 : 0 ≤ ((rd_T41 t370 x5_1).f0)
            · rw [if_pos c17] at H
              have c17b0 : decide (0 ≤ ((rd_T41 t370 x5_1).f0)) = true := decide_eq_true c17
              clear c17
              by_cases c18 : ((rd_T41 t370 x5_1).f0) < (a0_0.size : Int)
              · rw [if_pos c18] at H
                have c18b0 : decide (((rd_T41 t370 x5_1).f0) < (a0_0.size : Int)) = true := decide_eq_true c18
                clear c18
                replace H := Option.bind_eq_some_iff.mp H
                obtain ⟨t385, A200, H⟩ := H
                replace H : ((value_Of.f t376 t377 t378 t379).bind fun t386 => (if t385 = t386 then (riverbanklaw14_ValueFollows.l0 k1 t370 t373 (wrap64 (x5_1 + 1)) a0_0 a0_1 a0_2 a0_3) else (some false))) = some r := H
                have A20 := Aside0.mk A200
                clear A200
                replace H := Option.bind_eq_some_iff.mp H
                obtain ⟨t386, A210, H⟩ := H
                replace H : (if t385 = t386 then (riverbanklaw14_ValueFollows.l0 k1 t370 t373 (wrap64 (x5_1 + 1)) a0_0 a0_1 a0_2 a0_3) else (some false)) = some r := H
                have A21 := Aside0.mk A210
                clear A210
                by_cases c22 : t385 = t386
                · rw [if_pos c22] at H
                  have c22b0 : (t385 == t386) = true := beq_iff_eq.mpr c22
                  have c22b1 : (t385 != t386) = false := bne_eq_false_iff_eq.mpr c22
                  clear c22
                  have H' := Aside0.mk H
                  clear H
                  obtain ⟨Ao23, co23, eo23⟩ := Kd.R_slice HO_3.out
                  subst eo23
                  try go_wp2
                  have n0_ := Aside0.mk (Kd.R_drew HO_3.out)
                  have n1_ := Aside0.mk (blk_drew BK368.out)
                  have n2_ := Aside0.mk (below_drew1 HB.out)
                  clear HO_3
                  clear BK368
                  clear HB
                  have HO_3 := n0_
                  have BK368 := n1_
                  have HB := n2_
                  clear n0_ n1_ n2_
                  have p375 : 0 ≤ (x5_1 : Int) := of_decide_eq_true (by first | (with_reducible assumption) | assumption)
                  have q375 : x5_1 < (t370.length : Int) := of_decide_eq_true (by first | (with_reducible assumption) | assumption)
                  obtain ⟨ad375, e375, hx375_0, hx375_1⟩ := at_T41 (Kd.R_reads' HO_3.out).2.2 x5_1 p375 q375
                  cases e375
                  replace p375 := eq_true p375
                  replace q375 := eq_true q375
                  refine start_ (n := 14) (S := fun w' => w'.cell? ⟨gb368, 0, none⟩ = some (.string a0_0) ∧ w'.cell? ⟨gb368, 1, none⟩ = some (.int .i64 a0_1) ∧ w'.cell? ⟨gb368, 2, none⟩ = some (.int .i64 a0_2) ∧ w'.cell? ⟨gb368, 3, none⟩ = some (.int .i64 a0_3) ∧ w'.cell? (ad375.add ((x5_1).toNat * 2)) = some (.int .i64 ((rd_T41 t370 x5_1).f0)) ∧ w'.cell? ⟨(ad375.add ((x5_1).toNat * 2)).block, (ad375.add ((x5_1).toNat * 2)).off + 1, none⟩ = some (.int .i64 ((rd_T41 t370 x5_1).f1))) (ds := []) #[false, false, false, false, false, false, false, false, false, false, false, false, false, false] (by kernel_rfl) rfl rfl ⟨(blk_cell BK368.out 0).trans rfl, (blk_cell BK368.out 1).trans rfl, (blk_cell BK368.out 2).trans rfl, (blk_cell BK368.out 3).trans rfl, hx375_0, hx375_1⟩ (fun hHeld => ?_); refine with_tabW riverbanklaw14_ValueFollows.tab8 riverbanklaw14_ValueFollows.bits8 (fun HT_ HW_ => ?_)
                  generalize wr.drew = w24 at HO_3 BK368 HB hx375_0 hx375_1 hHeld ⊢
                  refine pure_ (i := 1) (N := some 26) (v := ?_) (a' := ?_) #[false, true, false, false, false, false, false, false, false, false, false, false, false, false] rfl rfl (any_of HT_.out (by kernel_rfl)) (fun _ _ _ h => h) (Or.inl ⟨by rfl, ?_⟩) ?_ ?_
                  rotate_left
                  · intro w'
                    go_simp
                    with_reducible rfl
                  rotate_left
                  · simp only [Act.put, List.setIfInBounds_toArray, List.set_cons_zero, List.set_cons_succ, i64_w, i32_w]
                    rfl
                  refine pure_ (i := 2) (N := some 27) (v := ?_) (a' := ?_) #[false, true, true, false, false, false, false, false, false, false, false, false, false, false] rfl rfl (any_of HT_.out (by kernel_rfl)) (fun _ _ _ h => h) (Or.inl ⟨by rfl, ?_⟩) ?_ ?_
                  rotate_left
                  · intro w'
                    go_simp
                    with_reducible rfl
                  rotate_left
                  · simp only [Act.put, List.setIfInBounds_toArray, List.set_cons_zero, List.set_cons_succ, i64_w, i32_w]
                    rfl
                  refine pure_ (i := 3) (N := some 28) (v := ?_) (a' := ?_) #[false, true, true, true, false, false, false, false, false, false, false, false, false, false] rfl rfl (any_of HT_.out (by kernel_rfl)) (fun _ _ _ h => h) (Or.inl ⟨by rfl, ?_⟩) ?_ ?_
                  rotate_left
                  · intro w'
                    go_simp
                    with_reducible rfl
                  rotate_left
                  · simp only [Act.put, List.setIfInBounds_toArray, List.set_cons_zero, List.set_cons_succ, i64_w, i32_w]
                    rfl
                  refine take_ (i := 0) (N := some 25) (v := ?_) (a' := ?_) #[true, true, true, true, false, false, false, false, false, false, false, false, false, false] rfl rfl (take_ofW HT_.out HW_.out (by kernel_rfl)) (fun _ _ _ h => h) (Or.inl ⟨by rfl, ?_⟩) hHeld ?_ ?_
                  rotate_left
                  · rintro w' ⟨s0, s1, s2, s3, s4, s5⟩
                    go_simp
                    with_reducible rfl
                  rotate_left
                  · simp only [Act.put, List.setIfInBounds_toArray, List.set_cons_zero, List.set_cons_succ, i64_w, i32_w]
                    rfl
                  refine take_ (i := 4) (N := some 29) (v := ?_) (a' := ?_) #[true, true, true, true, true, false, false, false, false, false, false, false, false, false] rfl rfl (take_ofW HT_.out HW_.out (by kernel_rfl)) (fun _ _ _ h => h) (Or.inl ⟨by rfl, ?_⟩) hHeld ?_ ?_
                  rotate_left
                  · rintro w' ⟨s0, s1, s2, s3, s4, s5⟩
                    go_simp
                    with_reducible rfl
                  rotate_left
                  · simp only [Act.put, List.setIfInBounds_toArray, List.set_cons_zero, List.set_cons_succ, i64_w, i32_w]
                    rfl
                  refine join_ (σ := Nat) 3 #[true, true, true, true, true, true, true, true, true, true, true, false, false, false] (fun s_ => [(30, .tuple #[.agg #[.string t376, .int .i64 t377, .int .i64 t378, .int .i64 t379], .int .u8 t380, .int .i64 t381]), (6, .pointer (some ⟨s_, 0, none⟩)), (24, .tuple #[.agg #[.string t376, .int .i64 t377, .int .i64 t378, .int .i64 t379], .int .u8 t380, .int .i64 t381]), (31, .agg #[.string t376, .int .i64 t377, .int .i64 t378, .int .i64 t379]), (32, .int .u8 t380), (33, .int .i64 t381)]) (fun s_ w' => (w'.cell? ⟨gb368, 0, none⟩ = some (.string a0_0) ∧ w'.cell? ⟨gb368, 1, none⟩ = some (.int .i64 a0_1) ∧ w'.cell? ⟨gb368, 2, none⟩ = some (.int .i64 a0_2) ∧ w'.cell? ⟨gb368, 3, none⟩ = some (.int .i64 a0_3) ∧ w'.cell? (ad375.add ((x5_1).toNat * 2)) = some (.int .i64 ((rd_T41 t370 x5_1).f0)) ∧ w'.cell? ⟨(ad375.add ((x5_1).toNat * 2)).block, (ad375.add ((x5_1).toNat * 2)).off + 1, none⟩ = some (.int .i64 ((rd_T41 t370 x5_1).f1))) ∧ (Kd.R k41 41 w' w.heap.size (fun _ => True) (.slice (some ad375) t370.length co23) t370) ∧ (w'.heap[gb368]? = some (.cells #[.string a0_0, .int .i64 a0_1, .int .i64 a0_2, .int .i64 a0_3] 29 (0, 0))) ∧ (w'.heap[s_]? = some (.cells #[.string (⟨#[]⟩ : ByteArray), .int .i64 0, .int .i64 0, .int .i64 0] 29 (0, 0))) ∧ (w.heap.size ≤ s_) ∧ (w.heap.size ≤ s_) ∧ (gb368 ≠ s_) ∧ (s_ ≠ gb368) ∧ (Below w.heap.size w w')) ?_ ?_
                  rotate_left
                  · intro hCont
                    refine two_ (i := 5) (j := 10) (Ni := some 30) (Nj := some 6) #[true, true, true, true, true, true, false, false, false, false, false, false, false, false] #[true, true, true, true, true, false, false, false, false, false, true, false, false, false] rfl rfl rfl rfl (two_of HT_.out (by kernel_rfl)) (by decide) (by decide) (fun K hK => ?_) (fun K hK => ?_)
                    · skip
                      refine goes_ Try.func31 (by kernel_rfl) rfl #[.agg #[.string a0_0, .int .i64 a0_1, .int .i64 a0_2, .int .i64 a0_3], .agg #[.int .i64 ((rd_T41 t370 x5_1).f0), .int .i64 ((rd_T41 t370 x5_1).f1)]] (by rfl) rfl rfl (by (try simp only [List.map_toArray, List.map_cons, List.map_nil]); first | done | rfl | (simp only [List.length_drop, List.length_take]; rfl)) ?_
                      with_reducible refine (riverbankref08_Make.calls k1 a0_0 a0_1 a0_2 a0_3 ((rd_T41 t370 x5_1).f0) ((rd_T41 t370 x5_1).f1) t376 t377 t378 t379 t380 t381 _ A16.out).mono ?_
                      rintro e w25 ⟨rfl, hb⟩
                      have HS4_ := (hb.cell (World.block_lt_of_cell? _ _ (hHeld.2.2.2.2.1))).trans (hHeld.2.2.2.2.1)
                      have HS5_ := (hb.cell (World.block_lt_of_cell? _ _ (hHeld.2.2.2.2.2))).trans (hHeld.2.2.2.2.2)
                      refine ⟨_, rfl, ?_⟩
                      have n0_ := Aside0.mk (Kd.R_below (by (with_reducible repeat (first | apply Kd.R_alloc | apply Kd.R_drewN | apply Kd.R_drew)); exact HO_3.out) hb)
                      have n1_ := Aside0.mk (blk_below (g := gb368) (o := .cells #[.string a0_0, .int .i64 a0_1, .int .i64 a0_2, .int .i64 a0_3] 29 (0, 0)) (by (with_reducible repeat (first | refine blk_drewN ?_ _ | refine blk_drew ?_ | refine blk_alloc ?_ _)); exact BK368.out) hb)
                      have n2_ := Aside0.mk (below_step (by repeat (first | (with_reducible first | exact HB.out | apply below_alloc | apply pw_below_drewN | apply below_drew1 | refine below_set ?_ GE368.out) | exact HB.out)) hb)
                      clear HO_3
                      clear BK368
                      clear HB
                      have HO_3 := n0_
                      have BK368 := n1_
                      have HB := n2_
                      clear n0_ n1_ n2_
                      (try clear hb)
                      (try clear hb2)
                      (try clear hk)
                      (try clear hi)
                      refine hK.out _ _ ⟨(blk_cell BK368.out 0).trans rfl, (blk_cell BK368.out 1).trans rfl, (blk_cell BK368.out 2).trans rfl, (blk_cell BK368.out 3).trans rfl, HS4_, HS5_⟩ (fun hHeld => ?_)
                      clear hK K
                      refine norm_ (a' := ?_) ?_ ?_
                      rotate_left
                      · show Act.put _ (some 30) _ = _
                        simp only [Act.put, List.setIfInBounds_toArray, List.set_cons_zero, List.set_cons_succ, i64_w, i32_w]
                        rfl
                      refine pure_ (i := 6) (N := some 24) (v := ?_) (a' := ?_) #[true, true, true, true, true, true, true, false, false, false, false, false, false, false] rfl rfl (any_of HT_.out (by kernel_rfl)) (fun _ _ _ h => h) (Or.inl ⟨by rfl, ?_⟩) ?_ ?_
                      rotate_left
                      · intro w'
                        go_simp
                        with_reducible rfl
                      rotate_left
                      · simp only [Act.put, List.setIfInBounds_toArray, List.set_cons_zero, List.set_cons_succ, i64_w, i32_w]
                        rfl
                      refine pure_ (i := 7) (N := some 31) (v := ?_) (a' := ?_) #[true, true, true, true, true, true, true, true, false, false, false, false, false, false] rfl rfl (any_of HT_.out (by kernel_rfl)) (fun _ _ _ h => h) (Or.inl ⟨by rfl, ?_⟩) ?_ ?_
                      rotate_left
                      · intro w'
                        go_simp
                        with_reducible rfl
                      rotate_left
                      · simp only [Act.put, List.setIfInBounds_toArray, List.set_cons_zero, List.set_cons_succ, i64_w, i32_w]
                        rfl
                      refine pure_ (i := 8) (N := some 32) (v := ?_) (a' := ?_) #[true, true, true, true, true, true, true, true, true, false, false, false, false, false] rfl rfl (any_of HT_.out (by kernel_rfl)) (fun _ _ _ h => h) (Or.inl ⟨by rfl, ?_⟩) ?_ ?_
                      rotate_left
                      · intro w'
                        go_simp
                        with_reducible rfl
                      rotate_left
                      · simp only [Act.put, List.setIfInBounds_toArray, List.set_cons_zero, List.set_cons_succ, i64_w, i32_w]
                        rfl
                      refine pure_ (i := 9) (N := some 33) (v := ?_) (a' := ?_) #[true, true, true, true, true, true, true, true, true, true, false, false, false, false] rfl rfl (any_of HT_.out (by kernel_rfl)) (fun _ _ _ h => h) (Or.inl ⟨by rfl, ?_⟩) ?_ ?_
                      rotate_left
                      · intro w'
                        go_simp
                        with_reducible rfl
                      rotate_left
                      · simp only [Act.put, List.setIfInBounds_toArray, List.set_cons_zero, List.set_cons_succ, i64_w, i32_w]
                        rfl
                      refine one_ (i := 10) (N := some 6) #[true, true, true, true, true, true, true, true, true, true, true, false, false, false] rfl rfl (one_of HT_.out (by kernel_rfl)) (by decide) (fun K hK => ?_)
                      refine box_step ?hg (N := 6) ?hd (cs := #[.string (⟨#[]⟩ : ByteArray), .int .i64 0, .int .i64 0, .int .i64 0]) (t := 29) ?hr ?_; (case hd => rfl); (case hg => rfl); (case hr => first | (go_simp; done) | (go_simp; rfl))
                      intro gb382 hg w26 hbox hb
                      have HS4_ := (hb.cell (World.block_lt_of_cell? _ _ (hHeld.2.2.2.2.1))).trans (hHeld.2.2.2.2.1)
                      have HS5_ := (hb.cell (World.block_lt_of_cell? _ _ (hHeld.2.2.2.2.2))).trans (hHeld.2.2.2.2.2)
                      have n0_ := Aside0.mk (Kd.R_below (by (with_reducible repeat (first | apply Kd.R_alloc | apply Kd.R_drewN | apply Kd.R_drew)); exact HO_3.out) hb)
                      have n1_ := Aside0.mk (blk_below (g := gb368) (o := .cells #[.string a0_0, .int .i64 a0_1, .int .i64 a0_2, .int .i64 a0_3] 29 (0, 0)) (by (with_reducible repeat (first | refine blk_drewN ?_ _ | refine blk_drew ?_ | refine blk_alloc ?_ _)); exact BK368.out) hb)
                      have n2_ := Aside0.mk (below_step (by repeat (first | (with_reducible first | exact HB.out | apply below_alloc | apply pw_below_drewN | apply below_drew1 | refine below_set ?_ GE368.out) | exact HB.out)) hb)
                      have n3_ := Aside0.mk (hbox)
                      have n4_ := Aside0.mk ((by rw [hg]; exact (below_size (by repeat (first | (with_reducible first | exact HB.out | apply below_alloc | apply pw_below_drewN | apply below_drew1 | refine below_set ?_ GE368.out) | exact HB.out))) : w.heap.size ≤ gb382))
                      have n5_ := Aside0.mk ((by rw [hg]; exact (below_size (by repeat (first | (with_reducible first | exact HB.out | apply below_alloc | apply pw_below_drewN | apply below_drew1 | refine below_set ?_ GE368.out) | exact HB.out))) : w.heap.size ≤ gb382))
                      have n6_ := Aside0.mk ((by rw [hg]; exact Nat.ne_of_lt (blk_lt (g := gb368) (o := .cells #[.string a0_0, .int .i64 a0_1, .int .i64 a0_2, .int .i64 a0_3] 29 (0, 0)) (by (with_reducible repeat (first | refine blk_drewN ?_ _ | refine blk_drew ?_ | refine blk_alloc ?_ _)); exact BK368.out)) : gb368 ≠ gb382))
                      have n7_ := Aside0.mk ((by rw [hg]; exact Nat.ne_of_gt (blk_lt (g := gb368) (o := .cells #[.string a0_0, .int .i64 a0_1, .int .i64 a0_2, .int .i64 a0_3] 29 (0, 0)) (by (with_reducible repeat (first | refine blk_drewN ?_ _ | refine blk_drew ?_ | refine blk_alloc ?_ _)); exact BK368.out)) : gb382 ≠ gb368))
                      clear HO_3
                      clear BK368
                      clear HB
                      have HO_3 := n0_
                      have BK368 := n1_
                      have HB := n2_
                      have BK382 := n3_
                      have GW382 := n4_
                      have GE382 := n5_
                      have NB368_382 := n6_
                      have NB382_368 := n7_
                      clear n0_ n1_ n2_ n3_ n4_ n5_ n6_ n7_
                      clear hb hbox hg
                      refine hK.out _ _ ⟨(blk_cell BK368.out 0).trans rfl, (blk_cell BK368.out 1).trans rfl, (blk_cell BK368.out 2).trans rfl, (blk_cell BK368.out 3).trans rfl, HS4_, HS5_⟩ (fun hHeld => ?_)
                      clear hK K
                      refine norm_ (a' := ?_) ?_ ?_
                      rotate_left
                      · show Act.put _ (some 6) _ = _
                        simp only [Act.put, List.setIfInBounds_toArray, List.set_cons_zero, List.set_cons_succ, i64_w, i32_w]
                        rfl
                      exact norm_ (by simp only [putAll, Act.put, List.setIfInBounds_toArray, List.set_cons_zero, List.set_cons_succ]) (hCont (gb382) _ ⟨hHeld, (by (with_reducible repeat (first | apply Kd.R_alloc | apply Kd.R_drewN | apply Kd.R_drew)); exact HO_3.out), (by (with_reducible repeat (first | refine blk_drewN ?_ _ | refine blk_drew ?_ | refine blk_alloc ?_ _)); exact BK368.out), (by (with_reducible repeat (first | refine blk_drewN ?_ _ | refine blk_drew ?_ | refine blk_alloc ?_ _)); exact BK382.out), GW382.out, GE382.out, NB368_382.out, NB382_368.out, (by repeat (first | (with_reducible first | exact HB.out | apply below_alloc | apply pw_below_drewN | apply below_drew1 | refine below_set ?_ GE368.out | refine below_set ?_ GE382.out) | exact HB.out))⟩)
                    · skip
                      refine box_step ?hg (N := 6) ?hd (cs := #[.string (⟨#[]⟩ : ByteArray), .int .i64 0, .int .i64 0, .int .i64 0]) (t := 29) ?hr ?_; (case hd => rfl); (case hg => rfl); (case hr => first | (go_simp; done) | (go_simp; rfl))
                      intro gb382 hg w25 hbox hb
                      have HS4_ := (hb.cell (World.block_lt_of_cell? _ _ (hHeld.2.2.2.2.1))).trans (hHeld.2.2.2.2.1)
                      have HS5_ := (hb.cell (World.block_lt_of_cell? _ _ (hHeld.2.2.2.2.2))).trans (hHeld.2.2.2.2.2)
                      have n0_ := Aside0.mk (Kd.R_below (by (with_reducible repeat (first | apply Kd.R_alloc | apply Kd.R_drewN | apply Kd.R_drew)); exact HO_3.out) hb)
                      have n1_ := Aside0.mk (blk_below (g := gb368) (o := .cells #[.string a0_0, .int .i64 a0_1, .int .i64 a0_2, .int .i64 a0_3] 29 (0, 0)) (by (with_reducible repeat (first | refine blk_drewN ?_ _ | refine blk_drew ?_ | refine blk_alloc ?_ _)); exact BK368.out) hb)
                      have n2_ := Aside0.mk (below_step (by repeat (first | (with_reducible first | exact HB.out | apply below_alloc | apply pw_below_drewN | apply below_drew1 | refine below_set ?_ GE368.out) | exact HB.out)) hb)
                      have n3_ := Aside0.mk (hbox)
                      have n4_ := Aside0.mk ((by rw [hg]; exact (below_size (by repeat (first | (with_reducible first | exact HB.out | apply below_alloc | apply pw_below_drewN | apply below_drew1 | refine below_set ?_ GE368.out) | exact HB.out))) : w.heap.size ≤ gb382))
                      have n5_ := Aside0.mk ((by rw [hg]; exact (below_size (by repeat (first | (with_reducible first | exact HB.out | apply below_alloc | apply pw_below_drewN | apply below_drew1 | refine below_set ?_ GE368.out) | exact HB.out))) : w.heap.size ≤ gb382))
                      have n6_ := Aside0.mk ((by rw [hg]; exact Nat.ne_of_lt (blk_lt (g := gb368) (o := .cells #[.string a0_0, .int .i64 a0_1, .int .i64 a0_2, .int .i64 a0_3] 29 (0, 0)) (by (with_reducible repeat (first | refine blk_drewN ?_ _ | refine blk_drew ?_ | refine blk_alloc ?_ _)); exact BK368.out)) : gb368 ≠ gb382))
                      have n7_ := Aside0.mk ((by rw [hg]; exact Nat.ne_of_gt (blk_lt (g := gb368) (o := .cells #[.string a0_0, .int .i64 a0_1, .int .i64 a0_2, .int .i64 a0_3] 29 (0, 0)) (by (with_reducible repeat (first | refine blk_drewN ?_ _ | refine blk_drew ?_ | refine blk_alloc ?_ _)); exact BK368.out)) : gb382 ≠ gb368))
                      clear HO_3
                      clear BK368
                      clear HB
                      have HO_3 := n0_
                      have BK368 := n1_
                      have HB := n2_
                      have BK382 := n3_
                      have GW382 := n4_
                      have GE382 := n5_
                      have NB368_382 := n6_
                      have NB382_368 := n7_
                      clear n0_ n1_ n2_ n3_ n4_ n5_ n6_ n7_
                      clear hb hbox hg
                      refine hK.out _ _ ⟨(blk_cell BK368.out 0).trans rfl, (blk_cell BK368.out 1).trans rfl, (blk_cell BK368.out 2).trans rfl, (blk_cell BK368.out 3).trans rfl, HS4_, HS5_⟩ (fun hHeld => ?_)
                      clear hK K
                      refine norm_ (a' := ?_) ?_ ?_
                      rotate_left
                      · show Act.put _ (some 6) _ = _
                        simp only [Act.put, List.setIfInBounds_toArray, List.set_cons_zero, List.set_cons_succ, i64_w, i32_w]
                        rfl
                      refine one_ (i := 5) (N := some 30) #[true, true, true, true, true, true, false, false, false, false, true, false, false, false] rfl rfl (one_of HT_.out (by kernel_rfl)) (by decide) (fun K hK => ?_)
                      refine goes_ Try.func31 (by kernel_rfl) rfl #[.agg #[.string a0_0, .int .i64 a0_1, .int .i64 a0_2, .int .i64 a0_3], .agg #[.int .i64 ((rd_T41 t370 x5_1).f0), .int .i64 ((rd_T41 t370 x5_1).f1)]] (by rfl) rfl rfl (by (try simp only [List.map_toArray, List.map_cons, List.map_nil]); first | done | rfl | (simp only [List.length_drop, List.length_take]; rfl)) ?_
                      with_reducible refine (riverbankref08_Make.calls k1 a0_0 a0_1 a0_2 a0_3 ((rd_T41 t370 x5_1).f0) ((rd_T41 t370 x5_1).f1) t376 t377 t378 t379 t380 t381 _ A16.out).mono ?_
                      rintro e w26 ⟨rfl, hb⟩
                      have HS4_ := (hb.cell (World.block_lt_of_cell? _ _ (hHeld.2.2.2.2.1))).trans (hHeld.2.2.2.2.1)
                      have HS5_ := (hb.cell (World.block_lt_of_cell? _ _ (hHeld.2.2.2.2.2))).trans (hHeld.2.2.2.2.2)
                      refine ⟨_, rfl, ?_⟩
                      have n0_ := Aside0.mk (Kd.R_below (by (with_reducible repeat (first | apply Kd.R_alloc | apply Kd.R_drewN | apply Kd.R_drew)); exact HO_3.out) hb)
                      have n1_ := Aside0.mk (blk_below (g := gb368) (o := .cells #[.string a0_0, .int .i64 a0_1, .int .i64 a0_2, .int .i64 a0_3] 29 (0, 0)) (by (with_reducible repeat (first | refine blk_drewN ?_ _ | refine blk_drew ?_ | refine blk_alloc ?_ _)); exact BK368.out) hb)
                      have n2_ := Aside0.mk (blk_below (g := gb382) (o := .cells #[.string (⟨#[]⟩ : ByteArray), .int .i64 0, .int .i64 0, .int .i64 0] 29 (0, 0)) (by (with_reducible repeat (first | refine blk_drewN ?_ _ | refine blk_drew ?_ | refine blk_alloc ?_ _)); exact BK382.out) hb)
                      have n3_ := Aside0.mk (below_step (by repeat (first | (with_reducible first | exact HB.out | apply below_alloc | apply pw_below_drewN | apply below_drew1 | refine below_set ?_ GE368.out | refine below_set ?_ GE382.out) | exact HB.out)) hb)
                      clear HO_3
                      clear BK368
                      clear BK382
                      clear HB
                      have HO_3 := n0_
                      have BK368 := n1_
                      have BK382 := n2_
                      have HB := n3_
                      clear n0_ n1_ n2_ n3_
                      (try clear hb)
                      (try clear hb2)
                      (try clear hk)
                      (try clear hi)
                      refine hK.out _ _ ⟨(blk_cell BK368.out 0).trans rfl, (blk_cell BK368.out 1).trans rfl, (blk_cell BK368.out 2).trans rfl, (blk_cell BK368.out 3).trans rfl, HS4_, HS5_⟩ (fun hHeld => ?_)
                      clear hK K
                      refine norm_ (a' := ?_) ?_ ?_
                      rotate_left
                      · show Act.put _ (some 30) _ = _
                        simp only [Act.put, List.setIfInBounds_toArray, List.set_cons_zero, List.set_cons_succ, i64_w, i32_w]
                        rfl
                      refine pure_ (i := 6) (N := some 24) (v := ?_) (a' := ?_) #[true, true, true, true, true, true, true, false, false, false, true, false, false, false] rfl rfl (any_of HT_.out (by kernel_rfl)) (fun _ _ _ h => h) (Or.inl ⟨by rfl, ?_⟩) ?_ ?_
                      rotate_left
                      · intro w'
                        go_simp
                        with_reducible rfl
                      rotate_left
                      · simp only [Act.put, List.setIfInBounds_toArray, List.set_cons_zero, List.set_cons_succ, i64_w, i32_w]
                        rfl
                      refine pure_ (i := 7) (N := some 31) (v := ?_) (a' := ?_) #[true, true, true, true, true, true, true, true, false, false, true, false, false, false] rfl rfl (any_of HT_.out (by kernel_rfl)) (fun _ _ _ h => h) (Or.inl ⟨by rfl, ?_⟩) ?_ ?_
                      rotate_left
                      · intro w'
                        go_simp
                        with_reducible rfl
                      rotate_left
                      · simp only [Act.put, List.setIfInBounds_toArray, List.set_cons_zero, List.set_cons_succ, i64_w, i32_w]
                        rfl
                      refine pure_ (i := 8) (N := some 32) (v := ?_) (a' := ?_) #[true, true, true, true, true, true, true, true, true, false, true, false, false, false] rfl rfl (any_of HT_.out (by kernel_rfl)) (fun _ _ _ h => h) (Or.inl ⟨by rfl, ?_⟩) ?_ ?_
                      rotate_left
                      · intro w'
                        go_simp
                        with_reducible rfl
                      rotate_left
                      · simp only [Act.put, List.setIfInBounds_toArray, List.set_cons_zero, List.set_cons_succ, i64_w, i32_w]
                        rfl
                      refine pure_ (i := 9) (N := some 33) (v := ?_) (a' := ?_) #[true, true, true, true, true, true, true, true, true, true, true, false, false, false] rfl rfl (any_of HT_.out (by kernel_rfl)) (fun _ _ _ h => h) (Or.inl ⟨by rfl, ?_⟩) ?_ ?_
                      rotate_left
                      · intro w'
                        go_simp
                        with_reducible rfl
                      rotate_left
                      · simp only [Act.put, List.setIfInBounds_toArray, List.set_cons_zero, List.set_cons_succ, i64_w, i32_w]
                        rfl
                      exact norm_ (by simp only [putAll, Act.put, List.setIfInBounds_toArray, List.set_cons_zero, List.set_cons_succ]) (hCont (gb382) _ ⟨hHeld, (by (with_reducible repeat (first | apply Kd.R_alloc | apply Kd.R_drewN | apply Kd.R_drew)); exact HO_3.out), (by (with_reducible repeat (first | refine blk_drewN ?_ _ | refine blk_drew ?_ | refine blk_alloc ?_ _)); exact BK368.out), (by (with_reducible repeat (first | refine blk_drewN ?_ _ | refine blk_drew ?_ | refine blk_alloc ?_ _)); exact BK382.out), GW382.out, GE382.out, NB368_382.out, NB382_368.out, (by repeat (first | (with_reducible first | exact HB.out | apply below_alloc | apply pw_below_drewN | apply below_drew1 | refine below_set ?_ GE368.out | refine below_set ?_ GE382.out) | exact HB.out))⟩)
                  rintro gb382 w27 ⟨hS_, h0_, h1_, h2_, h3_, h4_, h5_, h6_, h7_⟩
                  have n0_ : Aside0 (Kd.R k41 41 w27 w.heap.size (fun _ => True) (.slice (some ad375) t370.length co23) t370) := ⟨h0_⟩
                  have n1_ : Aside0 (w27.heap[gb368]? = some (.cells #[.string a0_0, .int .i64 a0_1, .int .i64 a0_2, .int .i64 a0_3] 29 (0, 0))) := ⟨h1_⟩
                  have n2_ : Aside0 (w27.heap[gb382]? = some (.cells #[.string (⟨#[]⟩ : ByteArray), .int .i64 0, .int .i64 0, .int .i64 0] 29 (0, 0))) := ⟨h2_⟩
                  have n3_ : Aside0 (w.heap.size ≤ gb382) := ⟨h3_⟩
                  have n4_ : Aside0 (w.heap.size ≤ gb382) := ⟨h4_⟩
                  have n5_ : Aside0 (gb368 ≠ gb382) := ⟨h5_⟩
                  have n6_ : Aside0 (gb382 ≠ gb368) := ⟨h6_⟩
                  have n7_ : Aside0 (Below w.heap.size w w27) := ⟨h7_⟩
                  clear HO_3
                  clear BK368
                  clear HB
                  clear h0_ h1_ h2_ h3_ h4_ h5_ h6_ h7_
                  have HO_3 := n0_
                  have BK368 := n1_
                  have BK382 := n2_
                  have GW382 := n3_
                  have GE382 := n4_
                  have NB368_382 := n5_
                  have NB382_368 := n6_
                  have HB := n7_
                  clear n0_ n1_ n2_ n3_ n4_ n5_ n6_ n7_
                  have hHeld : w27.cell? ⟨gb368, 0, none⟩ = some (.string a0_0) ∧ w27.cell? ⟨gb368, 1, none⟩ = some (.int .i64 a0_1) ∧ w27.cell? ⟨gb368, 2, none⟩ = some (.int .i64 a0_2) ∧ w27.cell? ⟨gb368, 3, none⟩ = some (.int .i64 a0_3) ∧ w27.cell? (ad375.add ((x5_1).toNat * 2)) = some (.int .i64 ((rd_T41 t370 x5_1).f0)) ∧ w27.cell? ⟨(ad375.add ((x5_1).toNat * 2)).block, (ad375.add ((x5_1).toNat * 2)).off + 1, none⟩ = some (.int .i64 ((rd_T41 t370 x5_1).f1)) := hS_
                  refine norm_ (a' := ?_) ?_ ?_
                  rotate_left
                  · simp only [putAll, Act.put, List.setIfInBounds_toArray, List.set_cons_zero, List.set_cons_succ]
                    rfl
                  refine one_ (i := 11) (N := none) #[true, true, true, true, true, true, true, true, true, true, true, true, false, false] rfl rfl (one_of HT_.out (by kernel_rfl)) (by decide) (fun K hK => ?_)
                  have hs28 : w27.cell? ⟨gb382, 0, none⟩ = some (.string (⟨#[]⟩ : ByteArray)) := (blk_cell BK382.out 0).trans rfl
                  have hfs28 := blk_frozen BK382.out 0
                  have hns28_0 := NB368_382.out
                  have hms28_0 := NB382_368.out
                  have hs29 : w27.cell? ⟨gb382, 1, none⟩ = some (.int .i64 0) := (blk_cell BK382.out 1).trans rfl
                  have hfs29 := blk_frozen BK382.out 1
                  have hns29_0 := NB368_382.out
                  have hms29_0 := NB382_368.out
                  have hs30 : w27.cell? ⟨gb382, 2, none⟩ = some (.int .i64 0) := (blk_cell BK382.out 2).trans rfl
                  have hfs30 := blk_frozen BK382.out 2
                  have hns30_0 := NB368_382.out
                  have hms30_0 := NB382_368.out
                  have hs31 : w27.cell? ⟨gb382, 3, none⟩ = some (.int .i64 0) := (blk_cell BK382.out 3).trans rfl
                  have hfs31 := blk_frozen BK382.out 3
                  have hns31_0 := NB368_382.out
                  have hms31_0 := NB382_368.out
                  refine skip_ (w1 := ?_) (by rfl) rfl ?_ ?_
                  rotate_left
                  · go_simp
                    rfl
                  refine hK.out _ _ ⟨((cell_far (p := ⟨gb382, _, none⟩) NB368_382.out _).trans (((cell_far (p := ⟨gb382, _, none⟩) NB368_382.out _).trans (((cell_far (p := ⟨gb382, _, none⟩) NB368_382.out _).trans (((cell_far (p := ⟨gb382, _, none⟩) NB368_382.out _).trans (hHeld.1)))))))), ((cell_far (p := ⟨gb382, _, none⟩) NB368_382.out _).trans (((cell_far (p := ⟨gb382, _, none⟩) NB368_382.out _).trans (((cell_far (p := ⟨gb382, _, none⟩) NB368_382.out _).trans (((cell_far (p := ⟨gb382, _, none⟩) NB368_382.out _).trans (hHeld.2.1)))))))), ((cell_far (p := ⟨gb382, _, none⟩) NB368_382.out _).trans (((cell_far (p := ⟨gb382, _, none⟩) NB368_382.out _).trans (((cell_far (p := ⟨gb382, _, none⟩) NB368_382.out _).trans (((cell_far (p := ⟨gb382, _, none⟩) NB368_382.out _).trans (hHeld.2.2.1)))))))), ((cell_far (p := ⟨gb382, _, none⟩) NB368_382.out _).trans (((cell_far (p := ⟨gb382, _, none⟩) NB368_382.out _).trans (((cell_far (p := ⟨gb382, _, none⟩) NB368_382.out _).trans (((cell_far (p := ⟨gb382, _, none⟩) NB368_382.out _).trans (hHeld.2.2.2.1)))))))), ((cell_far (p := ⟨gb382, _, none⟩) (by first | exact Kd.own_blk (Kd.R_ne HO_3.out BK382.out (by decide)) | (rw [add_block]; exact Kd.own_blk (Kd.R_ne HO_3.out BK382.out (by decide))) | (show (Addr.add _ _).block ≠ _; rw [add_block]; exact Kd.own_blk (Kd.R_ne HO_3.out BK382.out (by decide))) | (dsimp only; exact Kd.own_blk (Kd.R_ne HO_3.out BK382.out (by decide)))) _).trans (((cell_far (p := ⟨gb382, _, none⟩) (by first | exact Kd.own_blk (Kd.R_ne HO_3.out BK382.out (by decide)) | (rw [add_block]; exact Kd.own_blk (Kd.R_ne HO_3.out BK382.out (by decide))) | (show (Addr.add _ _).block ≠ _; rw [add_block]; exact Kd.own_blk (Kd.R_ne HO_3.out BK382.out (by decide))) | (dsimp only; exact Kd.own_blk (Kd.R_ne HO_3.out BK382.out (by decide)))) _).trans (((cell_far (p := ⟨gb382, _, none⟩) (by first | exact Kd.own_blk (Kd.R_ne HO_3.out BK382.out (by decide)) | (rw [add_block]; exact Kd.own_blk (Kd.R_ne HO_3.out BK382.out (by decide))) | (show (Addr.add _ _).block ≠ _; rw [add_block]; exact Kd.own_blk (Kd.R_ne HO_3.out BK382.out (by decide))) | (dsimp only; exact Kd.own_blk (Kd.R_ne HO_3.out BK382.out (by decide)))) _).trans (((cell_far (p := ⟨gb382, _, none⟩) (by first | exact Kd.own_blk (Kd.R_ne HO_3.out BK382.out (by decide)) | (rw [add_block]; exact Kd.own_blk (Kd.R_ne HO_3.out BK382.out (by decide))) | (show (Addr.add _ _).block ≠ _; rw [add_block]; exact Kd.own_blk (Kd.R_ne HO_3.out BK382.out (by decide))) | (dsimp only; exact Kd.own_blk (Kd.R_ne HO_3.out BK382.out (by decide)))) _).trans (hHeld.2.2.2.2.1)))))))), ((cell_far (p := ⟨gb382, _, none⟩) (by first | exact Kd.own_blk (Kd.R_ne HO_3.out BK382.out (by decide)) | (rw [add_block]; exact Kd.own_blk (Kd.R_ne HO_3.out BK382.out (by decide))) | (show (Addr.add _ _).block ≠ _; rw [add_block]; exact Kd.own_blk (Kd.R_ne HO_3.out BK382.out (by decide))) | (dsimp only; exact Kd.own_blk (Kd.R_ne HO_3.out BK382.out (by decide)))) _).trans (((cell_far (p := ⟨gb382, _, none⟩) (by first | exact Kd.own_blk (Kd.R_ne HO_3.out BK382.out (by decide)) | (rw [add_block]; exact Kd.own_blk (Kd.R_ne HO_3.out BK382.out (by decide))) | (show (Addr.add _ _).block ≠ _; rw [add_block]; exact Kd.own_blk (Kd.R_ne HO_3.out BK382.out (by decide))) | (dsimp only; exact Kd.own_blk (Kd.R_ne HO_3.out BK382.out (by decide)))) _).trans (((cell_far (p := ⟨gb382, _, none⟩) (by first | exact Kd.own_blk (Kd.R_ne HO_3.out BK382.out (by decide)) | (rw [add_block]; exact Kd.own_blk (Kd.R_ne HO_3.out BK382.out (by decide))) | (show (Addr.add _ _).block ≠ _; rw [add_block]; exact Kd.own_blk (Kd.R_ne HO_3.out BK382.out (by decide))) | (dsimp only; exact Kd.own_blk (Kd.R_ne HO_3.out BK382.out (by decide)))) _).trans (((cell_far (p := ⟨gb382, _, none⟩) (by first | exact Kd.own_blk (Kd.R_ne HO_3.out BK382.out (by decide)) | (rw [add_block]; exact Kd.own_blk (Kd.R_ne HO_3.out BK382.out (by decide))) | (show (Addr.add _ _).block ≠ _; rw [add_block]; exact Kd.own_blk (Kd.R_ne HO_3.out BK382.out (by decide))) | (dsimp only; exact Kd.own_blk (Kd.R_ne HO_3.out BK382.out (by decide)))) _).trans (hHeld.2.2.2.2.2))))))))⟩ (fun hHeld => ?_)
                  clear hK K
                  refine pure_ (i := 12) (N := some 7) (v := ?_) (a' := ?_) #[true, true, true, true, true, true, true, true, true, true, true, true, true, false] rfl rfl (any_of HT_.out (by kernel_rfl)) (fun _ _ _ h => h) (Or.inl ⟨by rfl, ?_⟩) ?_ ?_
                  rotate_left
                  · intro w'
                    go_simp
                    with_reducible rfl
                  rotate_left
                  · simp only [Act.put, List.setIfInBounds_toArray, List.set_cons_zero, List.set_cons_succ, i64_w, i32_w]
                    rfl
                  refine pure_ (i := 13) (N := some 8) (v := ?_) (a' := ?_) #[true, true, true, true, true, true, true, true, true, true, true, true, true, true] rfl rfl (any_of HT_.out (by kernel_rfl)) (fun _ _ _ h => h) (Or.inl ⟨by rfl, ?_⟩) ?_ ?_
                  rotate_left
                  · intro w'
                    go_simp
                    with_reducible rfl
                  rotate_left
                  · simp only [Act.put, List.setIfInBounds_toArray, List.set_cons_zero, List.set_cons_succ, i64_w, i32_w]
                    rfl
                  refine done_ (done_of HT_.out (by kernel_rfl)) ?_
                  try go_wp2
                  have n0_ : Aside0 (Kd.R k41 41 ((((w27.setCell ⟨gb382, 0, none⟩ (.string t376)).setCell ⟨gb382, 1, none⟩ (.int .i64 t377)).setCell ⟨gb382, 2, none⟩ (.int .i64 t378)).setCell ⟨gb382, 3, none⟩ (.int .i64 t379)) w.heap.size (fun _ => True) (.slice (some ad375) t370.length co23) t370) := ⟨by (with_reducible repeat (first | apply Kd.R_alloc | apply Kd.R_drewN | apply Kd.R_drew)); exact Kd.R_mono (Kd.R_far (p := ⟨gb382, 3, none⟩) (Kd.R_far (p := ⟨gb382, 2, none⟩) (Kd.R_far (p := ⟨gb382, 1, none⟩) (Kd.R_far (p := ⟨gb382, 0, none⟩) (Kd.R_types HO_3.out BK382.out (by decide)) (fun _ hk => hk.2) (.string t376)) (fun _ hk => hk.2) (.int .i64 t377)) (fun _ hk => hk.2) (.int .i64 t378)) (fun _ hk => hk.2) (.int .i64 t379)) (fun _ hk => trivial)⟩
                  have n1_ : Aside0 (((((w27.setCell ⟨gb382, 0, none⟩ (.string t376)).setCell ⟨gb382, 1, none⟩ (.int .i64 t377)).setCell ⟨gb382, 2, none⟩ (.int .i64 t378)).setCell ⟨gb382, 3, none⟩ (.int .i64 t379)).heap[gb368]? = some (.cells #[.string a0_0, .int .i64 a0_1, .int .i64 a0_2, .int .i64 a0_3] 29 (0, 0))) := ⟨by (with_reducible repeat (first | refine blk_drewN ?_ _ | refine blk_drew ?_ | refine blk_alloc ?_ _)); refine blk_far ?_ NB368_382.out _; (with_reducible repeat (first | refine blk_drewN ?_ _ | refine blk_drew ?_ | refine blk_alloc ?_ _)); refine blk_far ?_ NB368_382.out _; (with_reducible repeat (first | refine blk_drewN ?_ _ | refine blk_drew ?_ | refine blk_alloc ?_ _)); refine blk_far ?_ NB368_382.out _; (with_reducible repeat (first | refine blk_drewN ?_ _ | refine blk_drew ?_ | refine blk_alloc ?_ _)); refine blk_far ?_ NB368_382.out _; (with_reducible repeat (first | refine blk_drewN ?_ _ | refine blk_drew ?_ | refine blk_alloc ?_ _)); exact BK368.out⟩
                  have n2_ : Aside0 (((((w27.setCell ⟨gb382, 0, none⟩ (.string t376)).setCell ⟨gb382, 1, none⟩ (.int .i64 t377)).setCell ⟨gb382, 2, none⟩ (.int .i64 t378)).setCell ⟨gb382, 3, none⟩ (.int .i64 t379)).heap[gb382]? = some (.cells #[.string t376, .int .i64 t377, .int .i64 t378, .int .i64 t379] 29 (0, 0))) := ⟨by (with_reducible repeat (first | refine blk_drewN ?_ _ | refine blk_drew ?_ | refine blk_alloc ?_ _)); refine blk_put (cs := #[.string t376, .int .i64 t377, .int .i64 t378, .int .i64 0]) ?_ 3 _ rfl; (with_reducible repeat (first | refine blk_drewN ?_ _ | refine blk_drew ?_ | refine blk_alloc ?_ _)); refine blk_put (cs := #[.string t376, .int .i64 t377, .int .i64 0, .int .i64 0]) ?_ 2 _ rfl; (with_reducible repeat (first | refine blk_drewN ?_ _ | refine blk_drew ?_ | refine blk_alloc ?_ _)); refine blk_put (cs := #[.string t376, .int .i64 0, .int .i64 0, .int .i64 0]) ?_ 1 _ rfl; (with_reducible repeat (first | refine blk_drewN ?_ _ | refine blk_drew ?_ | refine blk_alloc ?_ _)); refine blk_put (cs := #[.string (⟨#[]⟩ : ByteArray), .int .i64 0, .int .i64 0, .int .i64 0]) ?_ 0 _ rfl; (with_reducible repeat (first | refine blk_drewN ?_ _ | refine blk_drew ?_ | refine blk_alloc ?_ _)); exact BK382.out⟩
                  have n3_ : Aside0 (Below w.heap.size w ((((w27.setCell ⟨gb382, 0, none⟩ (.string t376)).setCell ⟨gb382, 1, none⟩ (.int .i64 t377)).setCell ⟨gb382, 2, none⟩ (.int .i64 t378)).setCell ⟨gb382, 3, none⟩ (.int .i64 t379))) := ⟨by repeat (first | (with_reducible first | exact HB.out | apply below_alloc | apply pw_below_drewN | apply below_drew1 | refine below_set ?_ GE368.out | refine below_set ?_ GE382.out) | exact HB.out)⟩
                  (try clear HO_3)
                  (try clear BK368)
                  (try clear BK382)
                  (try clear HB)
                  generalize ((((w27.setCell ⟨gb382, 0, none⟩ (.string t376)).setCell ⟨gb382, 1, none⟩ (.int .i64 t377)).setCell ⟨gb382, 2, none⟩ (.int .i64 t378)).setCell ⟨gb382, 3, none⟩ (.int .i64 t379)) = w32 at n0_ n1_ n2_ n3_ ⊢
                  have HO_3 := n0_
                  have BK368 := n1_
                  have BK382 := n2_
                  have HB := n3_
                  clear n0_ n1_ n2_ n3_
                  have n0_ := Aside0.mk (Kd.R_drew HO_3.out)
                  have n1_ := Aside0.mk (blk_drew BK368.out)
                  have n2_ := Aside0.mk (blk_drew BK382.out)
                  have n3_ := Aside0.mk (below_drew1 HB.out)
                  clear HO_3
                  clear BK368
                  clear BK382
                  clear HB
                  have HO_3 := n0_
                  have BK368 := n1_
                  have BK382 := n2_
                  have HB := n3_
                  clear n0_ n1_ n2_ n3_
                  have p383 : 0 ≤ (x5_1 : Int) := of_decide_eq_true (by first | (with_reducible assumption) | assumption)
                  have q383 : x5_1 < (t370.length : Int) := of_decide_eq_true (by first | (with_reducible assumption) | assumption)
                  obtain ⟨ad383, e383, hx383_0, hx383_1⟩ := at_T41 (Kd.R_reads' HO_3.out).2.2 x5_1 p383 q383
                  obtain rfl : ad375 = ad383 := (by injection e383)
                  replace p383 := eq_true p383
                  replace q383 := eq_true q383
                  have p19 : 0 ≤ (((rd_T41 t370 x5_1).f0) : Int) := of_decide_eq_true (by first | (with_reducible assumption) | assumption)
                  have q19 : ((rd_T41 t370 x5_1).f0) < (a0_0.size : Int) := of_decide_eq_true (by first | (with_reducible assumption) | assumption)
                  have hx19 := bt_at a0_0 ((rd_T41 t370 x5_1).f0)
                  replace p19 := eq_true p19
                  replace q19 := eq_true q19
                  have p384 : 0 ≤ (x5_1 : Int) := of_decide_eq_true (by first | (with_reducible assumption) | assumption)
                  have q384 : x5_1 < (t370.length : Int) := of_decide_eq_true (by first | (with_reducible assumption) | assumption)
                  obtain ⟨ad384, e384, hx384_0, hx384_1⟩ := at_T41 (Kd.R_reads' HO_3.out).2.2 x5_1 p384 q384
                  obtain rfl : ad375 = ad384 := (by injection e384)
                  replace p384 := eq_true p384
                  replace q384 := eq_true q384
                  refine start_ (n := 18) (S := fun w' => w'.cell? ⟨gb368, 0, none⟩ = some (.string a0_0) ∧ w'.cell? ⟨gb368, 1, none⟩ = some (.int .i64 a0_1) ∧ w'.cell? ⟨gb368, 2, none⟩ = some (.int .i64 a0_2) ∧ w'.cell? ⟨gb368, 3, none⟩ = some (.int .i64 a0_3) ∧ w'.cell? ⟨gb382, 0, none⟩ = some (.string t376) ∧ w'.cell? ⟨gb382, 1, none⟩ = some (.int .i64 t377) ∧ w'.cell? ⟨gb382, 2, none⟩ = some (.int .i64 t378) ∧ w'.cell? ⟨gb382, 3, none⟩ = some (.int .i64 t379) ∧ w'.cell? (ad375.add ((x5_1).toNat * 2)) = some (.int .i64 ((rd_T41 t370 x5_1).f0)) ∧ w'.cell? ⟨(ad375.add ((x5_1).toNat * 2)).block, (ad375.add ((x5_1).toNat * 2)).off + 1, none⟩ = some (.int .i64 ((rd_T41 t370 x5_1).f1)) ∧ w'.cell? (ad375.add ((x5_1).toNat * 2)) = some (.int .i64 ((rd_T41 t370 x5_1).f0)) ∧ w'.cell? ⟨(ad375.add ((x5_1).toNat * 2)).block, (ad375.add ((x5_1).toNat * 2)).off + 1, none⟩ = some (.int .i64 ((rd_T41 t370 x5_1).f1))) (ds := []) #[false, false, false, false, false, false, false, false, false, false, false, false, false, false, false, false, false, false] (by kernel_rfl) rfl rfl ⟨(blk_cell BK368.out 0).trans rfl, (blk_cell BK368.out 1).trans rfl, (blk_cell BK368.out 2).trans rfl, (blk_cell BK368.out 3).trans rfl, (blk_cell BK382.out 0).trans rfl, (blk_cell BK382.out 1).trans rfl, (blk_cell BK382.out 2).trans rfl, (blk_cell BK382.out 3).trans rfl, hx383_0, hx383_1, hx384_0, hx384_1⟩ (fun hHeld => ?_); refine with_tabW riverbanklaw14_ValueFollows.tab9 riverbanklaw14_ValueFollows.bits9 (fun HT_ HW_ => ?_)
                  generalize w32.drew = w33 at HO_3 BK368 BK382 HB hx383_0 hx383_1 hx384_0 hx384_1 hHeld ⊢
                  refine pure_ (i := 0) (N := some 34) (v := ?_) (a' := ?_) #[true, false, false, false, false, false, false, false, false, false, false, false, false, false, false, false, false, false] rfl rfl (any_of HT_.out (by kernel_rfl)) (fun _ _ _ h => h) (Or.inl ⟨by rfl, ?_⟩) ?_ ?_
                  rotate_left
                  · intro w'
                    go_simp
                    with_reducible rfl
                  rotate_left
                  · simp only [Act.put, List.setIfInBounds_toArray, List.set_cons_zero, List.set_cons_succ, i64_w, i32_w]
                    rfl
                  refine pure_ (i := 1) (N := some 35) (v := ?_) (a' := ?_) #[true, true, false, false, false, false, false, false, false, false, false, false, false, false, false, false, false, false] rfl rfl (any_of HT_.out (by kernel_rfl)) (fun _ _ _ h => h) (Or.inl ⟨by rfl, ?_⟩) ?_ ?_
                  rotate_left
                  · intro w'
                    go_simp
                    with_reducible rfl
                  rotate_left
                  · simp only [Act.put, List.setIfInBounds_toArray, List.set_cons_zero, List.set_cons_succ, i64_w, i32_w]
                    rfl
                  refine pure_ (i := 3) (N := some 37) (v := ?_) (a' := ?_) #[true, true, false, true, false, false, false, false, false, false, false, false, false, false, false, false, false, false] rfl rfl (any_of HT_.out (by kernel_rfl)) (fun _ _ _ h => h) (Or.inl ⟨by rfl, ?_⟩) ?_ ?_
                  rotate_left
                  · intro w'
                    go_simp
                    with_reducible rfl
                  rotate_left
                  · simp only [Act.put, List.setIfInBounds_toArray, List.set_cons_zero, List.set_cons_succ, i64_w, i32_w]
                    rfl
                  refine pure_ (i := 4) (N := some 38) (v := ?_) (a' := ?_) #[true, true, false, true, true, false, false, false, false, false, false, false, false, false, false, false, false, false] rfl rfl (any_of HT_.out (by kernel_rfl)) (fun _ _ _ h => h) (Or.inl ⟨by rfl, ?_⟩) ?_ ?_
                  rotate_left
                  · intro w'
                    go_simp
                    with_reducible rfl
                  rotate_left
                  · simp only [Act.put, List.setIfInBounds_toArray, List.set_cons_zero, List.set_cons_succ, i64_w, i32_w]
                    rfl
                  refine pure_ (i := 5) (N := some 39) (v := ?_) (a' := ?_) #[true, true, false, true, true, true, false, false, false, false, false, false, false, false, false, false, false, false] rfl rfl (any_of HT_.out (by kernel_rfl)) (fun _ _ _ h => h) (Or.inl ⟨by rfl, ?_⟩) ?_ ?_
                  rotate_left
                  · intro w'
                    go_simp
                    with_reducible rfl
                  rotate_left
                  · simp only [Act.put, List.setIfInBounds_toArray, List.set_cons_zero, List.set_cons_succ, i64_w, i32_w]
                    rfl
                  refine pure_ (i := 6) (N := some 40) (v := ?_) (a' := ?_) #[true, true, false, true, true, true, true, false, false, false, false, false, false, false, false, false, false, false] rfl rfl (any_of HT_.out (by kernel_rfl)) (fun _ _ _ h => h) (Or.inl ⟨by rfl, ?_⟩) ?_ ?_
                  rotate_left
                  · intro w'
                    go_simp
                    with_reducible rfl
                  rotate_left
                  · simp only [Act.put, List.setIfInBounds_toArray, List.set_cons_zero, List.set_cons_succ, i64_w, i32_w]
                    rfl
                  refine pure_ (i := 9) (N := some 43) (v := ?_) (a' := ?_) #[true, true, false, true, true, true, true, false, false, true, false, false, false, false, false, false, false, false] rfl rfl (any_of HT_.out (by kernel_rfl)) (fun _ _ _ h => h) (Or.inl ⟨by rfl, ?_⟩) ?_ ?_
                  rotate_left
                  · intro w'
                    go_simp
                    with_reducible rfl
                  rotate_left
                  · simp only [Act.put, List.setIfInBounds_toArray, List.set_cons_zero, List.set_cons_succ, i64_w, i32_w]
                    rfl
                  refine pure_ (i := 10) (N := some 44) (v := ?_) (a' := ?_) #[true, true, false, true, true, true, true, false, false, true, true, false, false, false, false, false, false, false] rfl rfl (any_of HT_.out (by kernel_rfl)) (fun _ _ _ h => h) (Or.inl ⟨by rfl, ?_⟩) ?_ ?_
                  rotate_left
                  · intro w'
                    go_simp
                    with_reducible rfl
                  rotate_left
                  · simp only [Act.put, List.setIfInBounds_toArray, List.set_cons_zero, List.set_cons_succ, i64_w, i32_w]
                    rfl
                  refine pure_ (i := 11) (N := some 45) (v := ?_) (a' := ?_) #[true, true, false, true, true, true, true, false, false, true, true, true, false, false, false, false, false, false] rfl rfl (any_of HT_.out (by kernel_rfl)) (fun _ _ _ h => h) (Or.inl ⟨by rfl, ?_⟩) ?_ ?_
                  rotate_left
                  · intro w'
                    go_simp
                    with_reducible rfl
                  rotate_left
                  · simp only [Act.put, List.setIfInBounds_toArray, List.set_cons_zero, List.set_cons_succ, i64_w, i32_w]
                    rfl
                  refine pure_ (i := 13) (N := some 47) (v := ?_) (a' := ?_) #[true, true, false, true, true, true, true, false, false, true, true, true, false, true, false, false, false, false] rfl rfl (any_of HT_.out (by kernel_rfl)) (fun _ _ _ h => h) (Or.inl ⟨by rfl, ?_⟩) ?_ ?_
                  rotate_left
                  · intro w'
                    go_simp
                    with_reducible rfl
                  rotate_left
                  · simp only [Act.put, List.setIfInBounds_toArray, List.set_cons_zero, List.set_cons_succ, i64_w, i32_w]
                    rfl
                  refine take_ (i := 2) (N := some 36) (v := ?_) (a' := ?_) #[true, true, true, true, true, true, true, false, false, true, true, true, false, true, false, false, false, false] rfl rfl (take_ofW HT_.out HW_.out (by kernel_rfl)) (fun _ _ _ h => h) (Or.inl ⟨by rfl, ?_⟩) hHeld ?_ ?_
                  rotate_left
                  · rintro w' ⟨s0, s1, s2, s3, s4, s5, s6, s7, s8, s9, s10, s11⟩
                    go_simp
                    with_reducible rfl
                  rotate_left
                  · simp only [Act.put, List.setIfInBounds_toArray, List.set_cons_zero, List.set_cons_succ, i64_w, i32_w]
                    rfl
                  refine take_ (i := 7) (N := some 41) (v := ?_) (a' := ?_) #[true, true, true, true, true, true, true, true, false, true, true, true, false, true, false, false, false, false] rfl rfl (take_ofW HT_.out HW_.out (by kernel_rfl)) (fun _ _ _ h => h) (Or.inl ⟨by rfl, ?_⟩) hHeld ?_ ?_
                  rotate_left
                  · rintro w' ⟨s0, s1, s2, s3, s4, s5, s6, s7, s8, s9, s10, s11⟩
                    go_simp
                    with_reducible rfl
                  rotate_left
                  · simp only [Act.put, List.setIfInBounds_toArray, List.set_cons_zero, List.set_cons_succ, i64_w, i32_w]
                    rfl
                  refine take_ (i := 8) (N := some 42) (v := ?_) (a' := ?_) #[true, true, true, true, true, true, true, true, true, true, true, true, false, true, false, false, false, false] rfl rfl (take_ofW HT_.out HW_.out (by kernel_rfl)) (fun _ _ _ h => h) (Or.inl ⟨by rfl, ?_⟩) hHeld ?_ ?_
                  rotate_left
                  · rintro w' ⟨s0, s1, s2, s3, s4, s5, s6, s7, s8, s9, s10, s11⟩
                    go_simp
                    with_reducible rfl
                  rotate_left
                  · simp only [Act.put, List.setIfInBounds_toArray, List.set_cons_zero, List.set_cons_succ, i64_w, i32_w]
                    rfl
                  refine take_ (i := 12) (N := some 46) (v := ?_) (a' := ?_) #[true, true, true, true, true, true, true, true, true, true, true, true, true, true, false, false, false, false] rfl rfl (take_ofW HT_.out HW_.out (by kernel_rfl)) (fun _ _ _ h => h) (Or.inl ⟨by rfl, ?_⟩) hHeld ?_ ?_
                  rotate_left
                  · rintro w' ⟨s0, s1, s2, s3, s4, s5, s6, s7, s8, s9, s10, s11⟩
                    go_simp
                    with_reducible rfl
                  rotate_left
                  · simp only [Act.put, List.setIfInBounds_toArray, List.set_cons_zero, List.set_cons_succ, i64_w, i32_w]
                    rfl
                  refine take_ (i := 15) (N := some 49) (v := ?_) (a' := ?_) #[true, true, true, true, true, true, true, true, true, true, true, true, true, true, false, true, false, false] rfl rfl (take_ofW HT_.out HW_.out (by kernel_rfl)) (fun _ _ _ h => h) (Or.inl ⟨by rfl, ?_⟩) hHeld ?_ ?_
                  rotate_left
                  · rintro w' ⟨s0, s1, s2, s3, s4, s5, s6, s7, s8, s9, s10, s11⟩
                    go_simp
                    with_reducible rfl
                  rotate_left
                  · simp only [Act.put, List.setIfInBounds_toArray, List.set_cons_zero, List.set_cons_succ, i64_w, i32_w]
                    rfl
                  refine one_ (i := 14) (N := some 48) #[true, true, true, true, true, true, true, true, true, true, true, true, true, true, true, true, false, false] rfl rfl (one_of HT_.out (by kernel_rfl)) (by decide) (fun K hK => ?_)
                  refine goes_ Try.func39 (by kernel_rfl) rfl #[.int .i64 t373, .int .u8 (bt a0_0 ((rd_T41 t370 x5_1).f0)), .agg #[.int .i64 ((rd_T41 t370 x5_1).f0), .int .i64 ((rd_T41 t370 x5_1).f1)], .int .u8 t380] (by rfl) rfl rfl (by (try simp only [List.map_toArray, List.map_cons, List.map_nil]); first | done | rfl | (simp only [List.length_drop, List.length_take]; rfl)) ?_
                  with_reducible refine (value_Moved.calls k1 t373 (bt a0_0 ((rd_T41 t370 x5_1).f0)) ((rd_T41 t370 x5_1).f0) ((rd_T41 t370 x5_1).f1) t380 t385 _ A20.out).mono ?_
                  rintro e w34 ⟨rfl, hb⟩
                  have HS8_ := (hb.cell (World.block_lt_of_cell? _ _ (hHeld.2.2.2.2.2.2.2.2.1))).trans (hHeld.2.2.2.2.2.2.2.2.1)
                  have HS9_ := (hb.cell (World.block_lt_of_cell? _ _ (hHeld.2.2.2.2.2.2.2.2.2.1))).trans (hHeld.2.2.2.2.2.2.2.2.2.1)
                  have HS10_ := (hb.cell (World.block_lt_of_cell? _ _ (hHeld.2.2.2.2.2.2.2.2.2.2.1))).trans (hHeld.2.2.2.2.2.2.2.2.2.2.1)
                  have HS11_ := (hb.cell (World.block_lt_of_cell? _ _ (hHeld.2.2.2.2.2.2.2.2.2.2.2))).trans (hHeld.2.2.2.2.2.2.2.2.2.2.2)
                  refine ⟨_, rfl, ?_⟩
                  have n0_ := Aside0.mk (Kd.R_below (by (with_reducible repeat (first | apply Kd.R_alloc | apply Kd.R_drewN | apply Kd.R_drew)); exact HO_3.out) hb)
                  have n1_ := Aside0.mk (blk_below (g := gb368) (o := .cells #[.string a0_0, .int .i64 a0_1, .int .i64 a0_2, .int .i64 a0_3] 29 (0, 0)) (by (with_reducible repeat (first | refine blk_drewN ?_ _ | refine blk_drew ?_ | refine blk_alloc ?_ _)); exact BK368.out) hb)
                  have n2_ := Aside0.mk (blk_below (g := gb382) (o := .cells #[.string t376, .int .i64 t377, .int .i64 t378, .int .i64 t379] 29 (0, 0)) (by (with_reducible repeat (first | refine blk_drewN ?_ _ | refine blk_drew ?_ | refine blk_alloc ?_ _)); exact BK382.out) hb)
                  have n3_ := Aside0.mk (below_step (by repeat (first | (with_reducible first | exact HB.out | apply below_alloc | apply pw_below_drewN | apply below_drew1 | refine below_set ?_ GE368.out | refine below_set ?_ GE382.out) | exact HB.out)) hb)
                  clear HO_3
                  clear BK368
                  clear BK382
                  clear HB
                  have HO_3 := n0_
                  have BK368 := n1_
                  have BK382 := n2_
                  have HB := n3_
                  clear n0_ n1_ n2_ n3_
                  (try clear hb)
                  (try clear hb2)
                  (try clear hk)
                  (try clear hi)
                  refine hK.out _ _ ⟨(blk_cell BK368.out 0).trans rfl, (blk_cell BK368.out 1).trans rfl, (blk_cell BK368.out 2).trans rfl, (blk_cell BK368.out 3).trans rfl, (blk_cell BK382.out 0).trans rfl, (blk_cell BK382.out 1).trans rfl, (blk_cell BK382.out 2).trans rfl, (blk_cell BK382.out 3).trans rfl, HS8_, HS9_, HS10_, HS11_⟩ (fun hHeld => ?_)
                  clear hK K
                  refine norm_ (a' := ?_) ?_ ?_
                  rotate_left
                  · show Act.put _ (some 48) _ = _
                    simp only [Act.put, List.setIfInBounds_toArray, List.set_cons_zero, List.set_cons_succ, i64_w, i32_w]
                    rfl
                  refine one_ (i := 16) (N := some 50) #[true, true, true, true, true, true, true, true, true, true, true, true, true, true, true, true, true, false] rfl rfl (one_of HT_.out (by kernel_rfl)) (by decide) (fun K hK => ?_)
                  refine goes_ Try.func37 (by kernel_rfl) rfl #[.agg #[.string t376, .int .i64 t377, .int .i64 t378, .int .i64 t379]] (by rfl) rfl rfl (by (try simp only [List.map_toArray, List.map_cons, List.map_nil]); first | done | rfl | (simp only [List.length_drop, List.length_take]; rfl)) ?_
                  with_reducible refine (value_Of.calls t376 t377 t378 t379 t386 _ A21.out).mono ?_
                  rintro e w35 ⟨rfl, hb⟩
                  have HS8_ := (hb.cell (World.block_lt_of_cell? _ _ (hHeld.2.2.2.2.2.2.2.2.1))).trans (hHeld.2.2.2.2.2.2.2.2.1)
                  have HS9_ := (hb.cell (World.block_lt_of_cell? _ _ (hHeld.2.2.2.2.2.2.2.2.2.1))).trans (hHeld.2.2.2.2.2.2.2.2.2.1)
                  have HS10_ := (hb.cell (World.block_lt_of_cell? _ _ (hHeld.2.2.2.2.2.2.2.2.2.2.1))).trans (hHeld.2.2.2.2.2.2.2.2.2.2.1)
                  have HS11_ := (hb.cell (World.block_lt_of_cell? _ _ (hHeld.2.2.2.2.2.2.2.2.2.2.2))).trans (hHeld.2.2.2.2.2.2.2.2.2.2.2)
                  refine ⟨_, rfl, ?_⟩
                  have n0_ := Aside0.mk (Kd.R_below (by (with_reducible repeat (first | apply Kd.R_alloc | apply Kd.R_drewN | apply Kd.R_drew)); exact HO_3.out) hb)
                  have n1_ := Aside0.mk (blk_below (g := gb368) (o := .cells #[.string a0_0, .int .i64 a0_1, .int .i64 a0_2, .int .i64 a0_3] 29 (0, 0)) (by (with_reducible repeat (first | refine blk_drewN ?_ _ | refine blk_drew ?_ | refine blk_alloc ?_ _)); exact BK368.out) hb)
                  have n2_ := Aside0.mk (blk_below (g := gb382) (o := .cells #[.string t376, .int .i64 t377, .int .i64 t378, .int .i64 t379] 29 (0, 0)) (by (with_reducible repeat (first | refine blk_drewN ?_ _ | refine blk_drew ?_ | refine blk_alloc ?_ _)); exact BK382.out) hb)
                  have n3_ := Aside0.mk (below_step (by repeat (first | (with_reducible first | exact HB.out | apply below_alloc | apply pw_below_drewN | apply below_drew1 | refine below_set ?_ GE368.out | refine below_set ?_ GE382.out) | exact HB.out)) hb)
                  clear HO_3
                  clear BK368
                  clear BK382
                  clear HB
                  have HO_3 := n0_
                  have BK368 := n1_
                  have BK382 := n2_
                  have HB := n3_
                  clear n0_ n1_ n2_ n3_
                  (try clear hb)
                  (try clear hb2)
                  (try clear hk)
                  (try clear hi)
                  refine hK.out _ _ ⟨(blk_cell BK368.out 0).trans rfl, (blk_cell BK368.out 1).trans rfl, (blk_cell BK368.out 2).trans rfl, (blk_cell BK368.out 3).trans rfl, (blk_cell BK382.out 0).trans rfl, (blk_cell BK382.out 1).trans rfl, (blk_cell BK382.out 2).trans rfl, (blk_cell BK382.out 3).trans rfl, HS8_, HS9_, HS10_, HS11_⟩ (fun hHeld => ?_)
                  clear hK K
                  refine norm_ (a' := ?_) ?_ ?_
                  rotate_left
                  · show Act.put _ (some 50) _ = _
                    simp only [Act.put, List.setIfInBounds_toArray, List.set_cons_zero, List.set_cons_succ, i64_w, i32_w]
                    rfl
                  refine pure_ (i := 17) (N := some 51) (v := ?_) (a' := ?_) #[true, true, true, true, true, true, true, true, true, true, true, true, true, true, true, true, true, true] rfl rfl (any_of HT_.out (by kernel_rfl)) (fun _ _ _ h => h) (Or.inl ⟨by rfl, ?_⟩) ?_ ?_
                  rotate_left
                  · intro w'
                    go_simp
                    with_reducible rfl
                  rotate_left
                  · simp only [Act.put, List.setIfInBounds_toArray, List.set_cons_zero, List.set_cons_succ, i64_w, i32_w]
                    rfl
                  refine done_ (done_of HT_.out (by kernel_rfl)) ?_
                  try go_wp2
                  go_roundg k1
                  case measure => have := HK1.out; omega
                  case rel => exact ⟨(wrap64 (x5_1 + 1)), (by first | rfl | (simp; done) | (simp [*]; done)), H', ⟨by have := HK1.out; omega⟩, ⟨by (with_reducible repeat (first | apply Kd.R_alloc | apply Kd.R_drewN | apply Kd.R_drew)); exact HO_3.out⟩, ⟨by (with_reducible repeat (first | refine blk_drewN ?_ _ | refine blk_drew ?_ | refine blk_alloc ?_ _)); exact BK368.out⟩, ⟨by repeat (first | (with_reducible first | exact HB.out | apply below_alloc | apply pw_below_drewN | apply below_drew1 | refine below_set ?_ GE368.out | refine below_set ?_ GE382.out) | exact HB.out)⟩⟩
                · rw [if_neg c22] at H
                  have c22b0 : (t385 == t386) = false := beq_eq_false_iff_ne.mpr c22
                  have c22b1 : (t385 != t386) = true := bne_iff_ne.mpr c22
                  obtain rfl := Option.some.inj H
                  obtain ⟨Ao36, co36, eo36⟩ := Kd.R_slice HO_3.out
                  subst eo36
                  try go_wp2
                  have n0_ := Aside0.mk (Kd.R_drew HO_3.out)
                  have n1_ := Aside0.mk (blk_drew BK368.out)
                  have n2_ := Aside0.mk (below_drew1 HB.out)
                  clear HO_3
                  clear BK368
                  clear HB
                  have HO_3 := n0_
                  have BK368 := n1_
                  have HB := n2_
                  clear n0_ n1_ n2_
                  have p375 : 0 ≤ (x5_1 : Int) := of_decide_eq_true (by first | (with_reducible assumption) | assumption)
                  have q375 : x5_1 < (t370.length : Int) := of_decide_eq_true (by first | (with_reducible assumption) | assumption)
                  obtain ⟨ad375, e375, hx375_0, hx375_1⟩ := at_T41 (Kd.R_reads' HO_3.out).2.2 x5_1 p375 q375
                  cases e375
                  replace p375 := eq_true p375
                  replace q375 := eq_true q375
                  refine start_ (n := 14) (S := fun w' => w'.cell? ⟨gb368, 0, none⟩ = some (.string a0_0) ∧ w'.cell? ⟨gb368, 1, none⟩ = some (.int .i64 a0_1) ∧ w'.cell? ⟨gb368, 2, none⟩ = some (.int .i64 a0_2) ∧ w'.cell? ⟨gb368, 3, none⟩ = some (.int .i64 a0_3) ∧ w'.cell? (ad375.add ((x5_1).toNat * 2)) = some (.int .i64 ((rd_T41 t370 x5_1).f0)) ∧ w'.cell? ⟨(ad375.add ((x5_1).toNat * 2)).block, (ad375.add ((x5_1).toNat * 2)).off + 1, none⟩ = some (.int .i64 ((rd_T41 t370 x5_1).f1))) (ds := []) #[false, false, false, false, false, false, false, false, false, false, false, false, false, false] (by kernel_rfl) rfl rfl ⟨(blk_cell BK368.out 0).trans rfl, (blk_cell BK368.out 1).trans rfl, (blk_cell BK368.out 2).trans rfl, (blk_cell BK368.out 3).trans rfl, hx375_0, hx375_1⟩ (fun hHeld => ?_); refine with_tabW riverbanklaw14_ValueFollows.tab8 riverbanklaw14_ValueFollows.bits8 (fun HT_ HW_ => ?_)
                  generalize wr.drew = w37 at HO_3 BK368 HB hx375_0 hx375_1 hHeld ⊢
                  refine pure_ (i := 1) (N := some 26) (v := ?_) (a' := ?_) #[false, true, false, false, false, false, false, false, false, false, false, false, false, false] rfl rfl (any_of HT_.out (by kernel_rfl)) (fun _ _ _ h => h) (Or.inl ⟨by rfl, ?_⟩) ?_ ?_
                  rotate_left
                  · intro w'
                    go_simp
                    with_reducible rfl
                  rotate_left
                  · simp only [Act.put, List.setIfInBounds_toArray, List.set_cons_zero, List.set_cons_succ, i64_w, i32_w]
                    rfl
                  refine pure_ (i := 2) (N := some 27) (v := ?_) (a' := ?_) #[false, true, true, false, false, false, false, false, false, false, false, false, false, false] rfl rfl (any_of HT_.out (by kernel_rfl)) (fun _ _ _ h => h) (Or.inl ⟨by rfl, ?_⟩) ?_ ?_
                  rotate_left
                  · intro w'
                    go_simp
                    with_reducible rfl
                  rotate_left
                  · simp only [Act.put, List.setIfInBounds_toArray, List.set_cons_zero, List.set_cons_succ, i64_w, i32_w]
                    rfl
                  refine pure_ (i := 3) (N := some 28) (v := ?_) (a' := ?_) #[false, true, true, true, false, false, false, false, false, false, false, false, false, false] rfl rfl (any_of HT_.out (by kernel_rfl)) (fun _ _ _ h => h) (Or.inl ⟨by rfl, ?_⟩) ?_ ?_
                  rotate_left
                  · intro w'
                    go_simp
                    with_reducible rfl
                  rotate_left
                  · simp only [Act.put, List.setIfInBounds_toArray, List.set_cons_zero, List.set_cons_succ, i64_w, i32_w]
                    rfl
                  refine take_ (i := 0) (N := some 25) (v := ?_) (a' := ?_) #[true, true, true, true, false, false, false, false, false, false, false, false, false, false] rfl rfl (take_ofW HT_.out HW_.out (by kernel_rfl)) (fun _ _ _ h => h) (Or.inl ⟨by rfl, ?_⟩) hHeld ?_ ?_
                  rotate_left
                  · rintro w' ⟨s0, s1, s2, s3, s4, s5⟩
                    go_simp
                    with_reducible rfl
                  rotate_left
                  · simp only [Act.put, List.setIfInBounds_toArray, List.set_cons_zero, List.set_cons_succ, i64_w, i32_w]
                    rfl
                  refine take_ (i := 4) (N := some 29) (v := ?_) (a' := ?_) #[true, true, true, true, true, false, false, false, false, false, false, false, false, false] rfl rfl (take_ofW HT_.out HW_.out (by kernel_rfl)) (fun _ _ _ h => h) (Or.inl ⟨by rfl, ?_⟩) hHeld ?_ ?_
                  rotate_left
                  · rintro w' ⟨s0, s1, s2, s3, s4, s5⟩
                    go_simp
                    with_reducible rfl
                  rotate_left
                  · simp only [Act.put, List.setIfInBounds_toArray, List.set_cons_zero, List.set_cons_succ, i64_w, i32_w]
                    rfl
                  refine join_ (σ := Nat) 3 #[true, true, true, true, true, true, true, true, true, true, true, false, false, false] (fun s_ => [(30, .tuple #[.agg #[.string t376, .int .i64 t377, .int .i64 t378, .int .i64 t379], .int .u8 t380, .int .i64 t381]), (6, .pointer (some ⟨s_, 0, none⟩)), (24, .tuple #[.agg #[.string t376, .int .i64 t377, .int .i64 t378, .int .i64 t379], .int .u8 t380, .int .i64 t381]), (31, .agg #[.string t376, .int .i64 t377, .int .i64 t378, .int .i64 t379]), (32, .int .u8 t380), (33, .int .i64 t381)]) (fun s_ w' => (w'.cell? ⟨gb368, 0, none⟩ = some (.string a0_0) ∧ w'.cell? ⟨gb368, 1, none⟩ = some (.int .i64 a0_1) ∧ w'.cell? ⟨gb368, 2, none⟩ = some (.int .i64 a0_2) ∧ w'.cell? ⟨gb368, 3, none⟩ = some (.int .i64 a0_3) ∧ w'.cell? (ad375.add ((x5_1).toNat * 2)) = some (.int .i64 ((rd_T41 t370 x5_1).f0)) ∧ w'.cell? ⟨(ad375.add ((x5_1).toNat * 2)).block, (ad375.add ((x5_1).toNat * 2)).off + 1, none⟩ = some (.int .i64 ((rd_T41 t370 x5_1).f1))) ∧ (Kd.R k41 41 w' w.heap.size (fun _ => True) (.slice (some ad375) t370.length co36) t370) ∧ (w'.heap[gb368]? = some (.cells #[.string a0_0, .int .i64 a0_1, .int .i64 a0_2, .int .i64 a0_3] 29 (0, 0))) ∧ (w'.heap[s_]? = some (.cells #[.string (⟨#[]⟩ : ByteArray), .int .i64 0, .int .i64 0, .int .i64 0] 29 (0, 0))) ∧ (w.heap.size ≤ s_) ∧ (w.heap.size ≤ s_) ∧ (gb368 ≠ s_) ∧ (s_ ≠ gb368) ∧ (Below w.heap.size w w')) ?_ ?_
                  rotate_left
                  · intro hCont
                    refine two_ (i := 5) (j := 10) (Ni := some 30) (Nj := some 6) #[true, true, true, true, true, true, false, false, false, false, false, false, false, false] #[true, true, true, true, true, false, false, false, false, false, true, false, false, false] rfl rfl rfl rfl (two_of HT_.out (by kernel_rfl)) (by decide) (by decide) (fun K hK => ?_) (fun K hK => ?_)
                    · skip
                      refine goes_ Try.func31 (by kernel_rfl) rfl #[.agg #[.string a0_0, .int .i64 a0_1, .int .i64 a0_2, .int .i64 a0_3], .agg #[.int .i64 ((rd_T41 t370 x5_1).f0), .int .i64 ((rd_T41 t370 x5_1).f1)]] (by rfl) rfl rfl (by (try simp only [List.map_toArray, List.map_cons, List.map_nil]); first | done | rfl | (simp only [List.length_drop, List.length_take]; rfl)) ?_
                      with_reducible refine (riverbankref08_Make.calls k1 a0_0 a0_1 a0_2 a0_3 ((rd_T41 t370 x5_1).f0) ((rd_T41 t370 x5_1).f1) t376 t377 t378 t379 t380 t381 _ A16.out).mono ?_
                      rintro e w38 ⟨rfl, hb⟩
                      have HS4_ := (hb.cell (World.block_lt_of_cell? _ _ (hHeld.2.2.2.2.1))).trans (hHeld.2.2.2.2.1)
                      have HS5_ := (hb.cell (World.block_lt_of_cell? _ _ (hHeld.2.2.2.2.2))).trans (hHeld.2.2.2.2.2)
                      refine ⟨_, rfl, ?_⟩
                      have n0_ := Aside0.mk (Kd.R_below (by (with_reducible repeat (first | apply Kd.R_alloc | apply Kd.R_drewN | apply Kd.R_drew)); exact HO_3.out) hb)
                      have n1_ := Aside0.mk (blk_below (g := gb368) (o := .cells #[.string a0_0, .int .i64 a0_1, .int .i64 a0_2, .int .i64 a0_3] 29 (0, 0)) (by (with_reducible repeat (first | refine blk_drewN ?_ _ | refine blk_drew ?_ | refine blk_alloc ?_ _)); exact BK368.out) hb)
                      have n2_ := Aside0.mk (below_step (by repeat (first | (with_reducible first | exact HB.out | apply below_alloc | apply pw_below_drewN | apply below_drew1 | refine below_set ?_ GE368.out) | exact HB.out)) hb)
                      clear HO_3
                      clear BK368
                      clear HB
                      have HO_3 := n0_
                      have BK368 := n1_
                      have HB := n2_
                      clear n0_ n1_ n2_
                      (try clear hb)
                      (try clear hb2)
                      (try clear hk)
                      (try clear hi)
                      refine hK.out _ _ ⟨(blk_cell BK368.out 0).trans rfl, (blk_cell BK368.out 1).trans rfl, (blk_cell BK368.out 2).trans rfl, (blk_cell BK368.out 3).trans rfl, HS4_, HS5_⟩ (fun hHeld => ?_)
                      clear hK K
                      refine norm_ (a' := ?_) ?_ ?_
                      rotate_left
                      · show Act.put _ (some 30) _ = _
                        simp only [Act.put, List.setIfInBounds_toArray, List.set_cons_zero, List.set_cons_succ, i64_w, i32_w]
                        rfl
                      refine pure_ (i := 6) (N := some 24) (v := ?_) (a' := ?_) #[true, true, true, true, true, true, true, false, false, false, false, false, false, false] rfl rfl (any_of HT_.out (by kernel_rfl)) (fun _ _ _ h => h) (Or.inl ⟨by rfl, ?_⟩) ?_ ?_
                      rotate_left
                      · intro w'
                        go_simp
                        with_reducible rfl
                      rotate_left
                      · simp only [Act.put, List.setIfInBounds_toArray, List.set_cons_zero, List.set_cons_succ, i64_w, i32_w]
                        rfl
                      refine pure_ (i := 7) (N := some 31) (v := ?_) (a' := ?_) #[true, true, true, true, true, true, true, true, false, false, false, false, false, false] rfl rfl (any_of HT_.out (by kernel_rfl)) (fun _ _ _ h => h) (Or.inl ⟨by rfl, ?_⟩) ?_ ?_
                      rotate_left
                      · intro w'
                        go_simp
                        with_reducible rfl
                      rotate_left
                      · simp only [Act.put, List.setIfInBounds_toArray, List.set_cons_zero, List.set_cons_succ, i64_w, i32_w]
                        rfl
                      refine pure_ (i := 8) (N := some 32) (v := ?_) (a' := ?_) #[true, true, true, true, true, true, true, true, true, false, false, false, false, false] rfl rfl (any_of HT_.out (by kernel_rfl)) (fun _ _ _ h => h) (Or.inl ⟨by rfl, ?_⟩) ?_ ?_
                      rotate_left
                      · intro w'
                        go_simp
                        with_reducible rfl
                      rotate_left
                      · simp only [Act.put, List.setIfInBounds_toArray, List.set_cons_zero, List.set_cons_succ, i64_w, i32_w]
                        rfl
                      refine pure_ (i := 9) (N := some 33) (v := ?_) (a' := ?_) #[true, true, true, true, true, true, true, true, true, true, false, false, false, false] rfl rfl (any_of HT_.out (by kernel_rfl)) (fun _ _ _ h => h) (Or.inl ⟨by rfl, ?_⟩) ?_ ?_
                      rotate_left
                      · intro w'
                        go_simp
                        with_reducible rfl
                      rotate_left
                      · simp only [Act.put, List.setIfInBounds_toArray, List.set_cons_zero, List.set_cons_succ, i64_w, i32_w]
                        rfl
                      refine one_ (i := 10) (N := some 6) #[true, true, true, true, true, true, true, true, true, true, true, false, false, false] rfl rfl (one_of HT_.out (by kernel_rfl)) (by decide) (fun K hK => ?_)
                      refine box_step ?hg (N := 6) ?hd (cs := #[.string (⟨#[]⟩ : ByteArray), .int .i64 0, .int .i64 0, .int .i64 0]) (t := 29) ?hr ?_; (case hd => rfl); (case hg => rfl); (case hr => first | (go_simp; done) | (go_simp; rfl))
                      intro gb382 hg w39 hbox hb
                      have HS4_ := (hb.cell (World.block_lt_of_cell? _ _ (hHeld.2.2.2.2.1))).trans (hHeld.2.2.2.2.1)
                      have HS5_ := (hb.cell (World.block_lt_of_cell? _ _ (hHeld.2.2.2.2.2))).trans (hHeld.2.2.2.2.2)
                      have n0_ := Aside0.mk (Kd.R_below (by (with_reducible repeat (first | apply Kd.R_alloc | apply Kd.R_drewN | apply Kd.R_drew)); exact HO_3.out) hb)
                      have n1_ := Aside0.mk (blk_below (g := gb368) (o := .cells #[.string a0_0, .int .i64 a0_1, .int .i64 a0_2, .int .i64 a0_3] 29 (0, 0)) (by (with_reducible repeat (first | refine blk_drewN ?_ _ | refine blk_drew ?_ | refine blk_alloc ?_ _)); exact BK368.out) hb)
                      have n2_ := Aside0.mk (below_step (by repeat (first | (with_reducible first | exact HB.out | apply below_alloc | apply pw_below_drewN | apply below_drew1 | refine below_set ?_ GE368.out) | exact HB.out)) hb)
                      have n3_ := Aside0.mk (hbox)
                      have n4_ := Aside0.mk ((by rw [hg]; exact (below_size (by repeat (first | (with_reducible first | exact HB.out | apply below_alloc | apply pw_below_drewN | apply below_drew1 | refine below_set ?_ GE368.out) | exact HB.out))) : w.heap.size ≤ gb382))
                      have n5_ := Aside0.mk ((by rw [hg]; exact (below_size (by repeat (first | (with_reducible first | exact HB.out | apply below_alloc | apply pw_below_drewN | apply below_drew1 | refine below_set ?_ GE368.out) | exact HB.out))) : w.heap.size ≤ gb382))
                      have n6_ := Aside0.mk ((by rw [hg]; exact Nat.ne_of_lt (blk_lt (g := gb368) (o := .cells #[.string a0_0, .int .i64 a0_1, .int .i64 a0_2, .int .i64 a0_3] 29 (0, 0)) (by (with_reducible repeat (first | refine blk_drewN ?_ _ | refine blk_drew ?_ | refine blk_alloc ?_ _)); exact BK368.out)) : gb368 ≠ gb382))
                      have n7_ := Aside0.mk ((by rw [hg]; exact Nat.ne_of_gt (blk_lt (g := gb368) (o := .cells #[.string a0_0, .int .i64 a0_1, .int .i64 a0_2, .int .i64 a0_3] 29 (0, 0)) (by (with_reducible repeat (first | refine blk_drewN ?_ _ | refine blk_drew ?_ | refine blk_alloc ?_ _)); exact BK368.out)) : gb382 ≠ gb368))
                      clear HO_3
                      clear BK368
                      clear HB
                      have HO_3 := n0_
                      have BK368 := n1_
                      have HB := n2_
                      have BK382 := n3_
                      have GW382 := n4_
                      have GE382 := n5_
                      have NB368_382 := n6_
                      have NB382_368 := n7_
                      clear n0_ n1_ n2_ n3_ n4_ n5_ n6_ n7_
                      clear hb hbox hg
                      refine hK.out _ _ ⟨(blk_cell BK368.out 0).trans rfl, (blk_cell BK368.out 1).trans rfl, (blk_cell BK368.out 2).trans rfl, (blk_cell BK368.out 3).trans rfl, HS4_, HS5_⟩ (fun hHeld => ?_)
                      clear hK K
                      refine norm_ (a' := ?_) ?_ ?_
                      rotate_left
                      · show Act.put _ (some 6) _ = _
                        simp only [Act.put, List.setIfInBounds_toArray, List.set_cons_zero, List.set_cons_succ, i64_w, i32_w]
                        rfl
                      exact norm_ (by simp only [putAll, Act.put, List.setIfInBounds_toArray, List.set_cons_zero, List.set_cons_succ]) (hCont (gb382) _ ⟨hHeld, (by (with_reducible repeat (first | apply Kd.R_alloc | apply Kd.R_drewN | apply Kd.R_drew)); exact HO_3.out), (by (with_reducible repeat (first | refine blk_drewN ?_ _ | refine blk_drew ?_ | refine blk_alloc ?_ _)); exact BK368.out), (by (with_reducible repeat (first | refine blk_drewN ?_ _ | refine blk_drew ?_ | refine blk_alloc ?_ _)); exact BK382.out), GW382.out, GE382.out, NB368_382.out, NB382_368.out, (by repeat (first | (with_reducible first | exact HB.out | apply below_alloc | apply pw_below_drewN | apply below_drew1 | refine below_set ?_ GE368.out | refine below_set ?_ GE382.out) | exact HB.out))⟩)
                    · skip
                      refine box_step ?hg (N := 6) ?hd (cs := #[.string (⟨#[]⟩ : ByteArray), .int .i64 0, .int .i64 0, .int .i64 0]) (t := 29) ?hr ?_; (case hd => rfl); (case hg => rfl); (case hr => first | (go_simp; done) | (go_simp; rfl))
                      intro gb382 hg w38 hbox hb
                      have HS4_ := (hb.cell (World.block_lt_of_cell? _ _ (hHeld.2.2.2.2.1))).trans (hHeld.2.2.2.2.1)
                      have HS5_ := (hb.cell (World.block_lt_of_cell? _ _ (hHeld.2.2.2.2.2))).trans (hHeld.2.2.2.2.2)
                      have n0_ := Aside0.mk (Kd.R_below (by (with_reducible repeat (first | apply Kd.R_alloc | apply Kd.R_drewN | apply Kd.R_drew)); exact HO_3.out) hb)
                      have n1_ := Aside0.mk (blk_below (g := gb368) (o := .cells #[.string a0_0, .int .i64 a0_1, .int .i64 a0_2, .int .i64 a0_3] 29 (0, 0)) (by (with_reducible repeat (first | refine blk_drewN ?_ _ | refine blk_drew ?_ | refine blk_alloc ?_ _)); exact BK368.out) hb)
                      have n2_ := Aside0.mk (below_step (by repeat (first | (with_reducible first | exact HB.out | apply below_alloc | apply pw_below_drewN | apply below_drew1 | refine below_set ?_ GE368.out) | exact HB.out)) hb)
                      have n3_ := Aside0.mk (hbox)
                      have n4_ := Aside0.mk ((by rw [hg]; exact (below_size (by repeat (first | (with_reducible first | exact HB.out | apply below_alloc | apply pw_below_drewN | apply below_drew1 | refine below_set ?_ GE368.out) | exact HB.out))) : w.heap.size ≤ gb382))
                      have n5_ := Aside0.mk ((by rw [hg]; exact (below_size (by repeat (first | (with_reducible first | exact HB.out | apply below_alloc | apply pw_below_drewN | apply below_drew1 | refine below_set ?_ GE368.out) | exact HB.out))) : w.heap.size ≤ gb382))
                      have n6_ := Aside0.mk ((by rw [hg]; exact Nat.ne_of_lt (blk_lt (g := gb368) (o := .cells #[.string a0_0, .int .i64 a0_1, .int .i64 a0_2, .int .i64 a0_3] 29 (0, 0)) (by (with_reducible repeat (first | refine blk_drewN ?_ _ | refine blk_drew ?_ | refine blk_alloc ?_ _)); exact BK368.out)) : gb368 ≠ gb382))
                      have n7_ := Aside0.mk ((by rw [hg]; exact Nat.ne_of_gt (blk_lt (g := gb368) (o := .cells #[.string a0_0, .int .i64 a0_1, .int .i64 a0_2, .int .i64 a0_3] 29 (0, 0)) (by (with_reducible repeat (first | refine blk_drewN ?_ _ | refine blk_drew ?_ | refine blk_alloc ?_ _)); exact BK368.out)) : gb382 ≠ gb368))
                      clear HO_3
                      clear BK368
                      clear HB
                      have HO_3 := n0_
                      have BK368 := n1_
                      have HB := n2_
                      have BK382 := n3_
                      have GW382 := n4_
                      have GE382 := n5_
                      have NB368_382 := n6_
                      have NB382_368 := n7_
                      clear n0_ n1_ n2_ n3_ n4_ n5_ n6_ n7_
                      clear hb hbox hg
                      refine hK.out _ _ ⟨(blk_cell BK368.out 0).trans rfl, (blk_cell BK368.out 1).trans rfl, (blk_cell BK368.out 2).trans rfl, (blk_cell BK368.out 3).trans rfl, HS4_, HS5_⟩ (fun hHeld => ?_)
                      clear hK K
                      refine norm_ (a' := ?_) ?_ ?_
                      rotate_left
                      · show Act.put _ (some 6) _ = _
                        simp only [Act.put, List.setIfInBounds_toArray, List.set_cons_zero, List.set_cons_succ, i64_w, i32_w]
                        rfl
                      refine one_ (i := 5) (N := some 30) #[true, true, true, true, true, true, false, false, false, false, true, false, false, false] rfl rfl (one_of HT_.out (by kernel_rfl)) (by decide) (fun K hK => ?_)
                      refine goes_ Try.func31 (by kernel_rfl) rfl #[.agg #[.string a0_0, .int .i64 a0_1, .int .i64 a0_2, .int .i64 a0_3], .agg #[.int .i64 ((rd_T41 t370 x5_1).f0), .int .i64 ((rd_T41 t370 x5_1).f1)]] (by rfl) rfl rfl (by (try simp only [List.map_toArray, List.map_cons, List.map_nil]); first | done | rfl | (simp only [List.length_drop, List.length_take]; rfl)) ?_
                      with_reducible refine (riverbankref08_Make.calls k1 a0_0 a0_1 a0_2 a0_3 ((rd_T41 t370 x5_1).f0) ((rd_T41 t370 x5_1).f1) t376 t377 t378 t379 t380 t381 _ A16.out).mono ?_
                      rintro e w39 ⟨rfl, hb⟩
                      have HS4_ := (hb.cell (World.block_lt_of_cell? _ _ (hHeld.2.2.2.2.1))).trans (hHeld.2.2.2.2.1)
                      have HS5_ := (hb.cell (World.block_lt_of_cell? _ _ (hHeld.2.2.2.2.2))).trans (hHeld.2.2.2.2.2)
                      refine ⟨_, rfl, ?_⟩
                      have n0_ := Aside0.mk (Kd.R_below (by (with_reducible repeat (first | apply Kd.R_alloc | apply Kd.R_drewN | apply Kd.R_drew)); exact HO_3.out) hb)
                      have n1_ := Aside0.mk (blk_below (g := gb368) (o := .cells #[.string a0_0, .int .i64 a0_1, .int .i64 a0_2, .int .i64 a0_3] 29 (0, 0)) (by (with_reducible repeat (first | refine blk_drewN ?_ _ | refine blk_drew ?_ | refine blk_alloc ?_ _)); exact BK368.out) hb)
                      have n2_ := Aside0.mk (blk_below (g := gb382) (o := .cells #[.string (⟨#[]⟩ : ByteArray), .int .i64 0, .int .i64 0, .int .i64 0] 29 (0, 0)) (by (with_reducible repeat (first | refine blk_drewN ?_ _ | refine blk_drew ?_ | refine blk_alloc ?_ _)); exact BK382.out) hb)
                      have n3_ := Aside0.mk (below_step (by repeat (first | (with_reducible first | exact HB.out | apply below_alloc | apply pw_below_drewN | apply below_drew1 | refine below_set ?_ GE368.out | refine below_set ?_ GE382.out) | exact HB.out)) hb)
                      clear HO_3
                      clear BK368
                      clear BK382
                      clear HB
                      have HO_3 := n0_
                      have BK368 := n1_
                      have BK382 := n2_
                      have HB := n3_
                      clear n0_ n1_ n2_ n3_
                      (try clear hb)
                      (try clear hb2)
                      (try clear hk)
                      (try clear hi)
                      refine hK.out _ _ ⟨(blk_cell BK368.out 0).trans rfl, (blk_cell BK368.out 1).trans rfl, (blk_cell BK368.out 2).trans rfl, (blk_cell BK368.out 3).trans rfl, HS4_, HS5_⟩ (fun hHeld => ?_)
                      clear hK K
                      refine norm_ (a' := ?_) ?_ ?_
                      rotate_left
                      · show Act.put _ (some 30) _ = _
                        simp only [Act.put, List.setIfInBounds_toArray, List.set_cons_zero, List.set_cons_succ, i64_w, i32_w]
                        rfl
                      refine pure_ (i := 6) (N := some 24) (v := ?_) (a' := ?_) #[true, true, true, true, true, true, true, false, false, false, true, false, false, false] rfl rfl (any_of HT_.out (by kernel_rfl)) (fun _ _ _ h => h) (Or.inl ⟨by rfl, ?_⟩) ?_ ?_
                      rotate_left
                      · intro w'
                        go_simp
                        with_reducible rfl
                      rotate_left
                      · simp only [Act.put, List.setIfInBounds_toArray, List.set_cons_zero, List.set_cons_succ, i64_w, i32_w]
                        rfl
                      refine pure_ (i := 7) (N := some 31) (v := ?_) (a' := ?_) #[true, true, true, true, true, true, true, true, false, false, true, false, false, false] rfl rfl (any_of HT_.out (by kernel_rfl)) (fun _ _ _ h => h) (Or.inl ⟨by rfl, ?_⟩) ?_ ?_
                      rotate_left
                      · intro w'
                        go_simp
                        with_reducible rfl
                      rotate_left
                      · simp only [Act.put, List.setIfInBounds_toArray, List.set_cons_zero, List.set_cons_succ, i64_w, i32_w]
                        rfl
                      refine pure_ (i := 8) (N := some 32) (v := ?_) (a' := ?_) #[true, true, true, true, true, true, true, true, true, false, true, false, false, false] rfl rfl (any_of HT_.out (by kernel_rfl)) (fun _ _ _ h => h) (Or.inl ⟨by rfl, ?_⟩) ?_ ?_
                      rotate_left
                      · intro w'
                        go_simp
                        with_reducible rfl
                      rotate_left
                      · simp only [Act.put, List.setIfInBounds_toArray, List.set_cons_zero, List.set_cons_succ, i64_w, i32_w]
                        rfl
                      refine pure_ (i := 9) (N := some 33) (v := ?_) (a' := ?_) #[true, true, true, true, true, true, true, true, true, true, true, false, false, false] rfl rfl (any_of HT_.out (by kernel_rfl)) (fun _ _ _ h => h) (Or.inl ⟨by rfl, ?_⟩) ?_ ?_
                      rotate_left
                      · intro w'
                        go_simp
                        with_reducible rfl
                      rotate_left
                      · simp only [Act.put, List.setIfInBounds_toArray, List.set_cons_zero, List.set_cons_succ, i64_w, i32_w]
                        rfl
                      exact norm_ (by simp only [putAll, Act.put, List.setIfInBounds_toArray, List.set_cons_zero, List.set_cons_succ]) (hCont (gb382) _ ⟨hHeld, (by (with_reducible repeat (first | apply Kd.R_alloc | apply Kd.R_drewN | apply Kd.R_drew)); exact HO_3.out), (by (with_reducible repeat (first | refine blk_drewN ?_ _ | refine blk_drew ?_ | refine blk_alloc ?_ _)); exact BK368.out), (by (with_reducible repeat (first | refine blk_drewN ?_ _ | refine blk_drew ?_ | refine blk_alloc ?_ _)); exact BK382.out), GW382.out, GE382.out, NB368_382.out, NB382_368.out, (by repeat (first | (with_reducible first | exact HB.out | apply below_alloc | apply pw_below_drewN | apply below_drew1 | refine below_set ?_ GE368.out | refine below_set ?_ GE382.out) | exact HB.out))⟩)
                  rintro gb382 w40 ⟨hS_, h0_, h1_, h2_, h3_, h4_, h5_, h6_, h7_⟩
                  have n0_ : Aside0 (Kd.R k41 41 w40 w.heap.size (fun _ => True) (.slice (some ad375) t370.length co36) t370) := ⟨h0_⟩
                  have n1_ : Aside0 (w40.heap[gb368]? = some (.cells #[.string a0_0, .int .i64 a0_1, .int .i64 a0_2, .int .i64 a0_3] 29 (0, 0))) := ⟨h1_⟩
                  have n2_ : Aside0 (w40.heap[gb382]? = some (.cells #[.string (⟨#[]⟩ : ByteArray), .int .i64 0, .int .i64 0, .int .i64 0] 29 (0, 0))) := ⟨h2_⟩
                  have n3_ : Aside0 (w.heap.size ≤ gb382) := ⟨h3_⟩
                  have n4_ : Aside0 (w.heap.size ≤ gb382) := ⟨h4_⟩
                  have n5_ : Aside0 (gb368 ≠ gb382) := ⟨h5_⟩
                  have n6_ : Aside0 (gb382 ≠ gb368) := ⟨h6_⟩
                  have n7_ : Aside0 (Below w.heap.size w w40) := ⟨h7_⟩
                  clear HO_3
                  clear BK368
                  clear HB
                  clear h0_ h1_ h2_ h3_ h4_ h5_ h6_ h7_
                  have HO_3 := n0_
                  have BK368 := n1_
                  have BK382 := n2_
                  have GW382 := n3_
                  have GE382 := n4_
                  have NB368_382 := n5_
                  have NB382_368 := n6_
                  have HB := n7_
                  clear n0_ n1_ n2_ n3_ n4_ n5_ n6_ n7_
                  have hHeld : w40.cell? ⟨gb368, 0, none⟩ = some (.string a0_0) ∧ w40.cell? ⟨gb368, 1, none⟩ = some (.int .i64 a0_1) ∧ w40.cell? ⟨gb368, 2, none⟩ = some (.int .i64 a0_2) ∧ w40.cell? ⟨gb368, 3, none⟩ = some (.int .i64 a0_3) ∧ w40.cell? (ad375.add ((x5_1).toNat * 2)) = some (.int .i64 ((rd_T41 t370 x5_1).f0)) ∧ w40.cell? ⟨(ad375.add ((x5_1).toNat * 2)).block, (ad375.add ((x5_1).toNat * 2)).off + 1, none⟩ = some (.int .i64 ((rd_T41 t370 x5_1).f1)) := hS_
                  refine norm_ (a' := ?_) ?_ ?_
                  rotate_left
                  · simp only [putAll, Act.put, List.setIfInBounds_toArray, List.set_cons_zero, List.set_cons_succ]
                    rfl
                  refine one_ (i := 11) (N := none) #[true, true, true, true, true, true, true, true, true, true, true, true, false, false] rfl rfl (one_of HT_.out (by kernel_rfl)) (by decide) (fun K hK => ?_)
                  have hs41 : w40.cell? ⟨gb382, 0, none⟩ = some (.string (⟨#[]⟩ : ByteArray)) := (blk_cell BK382.out 0).trans rfl
                  have hfs41 := blk_frozen BK382.out 0
                  have hns41_0 := NB368_382.out
                  have hms41_0 := NB382_368.out
                  have hs42 : w40.cell? ⟨gb382, 1, none⟩ = some (.int .i64 0) := (blk_cell BK382.out 1).trans rfl
                  have hfs42 := blk_frozen BK382.out 1
                  have hns42_0 := NB368_382.out
                  have hms42_0 := NB382_368.out
                  have hs43 : w40.cell? ⟨gb382, 2, none⟩ = some (.int .i64 0) := (blk_cell BK382.out 2).trans rfl
                  have hfs43 := blk_frozen BK382.out 2
                  have hns43_0 := NB368_382.out
                  have hms43_0 := NB382_368.out
                  have hs44 : w40.cell? ⟨gb382, 3, none⟩ = some (.int .i64 0) := (blk_cell BK382.out 3).trans rfl
                  have hfs44 := blk_frozen BK382.out 3
                  have hns44_0 := NB368_382.out
                  have hms44_0 := NB382_368.out
                  refine skip_ (w1 := ?_) (by rfl) rfl ?_ ?_
                  rotate_left
                  · go_simp
                    rfl
                  refine hK.out _ _ ⟨((cell_far (p := ⟨gb382, _, none⟩) NB368_382.out _).trans (((cell_far (p := ⟨gb382, _, none⟩) NB368_382.out _).trans (((cell_far (p := ⟨gb382, _, none⟩) NB368_382.out _).trans (((cell_far (p := ⟨gb382, _, none⟩) NB368_382.out _).trans (hHeld.1)))))))), ((cell_far (p := ⟨gb382, _, none⟩) NB368_382.out _).trans (((cell_far (p := ⟨gb382, _, none⟩) NB368_382.out _).trans (((cell_far (p := ⟨gb382, _, none⟩) NB368_382.out _).trans (((cell_far (p := ⟨gb382, _, none⟩) NB368_382.out _).trans (hHeld.2.1)))))))), ((cell_far (p := ⟨gb382, _, none⟩) NB368_382.out _).trans (((cell_far (p := ⟨gb382, _, none⟩) NB368_382.out _).trans (((cell_far (p := ⟨gb382, _, none⟩) NB368_382.out _).trans (((cell_far (p := ⟨gb382, _, none⟩) NB368_382.out _).trans (hHeld.2.2.1)))))))), ((cell_far (p := ⟨gb382, _, none⟩) NB368_382.out _).trans (((cell_far (p := ⟨gb382, _, none⟩) NB368_382.out _).trans (((cell_far (p := ⟨gb382, _, none⟩) NB368_382.out _).trans (((cell_far (p := ⟨gb382, _, none⟩) NB368_382.out _).trans (hHeld.2.2.2.1)))))))), ((cell_far (p := ⟨gb382, _, none⟩) (by first | exact Kd.own_blk (Kd.R_ne HO_3.out BK382.out (by decide)) | (rw [add_block]; exact Kd.own_blk (Kd.R_ne HO_3.out BK382.out (by decide))) | (show (Addr.add _ _).block ≠ _; rw [add_block]; exact Kd.own_blk (Kd.R_ne HO_3.out BK382.out (by decide))) | (dsimp only; exact Kd.own_blk (Kd.R_ne HO_3.out BK382.out (by decide)))) _).trans (((cell_far (p := ⟨gb382, _, none⟩) (by first | exact Kd.own_blk (Kd.R_ne HO_3.out BK382.out (by decide)) | (rw [add_block]; exact Kd.own_blk (Kd.R_ne HO_3.out BK382.out (by decide))) | (show (Addr.add _ _).block ≠ _; rw [add_block]; exact Kd.own_blk (Kd.R_ne HO_3.out BK382.out (by decide))) | (dsimp only; exact Kd.own_blk (Kd.R_ne HO_3.out BK382.out (by decide)))) _).trans (((cell_far (p := ⟨gb382, _, none⟩) (by first | exact Kd.own_blk (Kd.R_ne HO_3.out BK382.out (by decide)) | (rw [add_block]; exact Kd.own_blk (Kd.R_ne HO_3.out BK382.out (by decide))) | (show (Addr.add _ _).block ≠ _; rw [add_block]; exact Kd.own_blk (Kd.R_ne HO_3.out BK382.out (by decide))) | (dsimp only; exact Kd.own_blk (Kd.R_ne HO_3.out BK382.out (by decide)))) _).trans (((cell_far (p := ⟨gb382, _, none⟩) (by first | exact Kd.own_blk (Kd.R_ne HO_3.out BK382.out (by decide)) | (rw [add_block]; exact Kd.own_blk (Kd.R_ne HO_3.out BK382.out (by decide))) | (show (Addr.add _ _).block ≠ _; rw [add_block]; exact Kd.own_blk (Kd.R_ne HO_3.out BK382.out (by decide))) | (dsimp only; exact Kd.own_blk (Kd.R_ne HO_3.out BK382.out (by decide)))) _).trans (hHeld.2.2.2.2.1)))))))), ((cell_far (p := ⟨gb382, _, none⟩) (by first | exact Kd.own_blk (Kd.R_ne HO_3.out BK382.out (by decide)) | (rw [add_block]; exact Kd.own_blk (Kd.R_ne HO_3.out BK382.out (by decide))) | (show (Addr.add _ _).block ≠ _; rw [add_block]; exact Kd.own_blk (Kd.R_ne HO_3.out BK382.out (by decide))) | (dsimp only; exact Kd.own_blk (Kd.R_ne HO_3.out BK382.out (by decide)))) _).trans (((cell_far (p := ⟨gb382, _, none⟩) (by first | exact Kd.own_blk (Kd.R_ne HO_3.out BK382.out (by decide)) | (rw [add_block]; exact Kd.own_blk (Kd.R_ne HO_3.out BK382.out (by decide))) | (show (Addr.add _ _).block ≠ _; rw [add_block]; exact Kd.own_blk (Kd.R_ne HO_3.out BK382.out (by decide))) | (dsimp only; exact Kd.own_blk (Kd.R_ne HO_3.out BK382.out (by decide)))) _).trans (((cell_far (p := ⟨gb382, _, none⟩) (by first | exact Kd.own_blk (Kd.R_ne HO_3.out BK382.out (by decide)) | (rw [add_block]; exact Kd.own_blk (Kd.R_ne HO_3.out BK382.out (by decide))) | (show (Addr.add _ _).block ≠ _; rw [add_block]; exact Kd.own_blk (Kd.R_ne HO_3.out BK382.out (by decide))) | (dsimp only; exact Kd.own_blk (Kd.R_ne HO_3.out BK382.out (by decide)))) _).trans (((cell_far (p := ⟨gb382, _, none⟩) (by first | exact Kd.own_blk (Kd.R_ne HO_3.out BK382.out (by decide)) | (rw [add_block]; exact Kd.own_blk (Kd.R_ne HO_3.out BK382.out (by decide))) | (show (Addr.add _ _).block ≠ _; rw [add_block]; exact Kd.own_blk (Kd.R_ne HO_3.out BK382.out (by decide))) | (dsimp only; exact Kd.own_blk (Kd.R_ne HO_3.out BK382.out (by decide)))) _).trans (hHeld.2.2.2.2.2))))))))⟩ (fun hHeld => ?_)
                  clear hK K
                  refine pure_ (i := 12) (N := some 7) (v := ?_) (a' := ?_) #[true, true, true, true, true, true, true, true, true, true, true, true, true, false] rfl rfl (any_of HT_.out (by kernel_rfl)) (fun _ _ _ h => h) (Or.inl ⟨by rfl, ?_⟩) ?_ ?_
                  rotate_left
                  · intro w'
                    go_simp
                    with_reducible rfl
                  rotate_left
                  · simp only [Act.put, List.setIfInBounds_toArray, List.set_cons_zero, List.set_cons_succ, i64_w, i32_w]
                    rfl
                  refine pure_ (i := 13) (N := some 8) (v := ?_) (a' := ?_) #[true, true, true, true, true, true, true, true, true, true, true, true, true, true] rfl rfl (any_of HT_.out (by kernel_rfl)) (fun _ _ _ h => h) (Or.inl ⟨by rfl, ?_⟩) ?_ ?_
                  rotate_left
                  · intro w'
                    go_simp
                    with_reducible rfl
                  rotate_left
                  · simp only [Act.put, List.setIfInBounds_toArray, List.set_cons_zero, List.set_cons_succ, i64_w, i32_w]
                    rfl
                  refine done_ (done_of HT_.out (by kernel_rfl)) ?_
                  try go_wp2
                  have n0_ : Aside0 (Kd.R k41 41 ((((w40.setCell ⟨gb382, 0, none⟩ (.string t376)).setCell ⟨gb382, 1, none⟩ (.int .i64 t377)).setCell ⟨gb382, 2, none⟩ (.int .i64 t378)).setCell ⟨gb382, 3, none⟩ (.int .i64 t379)) w.heap.size (fun _ => True) (.slice (some ad375) t370.length co36) t370) := ⟨by (with_reducible repeat (first | apply Kd.R_alloc | apply Kd.R_drewN | apply Kd.R_drew)); exact Kd.R_mono (Kd.R_far (p := ⟨gb382, 3, none⟩) (Kd.R_far (p := ⟨gb382, 2, none⟩) (Kd.R_far (p := ⟨gb382, 1, none⟩) (Kd.R_far (p := ⟨gb382, 0, none⟩) (Kd.R_types HO_3.out BK382.out (by decide)) (fun _ hk => hk.2) (.string t376)) (fun _ hk => hk.2) (.int .i64 t377)) (fun _ hk => hk.2) (.int .i64 t378)) (fun _ hk => hk.2) (.int .i64 t379)) (fun _ hk => trivial)⟩
                  have n1_ : Aside0 (((((w40.setCell ⟨gb382, 0, none⟩ (.string t376)).setCell ⟨gb382, 1, none⟩ (.int .i64 t377)).setCell ⟨gb382, 2, none⟩ (.int .i64 t378)).setCell ⟨gb382, 3, none⟩ (.int .i64 t379)).heap[gb368]? = some (.cells #[.string a0_0, .int .i64 a0_1, .int .i64 a0_2, .int .i64 a0_3] 29 (0, 0))) := ⟨by (with_reducible repeat (first | refine blk_drewN ?_ _ | refine blk_drew ?_ | refine blk_alloc ?_ _)); refine blk_far ?_ NB368_382.out _; (with_reducible repeat (first | refine blk_drewN ?_ _ | refine blk_drew ?_ | refine blk_alloc ?_ _)); refine blk_far ?_ NB368_382.out _; (with_reducible repeat (first | refine blk_drewN ?_ _ | refine blk_drew ?_ | refine blk_alloc ?_ _)); refine blk_far ?_ NB368_382.out _; (with_reducible repeat (first | refine blk_drewN ?_ _ | refine blk_drew ?_ | refine blk_alloc ?_ _)); refine blk_far ?_ NB368_382.out _; (with_reducible repeat (first | refine blk_drewN ?_ _ | refine blk_drew ?_ | refine blk_alloc ?_ _)); exact BK368.out⟩
                  have n2_ : Aside0 (((((w40.setCell ⟨gb382, 0, none⟩ (.string t376)).setCell ⟨gb382, 1, none⟩ (.int .i64 t377)).setCell ⟨gb382, 2, none⟩ (.int .i64 t378)).setCell ⟨gb382, 3, none⟩ (.int .i64 t379)).heap[gb382]? = some (.cells #[.string t376, .int .i64 t377, .int .i64 t378, .int .i64 t379] 29 (0, 0))) := ⟨by (with_reducible repeat (first | refine blk_drewN ?_ _ | refine blk_drew ?_ | refine blk_alloc ?_ _)); refine blk_put (cs := #[.string t376, .int .i64 t377, .int .i64 t378, .int .i64 0]) ?_ 3 _ rfl; (with_reducible repeat (first | refine blk_drewN ?_ _ | refine blk_drew ?_ | refine blk_alloc ?_ _)); refine blk_put (cs := #[.string t376, .int .i64 t377, .int .i64 0, .int .i64 0]) ?_ 2 _ rfl; (with_reducible repeat (first | refine blk_drewN ?_ _ | refine blk_drew ?_ | refine blk_alloc ?_ _)); refine blk_put (cs := #[.string t376, .int .i64 0, .int .i64 0, .int .i64 0]) ?_ 1 _ rfl; (with_reducible repeat (first | refine blk_drewN ?_ _ | refine blk_drew ?_ | refine blk_alloc ?_ _)); refine blk_put (cs := #[.string (⟨#[]⟩ : ByteArray), .int .i64 0, .int .i64 0, .int .i64 0]) ?_ 0 _ rfl; (with_reducible repeat (first | refine blk_drewN ?_ _ | refine blk_drew ?_ | refine blk_alloc ?_ _)); exact BK382.out⟩
                  have n3_ : Aside0 (Below w.heap.size w ((((w40.setCell ⟨gb382, 0, none⟩ (.string t376)).setCell ⟨gb382, 1, none⟩ (.int .i64 t377)).setCell ⟨gb382, 2, none⟩ (.int .i64 t378)).setCell ⟨gb382, 3, none⟩ (.int .i64 t379))) := ⟨by repeat (first | (with_reducible first | exact HB.out | apply below_alloc | apply pw_below_drewN | apply below_drew1 | refine below_set ?_ GE368.out | refine below_set ?_ GE382.out) | exact HB.out)⟩
                  (try clear HO_3)
                  (try clear BK368)
                  (try clear BK382)
                  (try clear HB)
                  generalize ((((w40.setCell ⟨gb382, 0, none⟩ (.string t376)).setCell ⟨gb382, 1, none⟩ (.int .i64 t377)).setCell ⟨gb382, 2, none⟩ (.int .i64 t378)).setCell ⟨gb382, 3, none⟩ (.int .i64 t379)) = w45 at n0_ n1_ n2_ n3_ ⊢
                  have HO_3 := n0_
                  have BK368 := n1_
                  have BK382 := n2_
                  have HB := n3_
                  clear n0_ n1_ n2_ n3_
                  have n0_ := Aside0.mk (Kd.R_drew HO_3.out)
                  have n1_ := Aside0.mk (blk_drew BK368.out)
                  have n2_ := Aside0.mk (blk_drew BK382.out)
                  have n3_ := Aside0.mk (below_drew1 HB.out)
                  clear HO_3
                  clear BK368
                  clear BK382
                  clear HB
                  have HO_3 := n0_
                  have BK368 := n1_
                  have BK382 := n2_
                  have HB := n3_
                  clear n0_ n1_ n2_ n3_
                  have p383 : 0 ≤ (x5_1 : Int) := of_decide_eq_true (by first | (with_reducible assumption) | assumption)
                  have q383 : x5_1 < (t370.length : Int) := of_decide_eq_true (by first | (with_reducible assumption) | assumption)
                  obtain ⟨ad383, e383, hx383_0, hx383_1⟩ := at_T41 (Kd.R_reads' HO_3.out).2.2 x5_1 p383 q383
                  obtain rfl : ad375 = ad383 := (by injection e383)
                  replace p383 := eq_true p383
                  replace q383 := eq_true q383
                  have p19 : 0 ≤ (((rd_T41 t370 x5_1).f0) : Int) := of_decide_eq_true (by first | (with_reducible assumption) | assumption)
                  have q19 : ((rd_T41 t370 x5_1).f0) < (a0_0.size : Int) := of_decide_eq_true (by first | (with_reducible assumption) | assumption)
                  have hx19 := bt_at a0_0 ((rd_T41 t370 x5_1).f0)
                  replace p19 := eq_true p19
                  replace q19 := eq_true q19
                  have p384 : 0 ≤ (x5_1 : Int) := of_decide_eq_true (by first | (with_reducible assumption) | assumption)
                  have q384 : x5_1 < (t370.length : Int) := of_decide_eq_true (by first | (with_reducible assumption) | assumption)
                  obtain ⟨ad384, e384, hx384_0, hx384_1⟩ := at_T41 (Kd.R_reads' HO_3.out).2.2 x5_1 p384 q384
                  obtain rfl : ad375 = ad384 := (by injection e384)
                  replace p384 := eq_true p384
                  replace q384 := eq_true q384
                  refine start_ (n := 18) (S := fun w' => w'.cell? ⟨gb368, 0, none⟩ = some (.string a0_0) ∧ w'.cell? ⟨gb368, 1, none⟩ = some (.int .i64 a0_1) ∧ w'.cell? ⟨gb368, 2, none⟩ = some (.int .i64 a0_2) ∧ w'.cell? ⟨gb368, 3, none⟩ = some (.int .i64 a0_3) ∧ w'.cell? ⟨gb382, 0, none⟩ = some (.string t376) ∧ w'.cell? ⟨gb382, 1, none⟩ = some (.int .i64 t377) ∧ w'.cell? ⟨gb382, 2, none⟩ = some (.int .i64 t378) ∧ w'.cell? ⟨gb382, 3, none⟩ = some (.int .i64 t379) ∧ w'.cell? (ad375.add ((x5_1).toNat * 2)) = some (.int .i64 ((rd_T41 t370 x5_1).f0)) ∧ w'.cell? ⟨(ad375.add ((x5_1).toNat * 2)).block, (ad375.add ((x5_1).toNat * 2)).off + 1, none⟩ = some (.int .i64 ((rd_T41 t370 x5_1).f1)) ∧ w'.cell? (ad375.add ((x5_1).toNat * 2)) = some (.int .i64 ((rd_T41 t370 x5_1).f0)) ∧ w'.cell? ⟨(ad375.add ((x5_1).toNat * 2)).block, (ad375.add ((x5_1).toNat * 2)).off + 1, none⟩ = some (.int .i64 ((rd_T41 t370 x5_1).f1))) (ds := []) #[false, false, false, false, false, false, false, false, false, false, false, false, false, false, false, false, false, false] (by kernel_rfl) rfl rfl ⟨(blk_cell BK368.out 0).trans rfl, (blk_cell BK368.out 1).trans rfl, (blk_cell BK368.out 2).trans rfl, (blk_cell BK368.out 3).trans rfl, (blk_cell BK382.out 0).trans rfl, (blk_cell BK382.out 1).trans rfl, (blk_cell BK382.out 2).trans rfl, (blk_cell BK382.out 3).trans rfl, hx383_0, hx383_1, hx384_0, hx384_1⟩ (fun hHeld => ?_); refine with_tabW riverbanklaw14_ValueFollows.tab9 riverbanklaw14_ValueFollows.bits9 (fun HT_ HW_ => ?_)
                  generalize w45.drew = w46 at HO_3 BK368 BK382 HB hx383_0 hx383_1 hx384_0 hx384_1 hHeld ⊢
                  refine pure_ (i := 0) (N := some 34) (v := ?_) (a' := ?_) #[true, false, false, false, false, false, false, false, false, false, false, false, false, false, false, false, false, false] rfl rfl (any_of HT_.out (by kernel_rfl)) (fun _ _ _ h => h) (Or.inl ⟨by rfl, ?_⟩) ?_ ?_
                  rotate_left
                  · intro w'
                    go_simp
                    with_reducible rfl
                  rotate_left
                  · simp only [Act.put, List.setIfInBounds_toArray, List.set_cons_zero, List.set_cons_succ, i64_w, i32_w]
                    rfl
                  refine pure_ (i := 1) (N := some 35) (v := ?_) (a' := ?_) #[true, true, false, false, false, false, false, false, false, false, false, false, false, false, false, false, false, false] rfl rfl (any_of HT_.out (by kernel_rfl)) (fun _ _ _ h => h) (Or.inl ⟨by rfl, ?_⟩) ?_ ?_
                  rotate_left
                  · intro w'
                    go_simp
                    with_reducible rfl
                  rotate_left
                  · simp only [Act.put, List.setIfInBounds_toArray, List.set_cons_zero, List.set_cons_succ, i64_w, i32_w]
                    rfl
                  refine pure_ (i := 3) (N := some 37) (v := ?_) (a' := ?_) #[true, true, false, true, false, false, false, false, false, false, false, false, false, false, false, false, false, false] rfl rfl (any_of HT_.out (by kernel_rfl)) (fun _ _ _ h => h) (Or.inl ⟨by rfl, ?_⟩) ?_ ?_
                  rotate_left
                  · intro w'
                    go_simp
                    with_reducible rfl
                  rotate_left
                  · simp only [Act.put, List.setIfInBounds_toArray, List.set_cons_zero, List.set_cons_succ, i64_w, i32_w]
                    rfl
                  refine pure_ (i := 4) (N := some 38) (v := ?_) (a' := ?_) #[true, true, false, true, true, false, false, false, false, false, false, false, false, false, false, false, false, false] rfl rfl (any_of HT_.out (by kernel_rfl)) (fun _ _ _ h => h) (Or.inl ⟨by rfl, ?_⟩) ?_ ?_
                  rotate_left
                  · intro w'
                    go_simp
                    with_reducible rfl
                  rotate_left
                  · simp only [Act.put, List.setIfInBounds_toArray, List.set_cons_zero, List.set_cons_succ, i64_w, i32_w]
                    rfl
                  refine pure_ (i := 5) (N := some 39) (v := ?_) (a' := ?_) #[true, true, false, true, true, true, false, false, false, false, false, false, false, false, false, false, false, false] rfl rfl (any_of HT_.out (by kernel_rfl)) (fun _ _ _ h => h) (Or.inl ⟨by rfl, ?_⟩) ?_ ?_
                  rotate_left
                  · intro w'
                    go_simp
                    with_reducible rfl
                  rotate_left
                  · simp only [Act.put, List.setIfInBounds_toArray, List.set_cons_zero, List.set_cons_succ, i64_w, i32_w]
                    rfl
                  refine pure_ (i := 6) (N := some 40) (v := ?_) (a' := ?_) #[true, true, false, true, true, true, true, false, false, false, false, false, false, false, false, false, false, false] rfl rfl (any_of HT_.out (by kernel_rfl)) (fun _ _ _ h => h) (Or.inl ⟨by rfl, ?_⟩) ?_ ?_
                  rotate_left
                  · intro w'
                    go_simp
                    with_reducible rfl
                  rotate_left
                  · simp only [Act.put, List.setIfInBounds_toArray, List.set_cons_zero, List.set_cons_succ, i64_w, i32_w]
                    rfl
                  refine pure_ (i := 9) (N := some 43) (v := ?_) (a' := ?_) #[true, true, false, true, true, true, true, false, false, true, false, false, false, false, false, false, false, false] rfl rfl (any_of HT_.out (by kernel_rfl)) (fun _ _ _ h => h) (Or.inl ⟨by rfl, ?_⟩) ?_ ?_
                  rotate_left
                  · intro w'
                    go_simp
                    with_reducible rfl
                  rotate_left
                  · simp only [Act.put, List.setIfInBounds_toArray, List.set_cons_zero, List.set_cons_succ, i64_w, i32_w]
                    rfl
                  refine pure_ (i := 10) (N := some 44) (v := ?_) (a' := ?_) #[true, true, false, true, true, true, true, false, false, true, true, false, false, false, false, false, false, false] rfl rfl (any_of HT_.out (by kernel_rfl)) (fun _ _ _ h => h) (Or.inl ⟨by rfl, ?_⟩) ?_ ?_
                  rotate_left
                  · intro w'
                    go_simp
                    with_reducible rfl
                  rotate_left
                  · simp only [Act.put, List.setIfInBounds_toArray, List.set_cons_zero, List.set_cons_succ, i64_w, i32_w]
                    rfl
                  refine pure_ (i := 11) (N := some 45) (v := ?_) (a' := ?_) #[true, true, false, true, true, true, true, false, false, true, true, true, false, false, false, false, false, false] rfl rfl (any_of HT_.out (by kernel_rfl)) (fun _ _ _ h => h) (Or.inl ⟨by rfl, ?_⟩) ?_ ?_
                  rotate_left
                  · intro w'
                    go_simp
                    with_reducible rfl
                  rotate_left
                  · simp only [Act.put, List.setIfInBounds_toArray, List.set_cons_zero, List.set_cons_succ, i64_w, i32_w]
                    rfl
                  refine pure_ (i := 13) (N := some 47) (v := ?_) (a' := ?_) #[true, true, false, true, true, true, true, false, false, true, true, true, false, true, false, false, false, false] rfl rfl (any_of HT_.out (by kernel_rfl)) (fun _ _ _ h => h) (Or.inl ⟨by rfl, ?_⟩) ?_ ?_
                  rotate_left
                  · intro w'
                    go_simp
                    with_reducible rfl
                  rotate_left
                  · simp only [Act.put, List.setIfInBounds_toArray, List.set_cons_zero, List.set_cons_succ, i64_w, i32_w]
                    rfl
                  refine take_ (i := 2) (N := some 36) (v := ?_) (a' := ?_) #[true, true, true, true, true, true, true, false, false, true, true, true, false, true, false, false, false, false] rfl rfl (take_ofW HT_.out HW_.out (by kernel_rfl)) (fun _ _ _ h => h) (Or.inl ⟨by rfl, ?_⟩) hHeld ?_ ?_
                  rotate_left
                  · rintro w' ⟨s0, s1, s2, s3, s4, s5, s6, s7, s8, s9, s10, s11⟩
                    go_simp
                    with_reducible rfl
                  rotate_left
                  · simp only [Act.put, List.setIfInBounds_toArray, List.set_cons_zero, List.set_cons_succ, i64_w, i32_w]
                    rfl
                  refine take_ (i := 7) (N := some 41) (v := ?_) (a' := ?_) #[true, true, true, true, true, true, true, true, false, true, true, true, false, true, false, false, false, false] rfl rfl (take_ofW HT_.out HW_.out (by kernel_rfl)) (fun _ _ _ h => h) (Or.inl ⟨by rfl, ?_⟩) hHeld ?_ ?_
                  rotate_left
                  · rintro w' ⟨s0, s1, s2, s3, s4, s5, s6, s7, s8, s9, s10, s11⟩
                    go_simp
                    with_reducible rfl
                  rotate_left
                  · simp only [Act.put, List.setIfInBounds_toArray, List.set_cons_zero, List.set_cons_succ, i64_w, i32_w]
                    rfl
                  refine take_ (i := 8) (N := some 42) (v := ?_) (a' := ?_) #[true, true, true, true, true, true, true, true, true, true, true, true, false, true, false, false, false, false] rfl rfl (take_ofW HT_.out HW_.out (by kernel_rfl)) (fun _ _ _ h => h) (Or.inl ⟨by rfl, ?_⟩) hHeld ?_ ?_
                  rotate_left
                  · rintro w' ⟨s0, s1, s2, s3, s4, s5, s6, s7, s8, s9, s10, s11⟩
                    go_simp
                    with_reducible rfl
                  rotate_left
                  · simp only [Act.put, List.setIfInBounds_toArray, List.set_cons_zero, List.set_cons_succ, i64_w, i32_w]
                    rfl
                  refine take_ (i := 12) (N := some 46) (v := ?_) (a' := ?_) #[true, true, true, true, true, true, true, true, true, true, true, true, true, true, false, false, false, false] rfl rfl (take_ofW HT_.out HW_.out (by kernel_rfl)) (fun _ _ _ h => h) (Or.inl ⟨by rfl, ?_⟩) hHeld ?_ ?_
                  rotate_left
                  · rintro w' ⟨s0, s1, s2, s3, s4, s5, s6, s7, s8, s9, s10, s11⟩
                    go_simp
                    with_reducible rfl
                  rotate_left
                  · simp only [Act.put, List.setIfInBounds_toArray, List.set_cons_zero, List.set_cons_succ, i64_w, i32_w]
                    rfl
                  refine take_ (i := 15) (N := some 49) (v := ?_) (a' := ?_) #[true, true, true, true, true, true, true, true, true, true, true, true, true, true, false, true, false, false] rfl rfl (take_ofW HT_.out HW_.out (by kernel_rfl)) (fun _ _ _ h => h) (Or.inl ⟨by rfl, ?_⟩) hHeld ?_ ?_
                  rotate_left
                  · rintro w' ⟨s0, s1, s2, s3, s4, s5, s6, s7, s8, s9, s10, s11⟩
                    go_simp
                    with_reducible rfl
                  rotate_left
                  · simp only [Act.put, List.setIfInBounds_toArray, List.set_cons_zero, List.set_cons_succ, i64_w, i32_w]
                    rfl
                  refine one_ (i := 14) (N := some 48) #[true, true, true, true, true, true, true, true, true, true, true, true, true, true, true, true, false, false] rfl rfl (one_of HT_.out (by kernel_rfl)) (by decide) (fun K hK => ?_)
                  refine goes_ Try.func39 (by kernel_rfl) rfl #[.int .i64 t373, .int .u8 (bt a0_0 ((rd_T41 t370 x5_1).f0)), .agg #[.int .i64 ((rd_T41 t370 x5_1).f0), .int .i64 ((rd_T41 t370 x5_1).f1)], .int .u8 t380] (by rfl) rfl rfl (by (try simp only [List.map_toArray, List.map_cons, List.map_nil]); first | done | rfl | (simp only [List.length_drop, List.length_take]; rfl)) ?_
                  with_reducible refine (value_Moved.calls k1 t373 (bt a0_0 ((rd_T41 t370 x5_1).f0)) ((rd_T41 t370 x5_1).f0) ((rd_T41 t370 x5_1).f1) t380 t385 _ A20.out).mono ?_
                  rintro e w47 ⟨rfl, hb⟩
                  have HS8_ := (hb.cell (World.block_lt_of_cell? _ _ (hHeld.2.2.2.2.2.2.2.2.1))).trans (hHeld.2.2.2.2.2.2.2.2.1)
                  have HS9_ := (hb.cell (World.block_lt_of_cell? _ _ (hHeld.2.2.2.2.2.2.2.2.2.1))).trans (hHeld.2.2.2.2.2.2.2.2.2.1)
                  have HS10_ := (hb.cell (World.block_lt_of_cell? _ _ (hHeld.2.2.2.2.2.2.2.2.2.2.1))).trans (hHeld.2.2.2.2.2.2.2.2.2.2.1)
                  have HS11_ := (hb.cell (World.block_lt_of_cell? _ _ (hHeld.2.2.2.2.2.2.2.2.2.2.2))).trans (hHeld.2.2.2.2.2.2.2.2.2.2.2)
                  refine ⟨_, rfl, ?_⟩
                  have n0_ := Aside0.mk (Kd.R_below (by (with_reducible repeat (first | apply Kd.R_alloc | apply Kd.R_drewN | apply Kd.R_drew)); exact HO_3.out) hb)
                  have n1_ := Aside0.mk (blk_below (g := gb368) (o := .cells #[.string a0_0, .int .i64 a0_1, .int .i64 a0_2, .int .i64 a0_3] 29 (0, 0)) (by (with_reducible repeat (first | refine blk_drewN ?_ _ | refine blk_drew ?_ | refine blk_alloc ?_ _)); exact BK368.out) hb)
                  have n2_ := Aside0.mk (blk_below (g := gb382) (o := .cells #[.string t376, .int .i64 t377, .int .i64 t378, .int .i64 t379] 29 (0, 0)) (by (with_reducible repeat (first | refine blk_drewN ?_ _ | refine blk_drew ?_ | refine blk_alloc ?_ _)); exact BK382.out) hb)
                  have n3_ := Aside0.mk (below_step (by repeat (first | (with_reducible first | exact HB.out | apply below_alloc | apply pw_below_drewN | apply below_drew1 | refine below_set ?_ GE368.out | refine below_set ?_ GE382.out) | exact HB.out)) hb)
                  clear HO_3
                  clear BK368
                  clear BK382
                  clear HB
                  have HO_3 := n0_
                  have BK368 := n1_
                  have BK382 := n2_
                  have HB := n3_
                  clear n0_ n1_ n2_ n3_
                  (try clear hb)
                  (try clear hb2)
                  (try clear hk)
                  (try clear hi)
                  refine hK.out _ _ ⟨(blk_cell BK368.out 0).trans rfl, (blk_cell BK368.out 1).trans rfl, (blk_cell BK368.out 2).trans rfl, (blk_cell BK368.out 3).trans rfl, (blk_cell BK382.out 0).trans rfl, (blk_cell BK382.out 1).trans rfl, (blk_cell BK382.out 2).trans rfl, (blk_cell BK382.out 3).trans rfl, HS8_, HS9_, HS10_, HS11_⟩ (fun hHeld => ?_)
                  clear hK K
                  refine norm_ (a' := ?_) ?_ ?_
                  rotate_left
                  · show Act.put _ (some 48) _ = _
                    simp only [Act.put, List.setIfInBounds_toArray, List.set_cons_zero, List.set_cons_succ, i64_w, i32_w]
                    rfl
                  refine one_ (i := 16) (N := some 50) #[true, true, true, true, true, true, true, true, true, true, true, true, true, true, true, true, true, false] rfl rfl (one_of HT_.out (by kernel_rfl)) (by decide) (fun K hK => ?_)
                  refine goes_ Try.func37 (by kernel_rfl) rfl #[.agg #[.string t376, .int .i64 t377, .int .i64 t378, .int .i64 t379]] (by rfl) rfl rfl (by (try simp only [List.map_toArray, List.map_cons, List.map_nil]); first | done | rfl | (simp only [List.length_drop, List.length_take]; rfl)) ?_
                  with_reducible refine (value_Of.calls t376 t377 t378 t379 t386 _ A21.out).mono ?_
                  rintro e w48 ⟨rfl, hb⟩
                  have HS8_ := (hb.cell (World.block_lt_of_cell? _ _ (hHeld.2.2.2.2.2.2.2.2.1))).trans (hHeld.2.2.2.2.2.2.2.2.1)
                  have HS9_ := (hb.cell (World.block_lt_of_cell? _ _ (hHeld.2.2.2.2.2.2.2.2.2.1))).trans (hHeld.2.2.2.2.2.2.2.2.2.1)
                  have HS10_ := (hb.cell (World.block_lt_of_cell? _ _ (hHeld.2.2.2.2.2.2.2.2.2.2.1))).trans (hHeld.2.2.2.2.2.2.2.2.2.2.1)
                  have HS11_ := (hb.cell (World.block_lt_of_cell? _ _ (hHeld.2.2.2.2.2.2.2.2.2.2.2))).trans (hHeld.2.2.2.2.2.2.2.2.2.2.2)
                  refine ⟨_, rfl, ?_⟩
                  have n0_ := Aside0.mk (Kd.R_below (by (with_reducible repeat (first | apply Kd.R_alloc | apply Kd.R_drewN | apply Kd.R_drew)); exact HO_3.out) hb)
                  have n1_ := Aside0.mk (blk_below (g := gb368) (o := .cells #[.string a0_0, .int .i64 a0_1, .int .i64 a0_2, .int .i64 a0_3] 29 (0, 0)) (by (with_reducible repeat (first | refine blk_drewN ?_ _ | refine blk_drew ?_ | refine blk_alloc ?_ _)); exact BK368.out) hb)
                  have n2_ := Aside0.mk (blk_below (g := gb382) (o := .cells #[.string t376, .int .i64 t377, .int .i64 t378, .int .i64 t379] 29 (0, 0)) (by (with_reducible repeat (first | refine blk_drewN ?_ _ | refine blk_drew ?_ | refine blk_alloc ?_ _)); exact BK382.out) hb)
                  have n3_ := Aside0.mk (below_step (by repeat (first | (with_reducible first | exact HB.out | apply below_alloc | apply pw_below_drewN | apply below_drew1 | refine below_set ?_ GE368.out | refine below_set ?_ GE382.out) | exact HB.out)) hb)
                  clear HO_3
                  clear BK368
                  clear BK382
                  clear HB
                  have HO_3 := n0_
                  have BK368 := n1_
                  have BK382 := n2_
                  have HB := n3_
                  clear n0_ n1_ n2_ n3_
                  (try clear hb)
                  (try clear hb2)
                  (try clear hk)
                  (try clear hi)
                  refine hK.out _ _ ⟨(blk_cell BK368.out 0).trans rfl, (blk_cell BK368.out 1).trans rfl, (blk_cell BK368.out 2).trans rfl, (blk_cell BK368.out 3).trans rfl, (blk_cell BK382.out 0).trans rfl, (blk_cell BK382.out 1).trans rfl, (blk_cell BK382.out 2).trans rfl, (blk_cell BK382.out 3).trans rfl, HS8_, HS9_, HS10_, HS11_⟩ (fun hHeld => ?_)
                  clear hK K
                  refine norm_ (a' := ?_) ?_ ?_
                  rotate_left
                  · show Act.put _ (some 50) _ = _
                    simp only [Act.put, List.setIfInBounds_toArray, List.set_cons_zero, List.set_cons_succ, i64_w, i32_w]
                    rfl
                  refine pure_ (i := 17) (N := some 51) (v := ?_) (a' := ?_) #[true, true, true, true, true, true, true, true, true, true, true, true, true, true, true, true, true, true] rfl rfl (any_of HT_.out (by kernel_rfl)) (fun _ _ _ h => h) (Or.inl ⟨by rfl, ?_⟩) ?_ ?_
                  rotate_left
                  · intro w'
                    go_simp
                    with_reducible rfl
                  rotate_left
                  · simp only [Act.put, List.setIfInBounds_toArray, List.set_cons_zero, List.set_cons_succ, i64_w, i32_w]
                    rfl
                  refine done_ (done_of HT_.out (by kernel_rfl)) ?_
                  try go_wp2
                  go_ret
                  exact ⟨by first | rfl | (simp [errW_none, errW_some] <;> rfl) | (simp [*, errW_none, errW_some] <;> rfl), by repeat (first | (with_reducible first | exact HB.out | apply below_alloc | apply pw_below_drewN | apply below_drew1 | refine below_set ?_ GE368.out | refine below_set ?_ GE382.out) | exact HB.out)⟩
              · rw [if_neg c18] at H
                exact absurd H (by simp)
            · rw [if_neg c17] at H
              exact absurd H (by simp)
          · rw [if_neg c15] at H
            exact absurd H (by simp)
        · rw [if_neg c14] at H
          have c14b0 : decide (x5_1 < (t370.length : Int)) = false := decide_eq_false c14
          clear c14
          replace H := Option.bind_eq_some_iff.mp H
          obtain ⟨t374, A490, H⟩ := H
          replace H : (some t374) = some r := H
          have A49 := Aside0.mk A490
          clear A490
          obtain rfl := Option.some.inj H
          obtain ⟨Ao50, co50, eo50⟩ := Kd.R_slice HO_3.out
          subst eo50
          go_wp2_with (first | ((with_reducible refine gate_callee (f := 36) rfl ?_); refine goesL_ (some 52) rfl rfl Try.func36 (by kernel_rfl) rfl #[] rfl (by (try simp only [List.map_toArray, List.map_cons, List.map_nil]); first | done | rfl | (simp only [List.length_drop, List.length_take]; rfl)) ?_; (with_reducible refine (riverbanklaw14_live.calls  t374 _ A49.out).mono ?_); rintro e w51 ⟨rfl, hb⟩; refine ⟨_, rfl, ?_⟩; have n0_ := Aside0.mk (Kd.R_below (by (with_reducible repeat (first | apply Kd.R_alloc | apply Kd.R_drewN | apply Kd.R_drew)); exact HO_3.out) hb); have n1_ := Aside0.mk (blk_below (g := gb368) (o := .cells #[.string a0_0, .int .i64 a0_1, .int .i64 a0_2, .int .i64 a0_3] 29 (0, 0)) (by (with_reducible repeat (first | refine blk_drewN ?_ _ | refine blk_drew ?_ | refine blk_alloc ?_ _)); exact BK368.out) hb); have n2_ := Aside0.mk (below_step (by repeat (first | (with_reducible first | exact HB.out | apply below_alloc | apply pw_below_drewN | apply below_drew1 | refine below_set ?_ GE368.out) | exact HB.out)) hb); clear HO_3; clear BK368; clear HB; have HO_3 := n0_; have BK368 := n1_; have HB := n2_; clear n0_ n1_ n2_; (try clear hb); (try clear hb2); (try clear hk); (try clear hi)))
          go_ret
          exact ⟨by first | rfl | (simp [errW_none, errW_some] <;> rfl) | (simp [*, errW_none, errW_some] <;> rfl), by repeat (first | (with_reducible first | exact HB.out | apply below_alloc | apply pw_below_drewN | apply below_drew1 | refine below_set ?_ GE368.out) | exact HB.out)⟩

end Go.Proofs.Ytmfbgcimfmgobaa.Print

-- of YtmfbgcimfmgobaaKeyRefTwo
/- The document's boards and keys, and that they are the program's. -/
namespace Go.Proofs.Ytmfbgcimfmgobaa.KeyRef
open Go.RowKit Go.Proofs.Ytmfbgcimfmgobaa.Print Go.Proofs.Ytmfbgcimfmgobaa.KeyMath Go.Proofs.YtmfbgcimfmgobaaW.PrintWords Go.Proofs.YtmfbgcimfmgobaaW.PrintLast
theorem rside_k (k : Nat) (a : Int) : riverbankref02_Side.f (k + 1) a = riverbankref02_Side.f 1 a := rfl
theorem rside_eq (k : Nat) (b : UInt8) : riverbankref02_Side.f (k + 1) (b.toNat : Int) = board_Side.f (b.toNat : Int) := by
  rw [rside_k]
  have := u8_all (fun b => riverbankref02_Side.f 1 (b.toNat : Int) == board_Side.f (b.toNat : Int)) (by decide +kernel) b
  simpa using this
/-- A byte's side. -/
def sideU (b : UInt8) : Int := (board_Side.f (b.toNat : Int)).getD 0
theorem side_f (b : UInt8) : board_Side.f (b.toNat : Int) = some (sideU b) := by
  have := u8_all (fun b => board_Side.f (b.toNat : Int) == some (sideU b)) (by decide +kernel) b
  simpa using this
theorem side_cell (b : UInt8) : okCell b = (b == 46 || decide (0 ≤ sideU b)) := by
  have := u8_all (fun b => okCell b == (b == 46 || decide (0 ≤ sideU b))) (by decide +kernel) b
  simpa using this
theorem side_range (b : UInt8) : sideU b = -1 ∨ sideU b = 0 ∨ sideU b = 1 := by
  have := u8_all (fun b => sideU b == -1 || (sideU b == 0 || sideU b == 1)) (by decide +kernel) b
  simpa using this
theorem bt_get (s : ByteArray) (i : Nat) (h : i < s.size) : bt s (i : Int) = ((s.get! i).toNat : Int) := by
  unfold bt
  rw [dif_pos (by simpa using h)]
  have e : s.get! i = s.data[i]'h := by
    simp [ByteArray.get!, h]
  rw [e]; rfl
theorem rside_eq' (k : Nat) (hk : 1 ≤ k) (b : UInt8) : riverbankref02_Side.f k (b.toNat : Int) = some (sideU b) := by
  obtain ⟨m, rfl⟩ : ∃ m, k = m + 1 := ⟨k - 1, by omega⟩
  rw [rside_eq, side_f]
theorem eq46 (b : UInt8) : ((b.toNat : Int) = 46) = (b = 46) := by
  apply propext
  constructor
  · intro h; exact UInt8.toNat_inj.mp (by simpa using (by omega : b.toNat = 46))
  · intro h; subst h; rfl
theorem is_loop (s : ByteArray) (hs : s.size = 90) (d : Nat) : ∀ (k i : Nat), i + d = 90 → d + 1 < k → ∃ b, riverbankref02_Is.l0 k s (i : Int) = some b ∧ (b = true ↔ ∀ j, i ≤ j → j < 90 → okCell (s.get! j) = true) := by
  induction d with
  | zero =>
    intro k i hi hk
    obtain ⟨k, rfl⟩ : ∃ m, k = m + 1 := ⟨k - 1, by omega⟩
    refine ⟨true, by simp only [riverbankref02_Is.l0]; rw [if_neg (by omega)], ?_⟩
    simp; intro j h1 h2; omega
  | succ d ih =>
    intro k i hi hk
    obtain ⟨k, rfl⟩ : ∃ m, k = m + 1 := ⟨k - 1, by omega⟩
    obtain ⟨b, hb, hiff⟩ := ih k (i + 1) (by omega) (by omega)
    have hw : wrap64 ((i : Int) + 1) = ((i + 1 : Nat) : Int) := by rw [w64 _ (by omega) (by omega)]; rfl
    simp only [riverbankref02_Is.l0]
    rw [if_pos (by omega), if_pos (by omega), if_pos (by omega), bt_get s i (by omega), rside_eq' k (by omega), hw, hb]
    simp only [Option.bind_some]
    have hc := side_cell (s.get! i)
    by_cases h46 : ((s.get! i).toNat : Int) = 46
    · rw [if_pos h46]
      rw [eq46] at h46
      refine ⟨b, rfl, hiff.trans ⟨fun h j h1 h2 => ?_, fun h j h1 h2 => h j (by omega) h2⟩⟩
      by_cases e : j = i
      · subst e; rw [hc, h46]; rfl
      · exact h j (by omega) h2
    · rw [if_neg h46]
      rw [eq46] at h46
      by_cases h0 : sideU (s.get! i) < 0
      · rw [if_pos h0]
        refine ⟨false, rfl, ⟨fun h => (by cases h), fun h => ?_⟩⟩
        have := h i (Nat.le_refl _) (by omega)
        rw [hc] at this
        simp [h46] at this; omega
      · rw [if_neg h0]
        refine ⟨b, rfl, hiff.trans ⟨fun h j h1 h2 => ?_, fun h j h1 h2 => h j (by omega) h2⟩⟩
        by_cases e : j = i
        · subst e; rw [hc]; simp; right; omega
        · exact h j (by omega) h2
theorem rIs_eq (k : Nat) (hk : 100 ≤ k) (s : ByteArray) : riverbankref02_Is.f k s = board_Is.f s := by
  unfold riverbankref02_Is.f board_Is.f
  by_cases hs : s.size = 90
  · rw [if_pos (by omega)]
    obtain ⟨b, hb, hiff⟩ := is_loop s hs 90 k 0 (by omega) (by omega)
    rw [show ((0 : Nat) : Int) = 0 from rfl] at hb
    rw [hb]
    have h2 := all_okCell s
    rw [hs] at h2
    congr 1
    cases b with
    | true => simp only [hs, decide_true, Bool.true_and]; exact (h2.mpr (fun j hj => (hiff.mp rfl) j (by omega) hj)).symm
    | false =>
      simp only [hs, decide_true, Bool.true_and]
      cases e : s.data.toList.all okCell with
      | false => rfl
      | true => exact absurd (hiff.mpr (fun j _ hj => h2.mp e j hj)) (by simp)
  · rw [if_neg (by omega)]; simp [hs]
theorem board_size {s : ByteArray} (h : board_Is.f s = some true) : s.size = 90 := by
  unfold board_Is.f at h; have := Option.some.inj h; simp at this; exact this.1
theorem board_cell {s : ByteArray} (h : board_Is.f s = some true) (j : Nat) (hj : j < 90) : okCell (s.get! j) = true := by
  have hs := board_size h
  unfold board_Is.f at h; have := Option.some.inj h; simp only [Bool.and_eq_true] at this
  exact (all_okCell s).mp this.2 j (by omega)
theorem board_tf (s : ByteArray) : board_Is.f s = some true ∨ board_Is.f s = some false := by
  unfold board_Is.f
  cases (decide (s.size = 90) && s.data.toList.all okCell) <;> simp

end Go.Proofs.Ytmfbgcimfmgobaa.KeyRef

-- of YtmfbgcimfmgobaaKeyRefThree
/- Boards with one byte turned, and their keys. -/
namespace Go.Proofs.Ytmfbgcimfmgobaa.KeyRef
open Go.RowKit Go.Proofs.Ytmfbgcimfmgobaa.Print Go.Proofs.Ytmfbgcimfmgobaa.KeyMath Go.Proofs.YtmfbgcimfmgobaaW.PrintWords Go.Proofs.YtmfbgcimfmgobaaW.PrintLast
/-- A text with byte n turned to c. -/
def setL (s : ByteArray) (n : Nat) (c : UInt8) : ByteArray := ⟨(s.data.toList.set n c).toArray⟩
theorem setL_size (s : ByteArray) (n : Nat) (c : UInt8) : (setL s n c).size = s.size := by
  show (s.data.toList.set n c).toArray.size = s.data.size
  simp
theorem get_list (s : ByteArray) (j : Nat) (h : j < s.size) : s.get! j = s.data.toList[j]'(by simpa using h) := by
  have e : s.get! j = s.data[j]'h := by simp [ByteArray.get!, h]
  rw [e]; simp
theorem setL_get (s : ByteArray) (n : Nat) (c : UInt8) (j : Nat) (h : j < s.size) : (setL s n c).get! j = if n = j then c else s.get! j := by
  rw [get_list _ _ (by rw [setL_size]; exact h), get_list _ _ h]
  have e : (setL s n c).data.toList = s.data.toList.set n c := by simp [setL]
  rw [List.getElem_of_eq e, List.getElem_set]
theorem setB_setL (s : ByteArray) (n : Nat) (c : UInt8) (h : n < s.size) : setB s n c = setL s n c := by
  have e : (setB s n c).data.toList = s.data.toList.set n c := by
    have hl : n < s.data.toList.length := by simpa using h
    unfold setB
    rw [List.set_eq_take_append_cons_drop, if_pos hl]
    simp [ByteArray.data_append, List.append_assoc]
    exact List.take_of_length_le (by simp)
  apply ByteArray.ext
  apply Array.toList_inj.mp
  rw [e]; simp [setL]
theorem setL_board (s : ByteArray) (n : Nat) (c : UInt8) (h : board_Is.f s = some true) (hc : okCell c = true) : board_Is.f (setL s n c) = some true := by
  have hs := board_size h
  unfold board_Is.f
  have h2 := (all_okCell (setL s n c)).mpr (fun j hj => by
    rw [setL_size] at hj
    rw [setL_get s n c j hj]
    split
    · exact hc
    · exact board_cell h j (by omega))
  rw [h2, setL_size, hs]; rfl
end Go.Proofs.Ytmfbgcimfmgobaa.KeyRef

-- of YtmfbgcimfmgobaaTotMath
/- The document's moves are told for every board: each function comes to an end. -/
namespace Go.Proofs.Ytmfbgcimfmgobaa.TotMath
open Go.RowKit Go.Proofs.Ytmfbgcimfmgobaa.Print Go.Proofs.Ytmfbgcimfmgobaa.KeyMath Go.Proofs.Ytmfbgcimfmgobaa.KeyRef Go.Proofs.YtmfbgcimfmgobaaW.PrintWords Go.Proofs.YtmfbgcimfmgobaaW.PrintLast
/-- From some number of rounds on it tells v. -/
def Ev {α : Type} (F : Nat → Option α) (v : α) : Prop := ∃ K, ∀ k, K ≤ k → F k = some v
def Tot {α : Type} (F : Nat → Option α) (P : α → Prop) : Prop := ∃ v, P v ∧ Ev F v
variable {α β : Type}
theorem Ev.uniq {F : Nat → Option α} {u v : α} (h : Ev F u) (g : Ev F v) : u = v := by
  obtain ⟨K, h⟩ := h
  obtain ⟨L, g⟩ := g
  have a := h (K + L) (by omega)
  rw [g (K + L) (by omega)] at a
  exact (Option.some.inj a).symm
theorem Tot.ret {P : α → Prop} {v : α} (h : P v) : Tot (fun _ => some v) P := ⟨v, h, 0, fun _ _ => rfl⟩
theorem Tot.c {F : Option α} (h : ∃ v, F = some v) : Tot (fun _ => F) (fun _ => True) := by
  obtain ⟨v, h⟩ := h
  exact ⟨v, trivial, 0, fun _ _ => h⟩
theorem Tot.is {F : Nat → Option α} {v : α} (h : Ev F v) : Tot F (fun u => u = v) := ⟨v, rfl, h⟩
theorem Tot.ite {c : Prop} [Decidable c] {F G : Nat → Option α} {P : α → Prop} (h1 : c → Tot F P) (h2 : ¬ c → Tot G P) : Tot (fun k => if c then F k else G k) P := by
  by_cases h : c
  · have e : (fun k => if c then F k else G k) = F := by funext k; rw [if_pos h]
    rw [e]; exact h1 h
  · have e : (fun k => if c then F k else G k) = G := by funext k; rw [if_neg h]
    rw [e]; exact h2 h
theorem Tot.bind {F : Nat → Option α} {G : α → Nat → Option β} {P : α → Prop} {Q : β → Prop} (h : Tot F P) (g : ∀ v, P v → Ev F v → Tot (G v) Q) : Tot (fun k => (F k).bind fun v => G v k) Q := by
  obtain ⟨v, hp, hv⟩ := h
  obtain ⟨u, hq, L, hu⟩ := g v hp hv
  obtain ⟨K, hv⟩ := hv
  exact ⟨u, hq, K + L, fun k hk => by simp only [hv k (by omega), Option.bind_some, hu k (by omega)]⟩
theorem Tot.succ {F : Nat → Option α} {P : α → Prop} (h : Tot (fun k => F (k + 1)) P) : Tot F P := by
  obtain ⟨v, hp, K, hv⟩ := h
  refine ⟨v, hp, K + 1, fun k hk => ?_⟩
  obtain ⟨k, rfl⟩ : ∃ m, k = m + 1 := ⟨k - 1, by omega⟩
  exact hv k (by omega)
theorem Tot.mono {F : Nat → Option α} {P Q : α → Prop} (h : Tot F P) (g : ∀ v, P v → Ev F v → Q v) : Tot F Q := by
  obtain ⟨v, hp, hv⟩ := h
  exact ⟨v, g v hp hv, hv⟩
theorem bt_byte (s : ByteArray) (i : Int) : ∃ b : UInt8, bt s i = (b.toNat : Int) := by
  unfold bt
  split
  · exact ⟨_, rfl⟩
  · exact ⟨0, rfl⟩
theorem wi {x : Int} (h : -1000000 ≤ x) (h2 : x ≤ 1000000) : wrap64 x = x := by unfold wrap64; omega

theorem e_Side (b : UInt8) : Ev (fun k => riverbankref02_Side.f k (b.toNat : Int)) (sideU b) := ⟨1, fun k hk => rside_eq' k hk b⟩
theorem t_Side (s : ByteArray) (i : Int) : Tot (fun k => riverbankref02_Side.f k (bt s i)) (fun v => v = -1 ∨ v = 0 ∨ v = 1) := by
  obtain ⟨b, hb⟩ := bt_byte s i
  rw [hb]
  exact ⟨sideU b, side_range b, e_Side b⟩
theorem e_Is (s : ByteArray) (v : Bool) (h : board_Is.f s = some v) : Ev (fun k => riverbankref02_Is.f k s) v := ⟨100, fun k hk => (rIs_eq k hk s).trans h⟩
theorem t_Kind (s : ByteArray) (i : Int) : Tot (fun k => riverbankref02_Kind.f k (bt s i)) (fun _ => True) := by
  unfold riverbankref02_Kind.f
  refine Tot.bind (t_Side s i) (fun v _ _ => ?_)
  refine Tot.ite (fun _ => Tot.ret trivial) (fun _ => Tot.ite (fun _ => Tot.ret trivial) (fun _ => Tot.ret trivial))
theorem c_real (a b : Int) : ∃ v, riverbankref03_real.f a b = some v := by
  unfold riverbankref03_real.f; repeat (first | exact ⟨_, rfl⟩ | split)
theorem c_File (a : Int) : ∃ v, riverbankref02_File.f a = some v := by
  unfold riverbankref02_File.f; repeat (first | exact ⟨_, rfl⟩ | split)
theorem c_Rank (a : Int) : ∃ v, riverbankref02_Rank.f a = some v := by
  unfold riverbankref02_Rank.f; repeat (first | exact ⟨_, rfl⟩ | split)
theorem c_own (a b : Int) : ∃ v, riverbankref03_own.f a b = some v := by
  unfold riverbankref03_own.f
  obtain ⟨v, h⟩ := c_Rank a
  rw [h]; simp only [Option.bind_some]
  split <;> exact ⟨_, rfl⟩
theorem c_Palace (a b : Int) : ∃ v, riverbankref03_Palace.f a b = some v := by
  unfold riverbankref03_Palace.f
  obtain ⟨v, h⟩ := c_File a
  obtain ⟨u, g⟩ := c_real a b
  obtain ⟨t, f⟩ := c_own a b
  rw [h, g]; simp only [Option.bind_some]
  rw [f]; simp only [Option.bind_some]
  repeat (first | exact ⟨_, rfl⟩ | split)
theorem c_Over (a b : Int) : ∃ v, riverbankref03_Over.f a b = some v := by
  unfold riverbankref03_Over.f
  obtain ⟨u, g⟩ := c_real a b
  obtain ⟨t, f⟩ := c_own a b
  rw [g]; simp only [Option.bind_some]
  rw [f]; simp only [Option.bind_some]
  repeat (first | exact ⟨_, rfl⟩ | split)
theorem c_advisor (a b : Int) : ∃ v, riverbankref03_advisor.f a b = some v := by
  unfold riverbankref03_advisor.f; repeat (first | exact ⟨_, rfl⟩ | split)
theorem c_away (a b : Int) : ∃ v, riverbankref05_away.f a b = some v := ⟨_, rfl⟩
theorem t_elephant (a b : Int) : Tot (fun k => riverbankref03_elephant.f k a b) (fun _ => True) := by
  unfold riverbankref03_elephant.f
  have h : ∀ c, Tot (fun k => riverbankref03_elephant.j0 k a b c) (fun _ => True) := by
    intro c
    refine Tot.succ ?_
    simp only [riverbankref03_elephant.j0]
    (repeat' (first | exact Tot.ret trivial | exact Tot.c (c_real _ _) | exact Tot.c (c_File _) | exact Tot.c (c_own _ _) | exact Tot.c (c_Palace _ _) | exact Tot.c (c_Over _ _) | exact Tot.c (c_advisor _ _) | exact Tot.c (c_away _ _) | exact t_Side _ _ | exact t_Kind _ _ | refine Tot.ite (fun _ => ?_) (fun _ => ?_) | refine Tot.bind (Tot.c (c_real _ _)) (fun _ _ _ => ?_) | refine Tot.bind (Tot.c (c_File _)) (fun _ _ _ => ?_) | refine Tot.bind (Tot.c (c_own _ _)) (fun _ _ _ => ?_) | refine Tot.bind (Tot.c (c_Palace _ _)) (fun _ _ _ => ?_) | refine Tot.bind (Tot.c (c_Over _ _)) (fun _ _ _ => ?_) | refine Tot.bind (Tot.c (c_advisor _ _)) (fun _ _ _ => ?_) | refine Tot.bind (Tot.c (c_away _ _)) (fun _ _ _ => ?_) | refine Tot.bind (t_Side _ _) (fun _ _ _ => ?_) | refine Tot.bind (t_Kind _ _) (fun _ _ _ => ?_)))
  exact Tot.ite (fun _ => h _) (fun _ => h _)
end Go.Proofs.Ytmfbgcimfmgobaa.TotMath
