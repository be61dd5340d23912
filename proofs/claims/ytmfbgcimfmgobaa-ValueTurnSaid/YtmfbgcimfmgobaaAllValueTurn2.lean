/- Merged by a program of this session (wip/gprint/merge.py): what this claim needs of this session's texts, each part as it was. -/
import Derived.Test.YtmfbgcimfmgobaaAllValueTurn1

-- of YtmfbgcimfmgobaaPrint31
-- Written by a program of this session (wip/gprint/gprint.py) over the kit's print; the parts marked GIVEN by hand.
namespace Go.Proofs.Ytmfbgcimfmgobaa.Print
open Go.RowKit Go.Proofs.YtmfbgcimfmgobaaW.PrintWords Go.Proofs.YtmfbgcimfmgobaaW.PrintLast Go.Proofs.YtmfbgcimfmgobaaW.PrintMore
attribute [local go_sem] max2_int min2_int max_two min_two max_three min_three max_four min_four   -- for this text's walks alone
set_option linter.unusedVariables false
set_option linter.unusedSimpArgs false
/-! GIVEN value_Of -/
-- GIVEN riverbank/value.Of
-- MAKES yes
-- IMPORT Derived.Deep.RegionWith
-- IMPORT Derived.Test.YtmfbgcimfmgobaaBytes
/-- What the first n squares are worth to a side. -/
def pieceN (s : ByteArray) (n : Nat) : Int := (value_Piece.f 200 (bt s n) n).getD 0
def sideSum (s : ByteArray) (side : Int) : Nat → Int
  | 0 => 0
  | n + 1 => if board_Side.f (bt s n) = some side then wrap64 (sideSum s side n + pieceN s n) else sideSum s side n
def value_Of.f (a0_0 : ByteArray) (a0_1 : Int) (a0_2 : Int) (a0_3 : Int) : Option (Int) := (board_Is.f a0_0).bind fun t => if t = true then (if a0_1 = 0 then some (wrap64 (sideSum a0_0 0 90 - sideSum a0_0 1 90)) else some (wrap64 (-wrap64 (sideSum a0_0 0 90 - sideSum a0_0 1 90)))) else some 0

theorem side_cases (c : Int) : board_Side.f c = some (-1) ∨ board_Side.f c = some 0 ∨ board_Side.f c = some 1 := by
  unfold board_Side.f strings_IndexByte.f
  simp only [Option.bind_some]
  split
  · exact .inr (.inl rfl)
  · split
    · exact .inr (.inr rfl)
    · exact .inl rfl
theorem bkind_some (c : Int) : ∃ v, board_Kind.f c = some v := by
  unfold board_Kind.f
  rcases side_cases c with h | h | h <;> rw [h] <;> simp only [Option.bind_some] <;> repeat (first | exact ⟨_, rfl⟩ | split)
theorem vkind_some (c : Int) : ∃ v, value_Kind.f c = some v := by
  unfold value_Kind.f strings_IndexByte.f
  obtain ⟨t, ht⟩ := bkind_some c
  rw [ht]; simp only [Option.bind_some]
  split <;> exact ⟨_, rfl⟩
theorem pover_some (k : Nat) (a b : Int) : ∃ v, place_Over.f (k + 1) a b = some v := by
  unfold place_Over.f place_seen.f place_spot_over.f
  simp only [place_seen.j0]
  repeat (first | exact ⟨_, rfl⟩ | split)
theorem bfile_some (a : Int) : ∃ v, board_File.f a = some v := by
  unfold board_File.f board_isSquare.f
  split <;> simp only [Option.bind_some] <;> split <;> exact ⟨_, rfl⟩
theorem brank_some (a : Int) : ∃ v, board_Rank.f a = some v := by
  unfold board_Rank.f board_isSquare.f
  split <;> simp only [Option.bind_some] <;> split <;> exact ⟨_, rfl⟩
theorem piece1_some (k : Nat) (a b c d e : Int) : ∃ v, value_Piece.j1 (k + 2) a b c d e = some v := by
  simp only [value_Piece.j1]
  obtain ⟨t, ht⟩ := vkind_some a
  obtain ⟨u, hu⟩ := bkind_some a
  obtain ⟨o, ho⟩ := pover_some k b c
  rw [ht]; simp only [Option.bind_some]
  rw [hu]; simp only [Option.bind_some]
  rw [ho]; simp only [Option.bind_some]
  repeat (first | exact ⟨_, rfl⟩ | split)
theorem piece_some (c : Int) (n : Nat) : ∃ v, value_Piece.f 200 c n = some v := by
  unfold value_Piece.f
  obtain ⟨s, hs⟩ : ∃ s, board_Side.f c = some s := by rcases side_cases c with h | h | h <;> exact ⟨_, h⟩
  obtain ⟨f, hf⟩ := bfile_some n
  obtain ⟨r, hr⟩ := brank_some n
  rw [hs]; simp only [Option.bind_some]
  rw [hf]; simp only [Option.bind_some]
  rw [hr]; simp only [Option.bind_some]
  simp only [value_Piece.j0]
  repeat (first | exact ⟨_, rfl⟩ | exact piece1_some _ _ _ _ _ _ | split)
theorem pieceN_is (s : ByteArray) (n : Nat) : value_Piece.f 200 (bt s n) n = some (pieceN s n) := by
  obtain ⟨v, hv⟩ := piece_some (bt s n) n
  unfold pieceN; rw [hv]; rfl

theorem two_cell {W : World} {B : Nat} {v u : Value} {t : TypeId} (h : W.heap[B]? = some (.cells #[v, u] t (0, 0))) : W.cell? ⟨B, 0, none⟩ = some v ∧ W.frozen? ⟨B, 0, none⟩ = false := by
  constructor <;> simp [World.cell?, World.frozen?, h]
theorem two_cell1 {W : World} {B : Nat} {v u : Value} {t : TypeId} (h : W.heap[B]? = some (.cells #[v, u] t (0, 0))) : W.cell? ⟨B, 1, none⟩ = some u ∧ W.frozen? ⟨B, 1, none⟩ = false := by
  constructor <;> simp [World.cell?, World.frozen?, h]
theorem cell_later_alloc2 {W : World} {a : Addr} {v : Value} (o : Obj) (h : W.cell? a = some v) : (W.alloc o).cell? a = some v :=
  (Below.cell (B := W.heap.size) ((Below.refl _ W).alloc (Nat.le_refl _) o) (p := a) (World.block_lt_of_cell? W _ h)).trans h

theorem cell_set_other (W : World) (B i C j : Nat) (u : Value) {v : Value} (hne : B ≠ C ∨ i ≠ j) (h : W.cell? ⟨C, j, none⟩ = some v) : (W.setCell ⟨B, i, none⟩ u).cell? ⟨C, j, none⟩ = some v :=
  (World.cell?_setCell_other W ⟨B, i, none⟩ ⟨C, j, none⟩ u (by intro e; injection e; omega)).trans h

set_option maxRecDepth 100000 in
set_option maxHeartbeats 4000000 in
theorem value_Of.board (a0_0 : ByteArray) (a0_1 : Int) (a0_2 : Int) (a0_3 : Int) (r : Int) (w : World) (hI : board_Is.f a0_0 = some true)
    (hr : r = if a0_1 = 0 then wrap64 (sideSum a0_0 0 90 - sideSum a0_0 1 90) else wrap64 (-wrap64 (sideSum a0_0 0 90 - sideSum a0_0 1 90))) :
    Calls Try.prog 37 #[.agg #[.string a0_0, .int .i64 a0_1, .int .i64 a0_2, .int .i64 a0_3]] w fun e w' => e = .returned (.int .i64 r) ∧ Below w.heap.size w w' := by
  have hsz : a0_0.size = 90 := by
    unfold board_Is.f at hI; have := Option.some.inj hI; simp at this; exact this.1
  have HR := Aside0.mk hr
  have HI := Aside0.mk hI
  clear hI hr
  have hs1 : a0_0.size ≤ 90 := by omega
  have hs2 : 90 ≤ a0_0.size := by omega
  clear hsz
  go_enter Try.func37, Try.ntmps37
  go_wp2_with fail
  refine (board_Is.calls _ true _ HI.out).mono ?_
  rintro e w1 ⟨rfl, hb1⟩
  have c0 : w1.cell? ⟨w.heap.size, 0, none⟩ = some (.string a0_0) := (hb1.cell (p := ⟨w.heap.size, 0, none⟩) (by simp)).trans (by simp)
  have c1 : w1.cell? ⟨w.heap.size, 1, none⟩ = some (.int .i64 a0_1) := (hb1.cell (p := ⟨w.heap.size, 1, none⟩) (by simp)).trans (by simp)
  have hB1 : Below w.heap.size w w1 := ((Below.refl _ w).alloc (Nat.le_refl _) _).trans (hb1.mono (by simp))
  have hz1 : w.heap.size + 1 ≤ w1.heap.size := by have := hb1.size; simp at this; omega
  clear hb1
  go_wp2
  have n0 := World.alloc_heap_new w1 (.cells #[.int .i64 0, .int .i64 0] 78)
  have e0 : (w1.alloc (.cells #[.int .i64 0, .int .i64 0] 78)).cell? ⟨w1.heap.size, 0, none⟩ = some (.int .i64 0) ∧ (w1.alloc (.cells #[.int .i64 0, .int .i64 0] 78)).frozen? ⟨w1.heap.size, 0, none⟩ = false := two_cell n0
  have e1 : (w1.alloc (.cells #[.int .i64 0, .int .i64 0] 78)).cell? ⟨w1.heap.size, 1, none⟩ = some (.int .i64 0) ∧ (w1.alloc (.cells #[.int .i64 0, .int .i64 0] 78)).frozen? ⟨w1.heap.size, 1, none⟩ = false := two_cell1 n0
  go_loopw [11] (fun i wr => ∃ k : Nat, i = .int .i64 k ∧ k ≤ 90 ∧ wr.cell? ⟨w.heap.size, 0, none⟩ = some (.string a0_0) ∧ wr.cell? ⟨w.heap.size, 1, none⟩ = some (.int .i64 a0_1) ∧
      (wr.cell? ⟨w1.heap.size, 0, none⟩ = some (.int .i64 (sideSum a0_0 0 k)) ∧ wr.frozen? ⟨w1.heap.size, 0, none⟩ = false) ∧ (wr.cell? ⟨w1.heap.size, 1, none⟩ = some (.int .i64 (sideSum a0_0 1 k)) ∧ wr.frozen? ⟨w1.heap.size, 1, none⟩ = false) ∧ Below w.heap.size w wr) (fun i _ => 90 - (intOf i).toNat)
  case atStart =>
    exact ⟨0, rfl, by omega, cell_later_alloc2 _ c0, cell_later_alloc2 _ c1, e0, e1, hB1.alloc hB1.size _⟩
  case round =>
    clear c0 c1 e0 e1 n0 hB1
    obtain ⟨k, rfl, hk, f0, f1, ⟨g0, z0⟩, ⟨g1, z1⟩, hB⟩ := hrel
    by_cases hlt : k < 90
    · have hk' : k < a0_0.size := by omega
      have ex : ((a0_0[k]'hk').toNat : Int) = bt a0_0 k := by simp [bt, hk']
      have hp := pieceN_is a0_0 k
      rw [← ex] at hp
      have hA : sideSum a0_0 0 (k + 1) = if board_Side.f (bt a0_0 k) = some 0 then wrap64 (sideSum a0_0 0 k + pieceN a0_0 k) else sideSum a0_0 0 k := rfl
      have hC : sideSum a0_0 1 (k + 1) = if board_Side.f (bt a0_0 k) = some 1 then wrap64 (sideSum a0_0 1 k + pieceN a0_0 k) else sideSum a0_0 1 k := rfl
      rw [← ex] at hA hC
      obtain ⟨x0, hx0⟩ : ∃ x, x = sideSum a0_0 0 k := ⟨_, rfl⟩
      obtain ⟨x1, hx1⟩ : ∃ x, x = sideSum a0_0 1 k := ⟨_, rfl⟩
      obtain ⟨p, hpe⟩ : ∃ x, x = pieceN a0_0 k := ⟨_, rfl⟩
      rw [← hx0, ← hpe] at hA
      rw [← hx1, ← hpe] at hC
      rw [← hx0] at g0
      rw [← hx1] at g1
      rw [← hpe] at hp
      have HP := Aside0.mk hp
      clear hx0 hx1 hpe hp ex
      rcases side_cases ((a0_0[k]'hk').toNat : Int) with hs | hs | hs
      · rw [hs, if_neg (by decide)] at hA
        rw [hs, if_neg (by decide)] at hC
        have HS := Aside0.mk hs
        have HA := Aside0.mk hA
        have HC := Aside0.mk hC
        clear hs hA hC
        go_wp2_with (go_at_call 43; (with_reducible refine (board_Side.calls _ (-1) _ HS.out).mono ?_); rintro e w' ⟨rfl, ⟨q, rfl⟩⟩)
        go_roundw
        case rel => exact ⟨k + 1, by go_num, by omega, f0, f1, ⟨by rw [HA.out]; exact g0, z0⟩, ⟨by rw [HC.out]; exact g1, z1⟩, ⟨hB.os, hB.tape, hB.output, hB.size, hB.block⟩⟩
        case measure => simp [intOf]; omega
      · rw [hs, if_pos rfl] at hA
        rw [hs, if_neg (by decide)] at hC
        have HS := Aside0.mk hs
        have HA := Aside0.mk hA
        have HC := Aside0.mk hC
        clear hs hA hC
        go_wp2_with (go_at_call 43; (with_reducible refine (board_Side.calls _ 0 _ HS.out).mono ?_); rintro e w' ⟨rfl, ⟨q, rfl⟩⟩)
        have l0 := World.block_lt_of_cell? wr _ f0
        have l1 := World.block_lt_of_cell? wr _ g0
        go_region_with ((go_at_call 34; (with_reducible refine (value_Piece.calls _ _ _ p _ HP.out).mono ?_); rintro e w3 ⟨rfl, hb3⟩; have f0' : w3.cell? ⟨w.heap.size, 0, none⟩ = some (.string a0_0) := (hb3.cell (p := ⟨w.heap.size, 0, none⟩) (by simpa using l0)).trans f0; have f1' : w3.cell? ⟨w.heap.size, 1, none⟩ = some (.int .i64 a0_1) := (hb3.cell (p := ⟨w.heap.size, 1, none⟩) (by simpa using l0)).trans f1; have g0' : w3.cell? ⟨w1.heap.size, 0, none⟩ = some (.int .i64 x0) := (hb3.cell (p := ⟨w1.heap.size, 0, none⟩) (by simpa using l1)).trans g0; have z0' : w3.frozen? ⟨w1.heap.size, 0, none⟩ = false := (hb3.frozen (p := ⟨w1.heap.size, 0, none⟩) (by simpa using l1)).trans z0; have g1' : w3.cell? ⟨w1.heap.size, 1, none⟩ = some (.int .i64 x1) := (hb3.cell (p := ⟨w1.heap.size, 1, none⟩) (by simpa using l1)).trans g1; have z1' : w3.frozen? ⟨w1.heap.size, 1, none⟩ = false := (hb3.frozen (p := ⟨w1.heap.size, 1, none⟩) (by simpa using l1)).trans z1; have hB3 : Below w.heap.size w w3 := below_past hB rfl hb3))
        all_goals
          have u0 := cell_set_other w3 w1.heap.size 0 w.heap.size 0 (.int .i64 (wrap64 (x0 + p))) (by omega) f0'
          have u1 := cell_set_other w3 w1.heap.size 0 w.heap.size 1 (.int .i64 (wrap64 (x0 + p))) (by omega) f1'
          have u2 := World.cell?_setCell_same' w3 ⟨w1.heap.size, 0, none⟩ (.int .i64 (wrap64 (x0 + p))) (by rw [g0']; rfl)
          have u3 := cell_set_other w3 w1.heap.size 0 w1.heap.size 1 (.int .i64 (wrap64 (x0 + p))) (by omega) g1'
          go_wp2
          go_roundw
          case rel => exact ⟨k + 1, by go_num, by omega, u0, u1, ⟨by rw [HA.out]; exact u2, by rw [World.frozen?_setCell]; exact z0'⟩, ⟨by rw [HC.out]; exact u3, by rw [World.frozen?_setCell]; exact z1'⟩, hB3.setCell (p := ⟨w1.heap.size, 0, none⟩) (by simp; omega) _⟩
          case measure => simp [intOf]; omega
      · rw [hs, if_neg (by decide)] at hA
        rw [hs, if_pos rfl] at hC
        have HS := Aside0.mk hs
        have HA := Aside0.mk hA
        have HC := Aside0.mk hC
        clear hs hA hC
        go_wp2_with (go_at_call 43; (with_reducible refine (board_Side.calls _ 1 _ HS.out).mono ?_); rintro e w' ⟨rfl, ⟨q, rfl⟩⟩)
        have l0 := World.block_lt_of_cell? wr _ f0
        have l1 := World.block_lt_of_cell? wr _ g0
        go_region_with ((go_at_call 34; (with_reducible refine (value_Piece.calls _ _ _ p _ HP.out).mono ?_); rintro e w3 ⟨rfl, hb3⟩; have f0' : w3.cell? ⟨w.heap.size, 0, none⟩ = some (.string a0_0) := (hb3.cell (p := ⟨w.heap.size, 0, none⟩) (by simpa using l0)).trans f0; have f1' : w3.cell? ⟨w.heap.size, 1, none⟩ = some (.int .i64 a0_1) := (hb3.cell (p := ⟨w.heap.size, 1, none⟩) (by simpa using l0)).trans f1; have g0' : w3.cell? ⟨w1.heap.size, 0, none⟩ = some (.int .i64 x0) := (hb3.cell (p := ⟨w1.heap.size, 0, none⟩) (by simpa using l1)).trans g0; have z0' : w3.frozen? ⟨w1.heap.size, 0, none⟩ = false := (hb3.frozen (p := ⟨w1.heap.size, 0, none⟩) (by simpa using l1)).trans z0; have g1' : w3.cell? ⟨w1.heap.size, 1, none⟩ = some (.int .i64 x1) := (hb3.cell (p := ⟨w1.heap.size, 1, none⟩) (by simpa using l1)).trans g1; have z1' : w3.frozen? ⟨w1.heap.size, 1, none⟩ = false := (hb3.frozen (p := ⟨w1.heap.size, 1, none⟩) (by simpa using l1)).trans z1; have hB3 : Below w.heap.size w w3 := below_past hB rfl hb3))
        all_goals
          have u0 := cell_set_other w3 w1.heap.size 1 w.heap.size 0 (.int .i64 (wrap64 (x1 + p))) (by omega) f0'
          have u1 := cell_set_other w3 w1.heap.size 1 w.heap.size 1 (.int .i64 (wrap64 (x1 + p))) (by omega) f1'
          have u2 := World.cell?_setCell_same' w3 ⟨w1.heap.size, 1, none⟩ (.int .i64 (wrap64 (x1 + p))) (by rw [g1']; rfl)
          have u3 := cell_set_other w3 w1.heap.size 1 w1.heap.size 0 (.int .i64 (wrap64 (x1 + p))) (by omega) g0'
          go_wp2
          go_roundw
          case rel => exact ⟨k + 1, by go_num, by omega, u0, u1, ⟨by rw [HA.out]; exact u3, by rw [World.frozen?_setCell]; exact z0'⟩, ⟨by rw [HC.out]; exact u2, by rw [World.frozen?_setCell]; exact z1'⟩, hB3.setCell (p := ⟨w1.heap.size, 1, none⟩) (by simp; omega) _⟩
          case measure => simp [intOf]; omega
    · obtain rfl : k = 90 := by omega
      have hr := HR.out
      obtain ⟨x0, hx0⟩ : ∃ x, x = sideSum a0_0 0 90 := ⟨_, rfl⟩
      obtain ⟨x1, hx1⟩ : ∃ x, x = sideSum a0_0 1 90 := ⟨_, rfl⟩
      rw [← hx0, ← hx1] at hr
      rw [← hx0] at g0
      rw [← hx1] at g1
      clear HR hx0 hx1
      by_cases hz : a0_1 = 0
      · rw [if_pos hz] at hr
        have hz0 : (a0_1 == 0) = true := by simp [hz]
        have hz0' : (a0_1 != 0) = false := by simp [hz]
        have HR := Aside0.mk hr
        clear hr hz
        go_wp2
        go_ret
        exact ⟨by rw [HR.out]; rfl, hB⟩
      · rw [if_neg hz] at hr
        have hz0 : (a0_1 == 0) = false := by simp [hz]
        have hz0' : (a0_1 != 0) = true := by simp [hz]
        have HR := Aside0.mk hr
        clear hr hz
        go_wp2
        go_ret
        exact ⟨by rw [HR.out]; rfl, hB⟩

set_option maxHeartbeats 1000000 in
theorem value_Of.other (a0_0 : ByteArray) (a0_1 : Int) (a0_2 : Int) (a0_3 : Int) (w : World) (hI : board_Is.f a0_0 = some false) :
    Calls Try.prog 37 #[.agg #[.string a0_0, .int .i64 a0_1, .int .i64 a0_2, .int .i64 a0_3]] w fun e w' => e = .returned (.int .i64 0) ∧ Below w.heap.size w w' := by
  have HI := Aside0.mk hI
  clear hI
  go_enter Try.func37, Try.ntmps37
  go_wp2_with (go_at_call 41; refine (board_Is.calls _ false _ HI.out).mono ?_; rintro e w1 ⟨rfl, hb1⟩)
  go_ret
  exact ⟨rfl, ((Below.refl _ w).alloc (Nat.le_refl _) _).trans (hb1.mono (by simp))⟩

theorem value_Of.calls (a0_0 : ByteArray) (a0_1 : Int) (a0_2 : Int) (a0_3 : Int) (r : Int) (w : World) (h : value_Of.f a0_0 a0_1 a0_2 a0_3 = some r) :
    Calls Try.prog 37 #[.agg #[.string a0_0, .int .i64 a0_1, .int .i64 a0_2, .int .i64 a0_3]] w fun e w' => e = .returned (.int .i64 r) ∧ Below w.heap.size w w' := by
  unfold value_Of.f at h
  obtain ⟨b, hb, h⟩ := Option.bind_eq_some_iff.mp h
  cases b with
  | true =>
    rw [if_pos rfl] at h
    refine value_Of.board _ _ _ _ r w hb ?_
    split at h
    · rename_i hz; rw [if_pos hz]; exact (Option.some.inj h).symm
    · rename_i hz; rw [if_neg hz]; exact (Option.some.inj h).symm
  | false => rw [if_neg (by decide)] at h; obtain rfl := Option.some.inj h; exact value_Of.other _ _ _ _ w hb

end Go.Proofs.Ytmfbgcimfmgobaa.Print

-- of YtmfbgcimfmgobaaPrint32
-- Written by a program of this session (wip/gprint/gprint.py) over the kit's print; the parts marked GIVEN by hand.
namespace Go.Proofs.Ytmfbgcimfmgobaa.Print
open Go.RowKit Go.Proofs.YtmfbgcimfmgobaaW.PrintWords Go.Proofs.YtmfbgcimfmgobaaW.PrintLast Go.Proofs.YtmfbgcimfmgobaaW.PrintMore
attribute [local go_sem] max2_int min2_int max_two min_two max_three min_three max_four min_four   -- for this text's walks alone
set_option linter.unusedVariables false
set_option linter.unusedSimpArgs false
/-! ### value_Moved: function 39 -/
def value_Moved.f (k : Nat) (a0 : Int) (a1 : Int) (a2_0 : Int) (a2_1 : Int) (a3 : Int) : Option (Int) := (value_Piece.f k a1 a2_0).bind fun t332 => ((value_Piece.f k a1 a2_1).bind fun t333 => ((value_Piece.f k a3 a2_1).bind fun t334 => (some (wrap64 ((wrap64 ((wrap64 (t332 - t333)) - t334)) - a0)))))
theorem value_Moved.mono : ∀ a0 a1 a2 a3 a4 k, LeO (value_Moved.f k a0 a1 a2 a3 a4) (value_Moved.f (k + 1) a0 a1 a2 a3 a4) := by
  intro a0 a1 a2 a3 a4 k
  unfold value_Moved.f
  repeat' first
      | (with_reducible exact value_Piece.mono _ _ _)
      | (with_reducible exact LeO.refl _)
      | (with_reducible exact LeO.none _)
      | (with_reducible refine LeO.ite ?_ ?_)
      | (with_reducible refine LeO.bind ?_ (fun _ => ?_))
      | exact value_Piece.mono _ _ _
      | exact LeO.none _
      | refine LeO.ite ?_ ?_
      | refine LeO.bind ?_ (fun _ => ?_)
def value_Moved.T1 : Bool × List (List Nat × List Nat) := (true, [([], []), ([], []), ([1], [1]), ([0, 2], [0, 2]), ([], []), ([], []), ([5], [5]), ([4, 6, 3], [4, 6]), ([3, 7], [3, 7]), ([], []), ([], []), ([10], [10]), ([9, 11, 7], [9, 11]), ([8, 12], [8, 12]), ([], []), ([13, 14], [13, 14]), ([15, 12, 0, 1, 2, 3, 4, 5, 6, 7, 8, 9, 10, 11, 12, 13, 14, 15], [15])])
def value_Moved.B1 : List Nat := [0, 0, 2, 7, 0, 0, 32, 127, 255, 0, 0, 1024, 3839, 8191, 0, 32767, 65535]
theorem value_Moved.tab1 : rtab .any (opsOf Try.f39 1) = value_Moved.T1 := by kernel_rfl
theorem value_Moved.bits1 : waitsOk value_Moved.T1.2 value_Moved.B1 = true := by kernel_rfl
set_option maxHeartbeats 8000000 in
set_option maxRecDepth 100000 in
theorem value_Moved.calls (k : Nat) (a0 : Int) (a1 : Int) (a2_0 : Int) (a2_1 : Int) (a3 : Int) (r : Int) (w : World) (h : value_Moved.f k a0 a1 a2_0 a2_1 a3 = some r) :
    Calls Try.prog 39 #[.int .i64 a0, .int .u8 a1, .agg #[.int .i64 a2_0, .int .i64 a2_1], .int .u8 a3] w fun e w' => e = .returned (.int .i64 r) ∧ Below w.heap.size w w' := by
  have hu41 := Try.underlying41
  have HB := Aside0.mk (Below.refl w.heap.size w)
  have H : ((value_Piece.f k a1 a2_0).bind fun t332 => ((value_Piece.f k a1 a2_1).bind fun t333 => ((value_Piece.f k a3 a2_1).bind fun t334 => (some (wrap64 ((wrap64 ((wrap64 (t332 - t333)) - t334)) - a0)))))) = some r := h
  clear h
  replace H := Option.bind_eq_some_iff.mp H
  obtain ⟨t332, A50, H⟩ := H
  replace H : ((value_Piece.f k a1 a2_1).bind fun t333 => ((value_Piece.f k a3 a2_1).bind fun t334 => (some (wrap64 ((wrap64 ((wrap64 (t332 - t333)) - t334)) - a0))))) = some r := H
  have A5 := Aside0.mk A50
  clear A50
  replace H := Option.bind_eq_some_iff.mp H
  obtain ⟨t333, A60, H⟩ := H
  replace H : ((value_Piece.f k a3 a2_1).bind fun t334 => (some (wrap64 ((wrap64 ((wrap64 (t332 - t333)) - t334)) - a0)))) = some r := H
  have A6 := Aside0.mk A60
  clear A60
  replace H := Option.bind_eq_some_iff.mp H
  obtain ⟨t334, A70, H⟩ := H
  replace H : (some (wrap64 ((wrap64 ((wrap64 (t332 - t333)) - t334)) - a0))) = some r := H
  have A7 := Aside0.mk A70
  clear A70
  obtain rfl := Option.some.inj H
  go_enter Try.func39, Try.ntmps39
  try go_wp2_with (first | ((with_reducible refine gate_dst (N := 6) rfl ?_); refine box_event ?hg (N := 6) ?hd (cs := #[.int .i64 a2_0, .int .i64 a2_1]) (t := 41) ?hr ?_; (case hd => rfl); (case hg => rfl); (case hr => first | (go_simp; done) | (go_simp; rfl)); intro gb331 hg w8 hbox hb; have n0_ := Aside0.mk (below_step (by repeat (first | (with_reducible first | exact HB.out | apply below_alloc | apply pw_below_drewN | apply below_drew1) | exact HB.out)) hb); have n1_ := Aside0.mk (hbox); have n2_ := Aside0.mk ((by rw [hg]; exact (below_size (by repeat (first | (with_reducible first | exact HB.out | apply below_alloc | apply pw_below_drewN | apply below_drew1) | exact HB.out))) : w.heap.size ≤ gb331)); have n3_ := Aside0.mk ((by rw [hg]; exact (below_size (by repeat (first | (with_reducible first | exact HB.out | apply below_alloc | apply pw_below_drewN | apply below_drew1) | exact HB.out))) : w.heap.size ≤ gb331)); clear HB; have HB := n0_; have BK331 := n1_; have GW331 := n2_; have GE331 := n3_; clear n0_ n1_ n2_ n3_; clear hb hbox hg))
  have n0_ := Aside0.mk (blk_drew BK331.out)
  have n1_ := Aside0.mk (below_drew1 HB.out)
  clear BK331
  clear HB
  have BK331 := n0_
  have HB := n1_
  clear n0_ n1_
  refine start_ (n := 17) (S := fun w' => w'.cell? ⟨gb331, 0, none⟩ = some (.int .i64 a2_0) ∧ w'.cell? ⟨gb331, 1, none⟩ = some (.int .i64 a2_1)) (ds := []) #[false, false, false, false, false, false, false, false, false, false, false, false, false, false, false, false, false] (by kernel_rfl) rfl rfl ⟨(blk_cell BK331.out 0).trans rfl, (blk_cell BK331.out 1).trans rfl⟩ (fun hHeld => ?_); refine with_tabW value_Moved.tab1 value_Moved.bits1 (fun HT_ HW_ => ?_)
  generalize w8.drew = w9 at BK331 HB hHeld ⊢
  refine pure_ (i := 0) (N := some 9) (v := ?_) (a' := ?_) #[true, false, false, false, false, false, false, false, false, false, false, false, false, false, false, false, false] rfl rfl (any_of HT_.out (by kernel_rfl)) (fun _ _ _ h => h) (Or.inl ⟨by rfl, ?_⟩) ?_ ?_
  rotate_left
  · intro w'
    go_simp
    with_reducible rfl
  rotate_left
  · simp only [Act.put, List.setIfInBounds_toArray, List.set_cons_zero, List.set_cons_succ, i64_w, i32_w]
    rfl
  refine pure_ (i := 1) (N := some 10) (v := ?_) (a' := ?_) #[true, true, false, false, false, false, false, false, false, false, false, false, false, false, false, false, false] rfl rfl (any_of HT_.out (by kernel_rfl)) (fun _ _ _ h => h) (Or.inl ⟨by rfl, ?_⟩) ?_ ?_
  rotate_left
  · intro w'
    go_simp
    with_reducible rfl
  rotate_left
  · simp only [Act.put, List.setIfInBounds_toArray, List.set_cons_zero, List.set_cons_succ, i64_w, i32_w]
    rfl
  refine pure_ (i := 4) (N := some 13) (v := ?_) (a' := ?_) #[true, true, false, false, true, false, false, false, false, false, false, false, false, false, false, false, false] rfl rfl (any_of HT_.out (by kernel_rfl)) (fun _ _ _ h => h) (Or.inl ⟨by rfl, ?_⟩) ?_ ?_
  rotate_left
  · intro w'
    go_simp
    with_reducible rfl
  rotate_left
  · simp only [Act.put, List.setIfInBounds_toArray, List.set_cons_zero, List.set_cons_succ, i64_w, i32_w]
    rfl
  refine pure_ (i := 5) (N := some 14) (v := ?_) (a' := ?_) #[true, true, false, false, true, true, false, false, false, false, false, false, false, false, false, false, false] rfl rfl (any_of HT_.out (by kernel_rfl)) (fun _ _ _ h => h) (Or.inl ⟨by rfl, ?_⟩) ?_ ?_
  rotate_left
  · intro w'
    go_simp
    with_reducible rfl
  rotate_left
  · simp only [Act.put, List.setIfInBounds_toArray, List.set_cons_zero, List.set_cons_succ, i64_w, i32_w]
    rfl
  refine pure_ (i := 9) (N := some 18) (v := ?_) (a' := ?_) #[true, true, false, false, true, true, false, false, false, true, false, false, false, false, false, false, false] rfl rfl (any_of HT_.out (by kernel_rfl)) (fun _ _ _ h => h) (Or.inl ⟨by rfl, ?_⟩) ?_ ?_
  rotate_left
  · intro w'
    go_simp
    with_reducible rfl
  rotate_left
  · simp only [Act.put, List.setIfInBounds_toArray, List.set_cons_zero, List.set_cons_succ, i64_w, i32_w]
    rfl
  refine pure_ (i := 10) (N := some 19) (v := ?_) (a' := ?_) #[true, true, false, false, true, true, false, false, false, true, true, false, false, false, false, false, false] rfl rfl (any_of HT_.out (by kernel_rfl)) (fun _ _ _ h => h) (Or.inl ⟨by rfl, ?_⟩) ?_ ?_
  rotate_left
  · intro w'
    go_simp
    with_reducible rfl
  rotate_left
  · simp only [Act.put, List.setIfInBounds_toArray, List.set_cons_zero, List.set_cons_succ, i64_w, i32_w]
    rfl
  refine pure_ (i := 14) (N := some 23) (v := ?_) (a' := ?_) #[true, true, false, false, true, true, false, false, false, true, true, false, false, false, true, false, false] rfl rfl (any_of HT_.out (by kernel_rfl)) (fun _ _ _ h => h) (Or.inl ⟨by rfl, ?_⟩) ?_ ?_
  rotate_left
  · intro w'
    go_simp
    with_reducible rfl
  rotate_left
  · simp only [Act.put, List.setIfInBounds_toArray, List.set_cons_zero, List.set_cons_succ, i64_w, i32_w]
    rfl
  refine take_ (i := 2) (N := some 11) (v := ?_) (a' := ?_) #[true, true, true, false, true, true, false, false, false, true, true, false, false, false, true, false, false] rfl rfl (take_ofW HT_.out HW_.out (by kernel_rfl)) (fun _ _ _ h => h) (Or.inl ⟨by rfl, ?_⟩) hHeld ?_ ?_
  rotate_left
  · rintro w' ⟨s0, s1⟩
    go_simp
    with_reducible rfl
  rotate_left
  · simp only [Act.put, List.setIfInBounds_toArray, List.set_cons_zero, List.set_cons_succ, i64_w, i32_w]
    rfl
  refine take_ (i := 6) (N := some 15) (v := ?_) (a' := ?_) #[true, true, true, false, true, true, true, false, false, true, true, false, false, false, true, false, false] rfl rfl (take_ofW HT_.out HW_.out (by kernel_rfl)) (fun _ _ _ h => h) (Or.inl ⟨by rfl, ?_⟩) hHeld ?_ ?_
  rotate_left
  · rintro w' ⟨s0, s1⟩
    go_simp
    with_reducible rfl
  rotate_left
  · simp only [Act.put, List.setIfInBounds_toArray, List.set_cons_zero, List.set_cons_succ, i64_w, i32_w]
    rfl
  refine take_ (i := 11) (N := some 20) (v := ?_) (a' := ?_) #[true, true, true, false, true, true, true, false, false, true, true, true, false, false, true, false, false] rfl rfl (take_ofW HT_.out HW_.out (by kernel_rfl)) (fun _ _ _ h => h) (Or.inl ⟨by rfl, ?_⟩) hHeld ?_ ?_
  rotate_left
  · rintro w' ⟨s0, s1⟩
    go_simp
    with_reducible rfl
  rotate_left
  · simp only [Act.put, List.setIfInBounds_toArray, List.set_cons_zero, List.set_cons_succ, i64_w, i32_w]
    rfl
  refine one_ (i := 3) (N := some 12) #[true, true, true, true, true, true, true, false, false, true, true, true, false, false, true, false, false] rfl rfl (one_of HT_.out (by kernel_rfl)) (by decide) (fun K hK => ?_)
  refine goes_ Try.func34 (by kernel_rfl) rfl #[.int .u8 a1, .int .i64 a2_0] (by rfl) rfl rfl (by (try simp only [List.map_toArray, List.map_cons, List.map_nil]); first | done | rfl | (simp only [List.length_drop, List.length_take]; rfl)) ?_
  with_reducible refine (value_Piece.calls k a1 a2_0 t332 _ A5.out).mono ?_
  rintro e w10 ⟨rfl, hb⟩
  refine ⟨_, rfl, ?_⟩
  have n0_ := Aside0.mk (blk_below (g := gb331) (o := .cells #[.int .i64 a2_0, .int .i64 a2_1] 41 (0, 0)) (by (with_reducible repeat (first | refine blk_drewN ?_ _ | refine blk_drew ?_ | refine blk_alloc ?_ _)); exact BK331.out) hb)
  have n1_ := Aside0.mk (below_step (by repeat (first | (with_reducible first | exact HB.out | apply below_alloc | apply pw_below_drewN | apply below_drew1 | refine below_set ?_ GE331.out) | exact HB.out)) hb)
  clear BK331
  clear HB
  have BK331 := n0_
  have HB := n1_
  clear n0_ n1_
  (try clear hb)
  (try clear hb2)
  (try clear hk)
  (try clear hi)
  refine hK.out _ _ ⟨(blk_cell BK331.out 0).trans rfl, (blk_cell BK331.out 1).trans rfl⟩ (fun hHeld => ?_)
  clear hK K
  refine norm_ (a' := ?_) ?_ ?_
  rotate_left
  · show Act.put _ (some 12) _ = _
    simp only [Act.put, List.setIfInBounds_toArray, List.set_cons_zero, List.set_cons_succ, i64_w, i32_w]
    rfl
  refine one_ (i := 7) (N := some 16) #[true, true, true, true, true, true, true, true, false, true, true, true, false, false, true, false, false] rfl rfl (one_of HT_.out (by kernel_rfl)) (by decide) (fun K hK => ?_)
  refine goes_ Try.func34 (by kernel_rfl) rfl #[.int .u8 a1, .int .i64 a2_1] (by rfl) rfl rfl (by (try simp only [List.map_toArray, List.map_cons, List.map_nil]); first | done | rfl | (simp only [List.length_drop, List.length_take]; rfl)) ?_
  with_reducible refine (value_Piece.calls k a1 a2_1 t333 _ A6.out).mono ?_
  rintro e w11 ⟨rfl, hb⟩
  refine ⟨_, rfl, ?_⟩
  have n0_ := Aside0.mk (blk_below (g := gb331) (o := .cells #[.int .i64 a2_0, .int .i64 a2_1] 41 (0, 0)) (by (with_reducible repeat (first | refine blk_drewN ?_ _ | refine blk_drew ?_ | refine blk_alloc ?_ _)); exact BK331.out) hb)
  have n1_ := Aside0.mk (below_step (by repeat (first | (with_reducible first | exact HB.out | apply below_alloc | apply pw_below_drewN | apply below_drew1 | refine below_set ?_ GE331.out) | exact HB.out)) hb)
  clear BK331
  clear HB
  have BK331 := n0_
  have HB := n1_
  clear n0_ n1_
  (try clear hb)
  (try clear hb2)
  (try clear hk)
  (try clear hi)
  refine hK.out _ _ ⟨(blk_cell BK331.out 0).trans rfl, (blk_cell BK331.out 1).trans rfl⟩ (fun hHeld => ?_)
  clear hK K
  refine norm_ (a' := ?_) ?_ ?_
  rotate_left
  · show Act.put _ (some 16) _ = _
    simp only [Act.put, List.setIfInBounds_toArray, List.set_cons_zero, List.set_cons_succ, i64_w, i32_w]
    rfl
  refine pure_ (i := 8) (N := some 17) (v := ?_) (a' := ?_) #[true, true, true, true, true, true, true, true, true, true, true, true, false, false, true, false, false] rfl rfl (any_of HT_.out (by kernel_rfl)) (fun _ _ _ h => h) (Or.inl ⟨by rfl, ?_⟩) ?_ ?_
  rotate_left
  · intro w'
    go_simp
    with_reducible rfl
  rotate_left
  · simp only [Act.put, List.setIfInBounds_toArray, List.set_cons_zero, List.set_cons_succ, i64_w, i32_w]
    rfl
  refine one_ (i := 12) (N := some 21) #[true, true, true, true, true, true, true, true, true, true, true, true, true, false, true, false, false] rfl rfl (one_of HT_.out (by kernel_rfl)) (by decide) (fun K hK => ?_)
  refine goes_ Try.func34 (by kernel_rfl) rfl #[.int .u8 a3, .int .i64 a2_1] (by rfl) rfl rfl (by (try simp only [List.map_toArray, List.map_cons, List.map_nil]); first | done | rfl | (simp only [List.length_drop, List.length_take]; rfl)) ?_
  with_reducible refine (value_Piece.calls k a3 a2_1 t334 _ A7.out).mono ?_
  rintro e w12 ⟨rfl, hb⟩
  refine ⟨_, rfl, ?_⟩
  have n0_ := Aside0.mk (blk_below (g := gb331) (o := .cells #[.int .i64 a2_0, .int .i64 a2_1] 41 (0, 0)) (by (with_reducible repeat (first | refine blk_drewN ?_ _ | refine blk_drew ?_ | refine blk_alloc ?_ _)); exact BK331.out) hb)
  have n1_ := Aside0.mk (below_step (by repeat (first | (with_reducible first | exact HB.out | apply below_alloc | apply pw_below_drewN | apply below_drew1 | refine below_set ?_ GE331.out) | exact HB.out)) hb)
  clear BK331
  clear HB
  have BK331 := n0_
  have HB := n1_
  clear n0_ n1_
  (try clear hb)
  (try clear hb2)
  (try clear hk)
  (try clear hi)
  refine hK.out _ _ ⟨(blk_cell BK331.out 0).trans rfl, (blk_cell BK331.out 1).trans rfl⟩ (fun hHeld => ?_)
  clear hK K
  refine norm_ (a' := ?_) ?_ ?_
  rotate_left
  · show Act.put _ (some 21) _ = _
    simp only [Act.put, List.setIfInBounds_toArray, List.set_cons_zero, List.set_cons_succ, i64_w, i32_w]
    rfl
  refine pure_ (i := 13) (N := some 22) (v := ?_) (a' := ?_) #[true, true, true, true, true, true, true, true, true, true, true, true, true, true, true, false, false] rfl rfl (any_of HT_.out (by kernel_rfl)) (fun _ _ _ h => h) (Or.inl ⟨by rfl, ?_⟩) ?_ ?_
  rotate_left
  · intro w'
    go_simp
    with_reducible rfl
  rotate_left
  · simp only [Act.put, List.setIfInBounds_toArray, List.set_cons_zero, List.set_cons_succ, i64_w, i32_w]
    rfl
  refine pure_ (i := 15) (N := some 24) (v := ?_) (a' := ?_) #[true, true, true, true, true, true, true, true, true, true, true, true, true, true, true, true, false] rfl rfl (any_of HT_.out (by kernel_rfl)) (fun _ _ _ h => h) (Or.inl ⟨by rfl, ?_⟩) ?_ ?_
  rotate_left
  · intro w'
    go_simp
    with_reducible rfl
  rotate_left
  · simp only [Act.put, List.setIfInBounds_toArray, List.set_cons_zero, List.set_cons_succ, i64_w, i32_w]
    rfl
  refine pure_ (i := 16) (N := some 8) (v := ?_) (a' := ?_) #[true, true, true, true, true, true, true, true, true, true, true, true, true, true, true, true, true] rfl rfl (any_of HT_.out (by kernel_rfl)) (fun _ _ _ h => h) (Or.inl ⟨by rfl, ?_⟩) ?_ ?_
  rotate_left
  · intro w'
    go_simp
    with_reducible rfl
  rotate_left
  · simp only [Act.put, List.setIfInBounds_toArray, List.set_cons_zero, List.set_cons_succ, i64_w, i32_w]
    rfl
  refine done_ (done_of HT_.out (by kernel_rfl)) ?_
  try go_wp2
  go_ret
  exact ⟨by first | rfl | (simp [errW_none, errW_some] <;> rfl) | (simp [*, errW_none, errW_some] <;> rfl), by repeat (first | (with_reducible first | exact HB.out | apply below_alloc | apply pw_below_drewN | apply below_drew1 | refine below_set ?_ GE331.out) | exact HB.out)⟩

end Go.Proofs.Ytmfbgcimfmgobaa.Print

-- of YtmfbgcimfmgobaaPrint33
-- Written by a program of this session (wip/gprint/gprint.py) over the kit's print; the parts marked GIVEN by hand.
namespace Go.Proofs.Ytmfbgcimfmgobaa.Print
open Go.RowKit Go.Proofs.YtmfbgcimfmgobaaW.PrintWords Go.Proofs.YtmfbgcimfmgobaaW.PrintLast Go.Proofs.YtmfbgcimfmgobaaW.PrintMore
attribute [local go_sem] max2_int min2_int max_two min_two max_three min_three max_four min_four   -- for this text's walks alone
set_option linter.unusedVariables false
set_option linter.unusedSimpArgs false
/-! GIVEN riverbanklaw14_live -/
-- GIVEN riverbank/riverbanklaw14.live
-- MAKES yes
def riverbanklaw14_live.f : Option (Bool) := some true
def startV : ByteArray := ⟨#[82, 78, 66, 65, 75, 65, 66, 78, 82, 46, 46, 46, 46, 46, 46, 46, 46, 46, 46, 67, 46, 46, 46, 46, 46, 67, 46, 80, 46, 80, 46, 80, 46, 80, 46, 80, 46, 46, 46, 46, 46, 46, 46, 46, 46, 46, 46, 46, 46, 46, 46, 46, 46, 46, 112, 46, 112, 46, 112, 46, 112, 46, 112, 46, 99, 46, 46, 46, 46, 46, 99, 46, 46, 46, 46, 46, 46, 46, 46, 46, 46, 114, 110, 98, 97, 107, 97, 98, 110, 114]⟩
set_option maxRecDepth 100000 in
set_option maxHeartbeats 2000000 in
theorem riverbanklaw14_live.calls (r : Bool) (w : World) (h : riverbanklaw14_live.f = some r) :
    Calls Try.prog 36 #[] w fun e w' => e = .returned (.bool r) ∧ Below w.heap.size w w' := by
  obtain rfl := Option.some.inj h
  clear h
  have v1 : Aside0 (value_Of.f startV 0 0 1 = some 0) := ⟨by decide +kernel⟩
  have k1 : Aside0 (value_Kind.f 114 = some 200) := ⟨by decide +kernel⟩
  have k2 : Aside0 (value_Kind.f 46 = some 0) := ⟨by decide +kernel⟩
  have p1 : Aside0 (value_Piece.f 200 80 49 = some 80) := ⟨by decide +kernel⟩
  have p2 : Aside0 (value_Piece.f 200 80 40 = some 30) := ⟨by decide +kernel⟩
  have p3 : Aside0 (value_Piece.f 200 112 40 = some 80) := ⟨by decide +kernel⟩
  have p4 : Aside0 (value_Piece.f 200 110 82 = some 91) := ⟨by decide +kernel⟩
  have p5 : Aside0 (value_Piece.f 200 75 4 = some 0) := ⟨by decide +kernel⟩
  have m1 : Aside0 (value_Moved.f 200 0 80 40 49 112 = some (-80)) := ⟨by decide +kernel⟩
  unfold startV at v1
  have hB0 : Below w.heap.size w (w.alloc (.cells #[.string ⟨#[82, 78, 66, 65, 75, 65, 66, 78, 82, 46, 46, 46, 46, 46, 46, 46, 46, 46, 46, 67, 46, 46, 46, 46, 46, 67, 46, 80, 46, 80, 46, 80, 46, 80, 46, 80, 46, 46, 46, 46, 46, 46, 46, 46, 46, 46, 46, 46, 46, 46, 46, 46, 46, 46, 112, 46, 112, 46, 112, 46, 112, 46, 112, 46, 99, 46, 46, 46, 46, 46, 99, 46, 46, 46, 46, 46, 46, 46, 46, 46, 46, 114, 110, 98, 97, 107, 97, 98, 110, 114]⟩, .int .i64 0, .int .i64 0, .int .i64 1] 29)) := (Below.refl _ w).alloc (Nat.le_refl _) _
  go_enter Try.func36, Try.ntmps36
  go_wp2_with (first
    | (go_at_call 37; (with_reducible refine (value_Of.calls _ _ _ _ 0 _ v1.out).mono ?_); rintro e w1 ⟨rfl, hb⟩; have hB1 := hB0.trans (hb.mono hB0.size); clear hb)
    | (go_at_call 32; (with_reducible refine (value_Kind.calls 114 200 _ k1.out).mono ?_); rintro e w2 ⟨rfl, hb⟩; have hB2 := hB1.trans (hb.mono hB1.size); clear hb)
    | (go_at_call 32; (with_reducible refine (value_Kind.calls 46 0 _ k2.out).mono ?_); rintro e w3 ⟨rfl, hb⟩; have hB3 := hB2.trans (hb.mono hB2.size); clear hb)
    | (go_at_call 34; (with_reducible refine (value_Piece.calls 200 80 49 80 _ p1.out).mono ?_); rintro e w4 ⟨rfl, hb⟩; have hB4 := hB3.trans (hb.mono hB3.size); clear hb)
    | (go_at_call 34; (with_reducible refine (value_Piece.calls 200 80 40 30 _ p2.out).mono ?_); rintro e w5 ⟨rfl, hb⟩; have hB5 := hB4.trans (hb.mono hB4.size); clear hb)
    | (go_at_call 34; (with_reducible refine (value_Piece.calls 200 112 40 80 _ p3.out).mono ?_); rintro e w6 ⟨rfl, hb⟩; have hB6 := hB5.trans (hb.mono hB5.size); clear hb)
    | (go_at_call 34; (with_reducible refine (value_Piece.calls 200 110 82 91 _ p4.out).mono ?_); rintro e w7 ⟨rfl, hb⟩; have hB7 := hB6.trans (hb.mono hB6.size); clear hb)
    | (go_at_call 34; (with_reducible refine (value_Piece.calls 200 75 4 0 _ p5.out).mono ?_); rintro e w8 ⟨rfl, hb⟩; have hB8 := hB7.trans (hb.mono hB7.size); clear hb)
    | (go_at_call 39; (with_reducible refine (value_Moved.calls 200 0 80 40 49 112 (-80) _ m1.out).mono ?_); rintro e w9 ⟨rfl, hb⟩; have hB9 := hB8.trans (hb.mono hB8.size); clear hb))
  go_ret
  exact ⟨rfl, hB9⟩

end Go.Proofs.Ytmfbgcimfmgobaa.Print

-- of YtmfbgcimfmgobaaPrint36
-- Written by a program of this session (wip/gprint/gprint.py) over the kit's print; the parts marked GIVEN by hand.
namespace Go.Proofs.Ytmfbgcimfmgobaa.Print
open Go.RowKit Go.Proofs.YtmfbgcimfmgobaaW.PrintWords Go.Proofs.YtmfbgcimfmgobaaW.PrintLast Go.Proofs.YtmfbgcimfmgobaaW.PrintMore
attribute [local go_sem] max2_int min2_int max_two min_two max_three min_three max_four min_four   -- for this text's walks alone
set_option linter.unusedVariables false
set_option linter.unusedSimpArgs false
/-! ### riverbankref02_Turn: function 67 -/
def riverbankref02_Turn.l0 : Nat → ByteArray → ByteArray → Int → Option (ByteArray)
  | 0, _, _, _ => none
  | k + 1, x0, x3, x4 => if x4 ≥ 0 then (if 0 ≤ x4 then (if x4 < (x0.size : Int) then ((riverbankref02_Side.f k (bt x0 x4)).bind fun t367 => (if t367 ≥ 0 then ((riverbankref02_Kind.f k (bt x0 x4)).bind fun t368 => ((riverbankref02_Side.f k (bt x0 x4)).bind fun t369 => ((riverbankref02_Of.f t368 (wrap64 (1 - t369))).bind fun t370 => ((some (([t370] : List Int) : List Int)).bind fun y371 => (if x3.size + (strOfNums y371).size ≤ 9223372036854775807 then (riverbankref02_Turn.l0 k x0 (x3 ++ (strOfNums y371)) (wrap64 (x4 - 1))) else (none)))))) else ((some (([bt x0 x4] : List Int) : List Int)).bind fun y374 => (if x3.size + (strOfNums y374).size ≤ 9223372036854775807 then (riverbankref02_Turn.l0 k x0 (x3 ++ (strOfNums y374)) (wrap64 (x4 - 1))) else (none))))) else (none)) else (none)) else (some x3)
def riverbankref02_Turn.f (k : Nat) (a0 : ByteArray) : Option (ByteArray) := (riverbankref02_Is.f k a0).bind fun t366 => (if t366 = true then (riverbankref02_Turn.l0 k a0 (⟨#[]⟩ : ByteArray) 89) else (some (⟨#[]⟩ : ByteArray)))
theorem riverbankref02_Turn.mono_l : ∀ k, (∀ y0 y1 y2, LeO (riverbankref02_Turn.l0 k y0 y1 y2) (riverbankref02_Turn.l0 (k + 1) y0 y1 y2))
  | 0 => fun _ _ _ r h => by simp [riverbankref02_Turn.l0] at h
  | k + 1 => by
    have ih0 := riverbankref02_Turn.mono_l k
    · intro y0 y1 y2
      unfold riverbankref02_Turn.l0
      repeat' first
      | (with_reducible exact ih0 _ _ _)
      | (with_reducible exact riverbankref02_Is.mono _ _)
      | (with_reducible exact riverbankref02_Kind.mono _ _)
      | (with_reducible exact riverbankref02_Side.mono _ _)
      | (with_reducible exact LeO.refl _)
      | (with_reducible exact LeO.none _)
      | (with_reducible refine LeO.ite ?_ ?_)
      | (with_reducible refine LeO.bind ?_ (fun _ => ?_))
      | exact ih0 _ _ _
      | exact riverbankref02_Is.mono _ _
      | exact riverbankref02_Kind.mono _ _
      | exact riverbankref02_Side.mono _ _
      | exact LeO.none _
      | refine LeO.ite ?_ ?_
      | refine LeO.bind ?_ (fun _ => ?_)
theorem riverbankref02_Turn.mono : ∀ a0 k, LeO (riverbankref02_Turn.f k a0) (riverbankref02_Turn.f (k + 1) a0) := by
  intro a0 k
  have ih0 := riverbankref02_Turn.mono_l k
  unfold riverbankref02_Turn.f
  repeat' first
      | (with_reducible exact ih0 _ _ _)
      | (with_reducible exact riverbankref02_Is.mono _ _)
      | (with_reducible exact riverbankref02_Kind.mono _ _)
      | (with_reducible exact riverbankref02_Side.mono _ _)
      | (with_reducible exact LeO.refl _)
      | (with_reducible exact LeO.none _)
      | (with_reducible refine LeO.ite ?_ ?_)
      | (with_reducible refine LeO.bind ?_ (fun _ => ?_))
      | exact ih0 _ _ _
      | exact riverbankref02_Is.mono _ _
      | exact riverbankref02_Kind.mono _ _
      | exact riverbankref02_Side.mono _ _
      | exact LeO.none _
      | refine LeO.ite ?_ ?_
      | refine LeO.bind ?_ (fun _ => ?_)
set_option maxHeartbeats 8000000 in
set_option maxRecDepth 100000 in
theorem riverbankref02_Turn.calls (k : Nat) (a0 : ByteArray) (r : ByteArray) (w : World) (h : riverbankref02_Turn.f k a0 = some r) :
    Calls Try.prog 67 #[.string a0] w fun e w' => e = .returned (.string r) ∧ Below w.heap.size w w' := by
  have HB := Aside0.mk (Below.refl w.heap.size w)
  have H : ((riverbankref02_Is.f k a0).bind fun t366 => (if t366 = true then (riverbankref02_Turn.l0 k a0 (⟨#[]⟩ : ByteArray) 89) else (some (⟨#[]⟩ : ByteArray)))) = some r := h
  clear h
  replace H := Option.bind_eq_some_iff.mp H
  obtain ⟨t366, A20, H⟩ := H
  replace H : (if t366 = true then (riverbankref02_Turn.l0 k a0 (⟨#[]⟩ : ByteArray) 89) else (some (⟨#[]⟩ : ByteArray))) = some r := H
  have A2 := Aside0.mk A20
  clear A20
  by_cases c3 : t366 = true
  · subst c3
    have H1 : (riverbankref02_Turn.l0 k a0 (⟨#[]⟩ : ByteArray) 89) = some r := by rw [if_pos rfl] at H; exact H
    clear H
    have H := H1
    clear H1
    have H' := Aside0.mk H
    clear H
    go_enter Try.func67, Try.ntmps67
    go_wp2_with (first | ((with_reducible refine gate_callee (f := 25) rfl ?_); refine goesL_ (some 7) rfl rfl Try.func25 (by kernel_rfl) rfl #[.string a0] rfl (by (try simp only [List.map_toArray, List.map_cons, List.map_nil]); first | done | rfl | (simp only [List.length_drop, List.length_take]; rfl)) ?_; (with_reducible refine (riverbankref02_Is.calls k a0 true _ A2.out).mono ?_); rintro e w' ⟨rfl, ⟨nd, rfl⟩⟩; refine ⟨_, rfl, ?_⟩))
    go_loopg [3, 4] k (fun kq v3 v4 w' => ∃ (x3_1 : ByteArray) (x4_1 : Int), v3 = .string x3_1 ∧ v4 = .int .i64 x4_1 ∧ Aside0 (riverbankref02_Turn.l0 kq a0 x3_1 x4_1 = some r) ∧ Aside0 (kq ≤ k) ∧ Aside0 (Below w.heap.size w w'))
    case atStart => exact ⟨((⟨#[]⟩ : ByteArray)), (89), (by first | rfl | (simp; done) | (simp [*]; done)), (by first | rfl | (simp; done) | (simp [*]; done)), H', ⟨Nat.le_refl _⟩, ⟨by repeat (first | (with_reducible first | exact HB.out | apply below_alloc | apply pw_below_drewN | apply below_drew1) | exact HB.out)⟩⟩
    case round =>
      clear H'
      try clear c2
      try clear p2
      try clear c3
      obtain ⟨x3_1, x4_1, rfl, rfl, HA, HK1, HB⟩ := hrel
      cases gk with
      | zero => exact absurd HA.out (by simp [riverbankref02_Turn.l0])
      | succ k1 =>
        have H := HA.out
        clear HA
        simp only [riverbankref02_Turn.l0] at H
        by_cases c4 : x4_1 ≥ 0
        · rw [if_pos c4] at H
          have c4b0 : decide (0 ≤ x4_1) = true := decide_eq_true c4
          clear c4
          by_cases c5 : 0 ≤ x4_1
          · rw [if_pos c5] at H
            have c5b0 : decide (0 ≤ x4_1) = true := decide_eq_true c5
            clear c5
            by_cases c6 : x4_1 < (a0.size : Int)
            · rw [if_pos c6] at H
              have c6b0 : decide (x4_1 < (a0.size : Int)) = true := decide_eq_true c6
              clear c6
              replace H := Option.bind_eq_some_iff.mp H
              obtain ⟨t367, A80, H⟩ := H
              replace H : (if t367 ≥ 0 then ((riverbankref02_Kind.f k1 (bt a0 x4_1)).bind fun t368 => ((riverbankref02_Side.f k1 (bt a0 x4_1)).bind fun t369 => ((riverbankref02_Of.f t368 (wrap64 (1 - t369))).bind fun t370 => ((some (([t370] : List Int) : List Int)).bind fun y371 => (if x3_1.size + (strOfNums y371).size ≤ 9223372036854775807 then (riverbankref02_Turn.l0 k1 a0 (x3_1 ++ (strOfNums y371)) (wrap64 (x4_1 - 1))) else (none)))))) else ((some (([bt a0 x4_1] : List Int) : List Int)).bind fun y374 => (if x3_1.size + (strOfNums y374).size ≤ 9223372036854775807 then (riverbankref02_Turn.l0 k1 a0 (x3_1 ++ (strOfNums y374)) (wrap64 (x4_1 - 1))) else (none)))) = some r := H
              have A8 := Aside0.mk A80
              clear A80
              by_cases c9 : t367 ≥ 0
              · rw [if_pos c9] at H
                have c9b0 : decide (0 ≤ t367) = true := decide_eq_true c9
                clear c9
                replace H := Option.bind_eq_some_iff.mp H
                obtain ⟨t368, A100, H⟩ := H
                replace H : ((riverbankref02_Side.f k1 (bt a0 x4_1)).bind fun t369 => ((riverbankref02_Of.f t368 (wrap64 (1 - t369))).bind fun t370 => ((some (([t370] : List Int) : List Int)).bind fun y371 => (if x3_1.size + (strOfNums y371).size ≤ 9223372036854775807 then (riverbankref02_Turn.l0 k1 a0 (x3_1 ++ (strOfNums y371)) (wrap64 (x4_1 - 1))) else (none))))) = some r := H
                have A10 := Aside0.mk A100
                clear A100
                replace H := Option.bind_eq_some_iff.mp H
                obtain ⟨t369, A110, H⟩ := H
                replace H : ((riverbankref02_Of.f t368 (wrap64 (1 - t369))).bind fun t370 => ((some (([t370] : List Int) : List Int)).bind fun y371 => (if x3_1.size + (strOfNums y371).size ≤ 9223372036854775807 then (riverbankref02_Turn.l0 k1 a0 (x3_1 ++ (strOfNums y371)) (wrap64 (x4_1 - 1))) else (none)))) = some r := H
                have A11 := Aside0.mk A110
                clear A110
                replace H := Option.bind_eq_some_iff.mp H
                obtain ⟨t370, A120, H⟩ := H
                replace H : ((some (([t370] : List Int) : List Int)).bind fun y371 => (if x3_1.size + (strOfNums y371).size ≤ 9223372036854775807 then (riverbankref02_Turn.l0 k1 a0 (x3_1 ++ (strOfNums y371)) (wrap64 (x4_1 - 1))) else (none))) = some r := H
                have A12 := Aside0.mk A120
                clear A120
                obtain ⟨y371, hy371⟩ : ∃ y_ : List Int, y_ = (([t370] : List Int)) := ⟨_, rfl⟩
                replace H : (if x3_1.size + (strOfNums y371).size ≤ 9223372036854775807 then (riverbankref02_Turn.l0 k1 a0 (x3_1 ++ (strOfNums y371)) (wrap64 (x4_1 - 1))) else (none)) = some r := by first | (rw [hy371]; with_reducible exact H) | (have H2_ := (Option.bind_some _ _).symm.trans H; rw [hy371]; with_reducible exact H2_) | (have H2_ := (Option.bind_some _ _).symm.trans H; with_reducible exact H2_) | with_reducible exact H | (rw [hy371]; exact H) | exact H
                have Ny371 := Aside0.mk hy371
                clear hy371
                by_cases c13 : x3_1.size + (strOfNums y371).size ≤ 9223372036854775807
                · rw [if_pos c13] at H
                  have c13b0 := eq_true c13
                  have c13b1 : decide (x3_1.size + (strOfNums y371).size ≤ 9223372036854775807) = true := decide_eq_true c13
                  try have c13b2 : (9223372036854775807 < x3_1.size + (strOfNums y371).size) = False := eq_false (Nat.not_lt.2 c13)
                  have H' := Aside0.mk H
                  clear H
                  have p7 : 0 ≤ (x4_1 : Int) := of_decide_eq_true (by first | (with_reducible assumption) | assumption)
                  have q7 : x4_1 < (a0.size : Int) := of_decide_eq_true (by first | (with_reducible assumption) | assumption)
                  have hx7 := bt_at a0 x4_1
                  replace p7 := eq_true p7
                  replace q7 := eq_true q7
                  go_wp2_with (first | ((with_reducible refine gate_callee (f := 26) rfl ?_); refine goesL_ (some 17) rfl rfl Try.func26 (by kernel_rfl) rfl #[.int .u8 (bt a0 x4_1)] rfl (by (try simp only [List.map_toArray, List.map_cons, List.map_nil]); first | done | rfl | (simp only [List.length_drop, List.length_take]; rfl)) ?_; (with_reducible refine (riverbankref02_Side.calls k1 (bt a0 x4_1) t367 _ A8.out).mono ?_); rintro e w' ⟨rfl, ⟨nd, rfl⟩⟩; refine ⟨_, rfl, ?_⟩) | ((with_reducible refine gate_callee (f := 57) rfl ?_); refine goesL_ (some 20) rfl rfl Try.func57 (by kernel_rfl) rfl #[.int .u8 (bt a0 x4_1)] rfl (by (try simp only [List.map_toArray, List.map_cons, List.map_nil]); first | done | rfl | (simp only [List.length_drop, List.length_take]; rfl)) ?_; (with_reducible refine (riverbankref02_Kind.calls k1 (bt a0 x4_1) t368 _ A10.out).mono ?_); rintro e w' ⟨rfl, ⟨nd, rfl⟩⟩; refine ⟨_, rfl, ?_⟩) | ((with_reducible refine gate_callee (f := 26) rfl ?_); refine goesL_ (some 22) rfl rfl Try.func26 (by kernel_rfl) rfl #[.int .u8 (bt a0 x4_1)] rfl (by (try simp only [List.map_toArray, List.map_cons, List.map_nil]); first | done | rfl | (simp only [List.length_drop, List.length_take]; rfl)) ?_; (with_reducible refine (riverbankref02_Side.calls k1 (bt a0 x4_1) t369 _ A11.out).mono ?_); rintro e w' ⟨rfl, ⟨nd, rfl⟩⟩; refine ⟨_, rfl, ?_⟩) | ((with_reducible refine gate_callee (f := 83) rfl ?_); refine goesL_ (some 24) rfl rfl Try.func83 (by kernel_rfl) rfl #[.int .u8 t368, .int .i64 (wrap64 (1 - t369))] rfl (by (try simp only [List.map_toArray, List.map_cons, List.map_nil]); first | done | rfl | (simp only [List.length_drop, List.length_take]; rfl)) ?_; (with_reducible refine (riverbankref02_Of.calls t368 (wrap64 (1 - t369)) t370 _ A12.out).mono ?_); rintro e w' ⟨rfl, ⟨nd, rfl⟩⟩; refine ⟨_, rfl, ?_⟩) | ((with_reducible refine gate_dst (N := 27) rfl ?_); refine Kd.R_lit (Kd.int .u8) _ 5 ?hg (N := 27) ?hd (xs := ([t370] : List Int)) (inner := [.int .u8 t370]) (ok := fun _ => True) (okp := fun _ => True) ?hr ?hp (fun _ hk => hk) trivial (Below.refl _ _) (Nat.le_refl _) (by simp) ?_; (case hd => rfl); (case hg => rfl); (case hr => first | (go_simp; done) | (go_simp; rfl)); (case hp => exact (Reps.one (show Kd.M (Kd.int .u8) _ _ _ t370 [.int .u8 t370] from rfl) (Reps.none _ _))); intro v372 w14 ho15 hb hg_ hnew_; clear hg_ hnew_; (first | rw [← Ny371.out] at ho15 | (simp only [Int.reduceToNat] at ho15; rw [← Ny371.out] at ho15)); have n0_ := Aside0.mk (Kd.R_lower ho15 (below_size (by repeat (first | (with_reducible first | exact HB.out | apply below_alloc | apply pw_below_drewN | apply below_drew1) | exact HB.out)))); have n1_ := Aside0.mk (below_step (by repeat (first | (with_reducible first | exact HB.out | apply below_alloc | apply pw_below_drewN | apply below_drew1) | exact HB.out)) hb); clear HB; have HO373 := n0_; have HB := n1_; clear n0_ n1_; clear hb ho15; have hcv16 := own_string (P := Try.prog) Try.underlying70 Try.underlying5 Try.underlying9 (Kd.own_of_R HO373.out)))
                  go_roundg k1
                  case measure => have := HK1.out; omega
                  case rel => exact ⟨(x3_1 ++ (strOfNums y371)), (wrap64 (x4_1 - 1)), (by first | rfl | (simp; done) | (simp [*]; done)), (by first | rfl | (simp; done) | (simp [*]; done)), H', ⟨by have := HK1.out; omega⟩, ⟨by repeat (first | (with_reducible first | exact HB.out | apply below_alloc | apply pw_below_drewN | apply below_drew1) | exact HB.out)⟩⟩
                · rw [if_neg c13] at H
                  exact absurd H (by simp)
              · rw [if_neg c9] at H
                have c9b0 : decide (0 ≤ t367) = false := decide_eq_false c9
                clear c9
                obtain ⟨y374, hy374⟩ : ∃ y_ : List Int, y_ = (([bt a0 x4_1] : List Int)) := ⟨_, rfl⟩
                replace H : (if x3_1.size + (strOfNums y374).size ≤ 9223372036854775807 then (riverbankref02_Turn.l0 k1 a0 (x3_1 ++ (strOfNums y374)) (wrap64 (x4_1 - 1))) else (none)) = some r := by first | (rw [hy374]; with_reducible exact H) | (have H2_ := (Option.bind_some _ _).symm.trans H; rw [hy374]; with_reducible exact H2_) | (have H2_ := (Option.bind_some _ _).symm.trans H; with_reducible exact H2_) | with_reducible exact H | (rw [hy374]; exact H) | exact H
                have Ny374 := Aside0.mk hy374
                clear hy374
                by_cases c17 : x3_1.size + (strOfNums y374).size ≤ 9223372036854775807
                · rw [if_pos c17] at H
                  have c17b0 := eq_true c17
                  have c17b1 : decide (x3_1.size + (strOfNums y374).size ≤ 9223372036854775807) = true := decide_eq_true c17
                  try have c17b2 : (9223372036854775807 < x3_1.size + (strOfNums y374).size) = False := eq_false (Nat.not_lt.2 c17)
                  have H' := Aside0.mk H
                  clear H
                  have p7 : 0 ≤ (x4_1 : Int) := of_decide_eq_true (by first | (with_reducible assumption) | assumption)
                  have q7 : x4_1 < (a0.size : Int) := of_decide_eq_true (by first | (with_reducible assumption) | assumption)
                  have hx7 := bt_at a0 x4_1
                  replace p7 := eq_true p7
                  replace q7 := eq_true q7
                  go_wp2_with (first | ((with_reducible refine gate_callee (f := 26) rfl ?_); refine goesL_ (some 17) rfl rfl Try.func26 (by kernel_rfl) rfl #[.int .u8 (bt a0 x4_1)] rfl (by (try simp only [List.map_toArray, List.map_cons, List.map_nil]); first | done | rfl | (simp only [List.length_drop, List.length_take]; rfl)) ?_; (with_reducible refine (riverbankref02_Side.calls k1 (bt a0 x4_1) t367 _ A8.out).mono ?_); rintro e w' ⟨rfl, ⟨nd, rfl⟩⟩; refine ⟨_, rfl, ?_⟩) | ((with_reducible refine gate_dst (N := 27) rfl ?_); refine Kd.R_lit (Kd.int .u8) _ 5 ?hg (N := 27) ?hd (xs := ([bt a0 x4_1] : List Int)) (inner := [.int .u8 (bt a0 x4_1)]) (ok := fun _ => True) (okp := fun _ => True) ?hr ?hp (fun _ hk => hk) trivial (Below.refl _ _) (Nat.le_refl _) (by simp) ?_; (case hd => rfl); (case hg => rfl); (case hr => first | (go_simp; done) | (go_simp; rfl)); (case hp => exact (Reps.one (show Kd.M (Kd.int .u8) _ _ _ (bt a0 x4_1) [.int .u8 (bt a0 x4_1)] from rfl) (Reps.none _ _))); intro v375 w18 ho19 hb hg_ hnew_; clear hg_ hnew_; (first | rw [← Ny374.out] at ho19 | (simp only [Int.reduceToNat] at ho19; rw [← Ny374.out] at ho19)); have n0_ := Aside0.mk (Kd.R_lower ho19 (below_size (by repeat (first | (with_reducible first | exact HB.out | apply below_alloc | apply pw_below_drewN | apply below_drew1) | exact HB.out)))); have n1_ := Aside0.mk (below_step (by repeat (first | (with_reducible first | exact HB.out | apply below_alloc | apply pw_below_drewN | apply below_drew1) | exact HB.out)) hb); clear HB; have HO376 := n0_; have HB := n1_; clear n0_ n1_; clear hb ho19; have hcv20 := own_string (P := Try.prog) Try.underlying70 Try.underlying5 Try.underlying9 (Kd.own_of_R HO376.out)))
                  go_roundg k1
                  case measure => have := HK1.out; omega
                  case rel => exact ⟨(x3_1 ++ (strOfNums y374)), (wrap64 (x4_1 - 1)), (by first | rfl | (simp; done) | (simp [*]; done)), (by first | rfl | (simp; done) | (simp [*]; done)), H', ⟨by have := HK1.out; omega⟩, ⟨by repeat (first | (with_reducible first | exact HB.out | apply below_alloc | apply pw_below_drewN | apply below_drew1) | exact HB.out)⟩⟩
                · rw [if_neg c17] at H
                  exact absurd H (by simp)
            · rw [if_neg c6] at H
              exact absurd H (by simp)
          · rw [if_neg c5] at H
            exact absurd H (by simp)
        · rw [if_neg c4] at H
          have c4b0 : decide (0 ≤ x4_1) = false := decide_eq_false c4
          clear c4
          obtain rfl := Option.some.inj H
          go_wp2
          go_ret
          exact ⟨by first | rfl | (simp [errW_none, errW_some] <;> rfl) | (simp [*, errW_none, errW_some] <;> rfl), by repeat (first | (with_reducible first | exact HB.out | apply below_alloc | apply pw_below_drewN | apply below_drew1) | exact HB.out)⟩
  · replace c3 := Bool.eq_false_iff.mpr c3
    subst c3
    have H1 : (some (⟨#[]⟩ : ByteArray)) = some r := by rw [if_neg (show ¬ (false = true) by decide)] at H; exact H
    clear H
    have H := H1
    clear H1
    obtain rfl := Option.some.inj H
    go_enter Try.func67, Try.ntmps67
    go_wp2_with (first | ((with_reducible refine gate_callee (f := 25) rfl ?_); refine goesL_ (some 7) rfl rfl Try.func25 (by kernel_rfl) rfl #[.string a0] rfl (by (try simp only [List.map_toArray, List.map_cons, List.map_nil]); first | done | rfl | (simp only [List.length_drop, List.length_take]; rfl)) ?_; (with_reducible refine (riverbankref02_Is.calls k a0 false _ A2.out).mono ?_); rintro e w' ⟨rfl, ⟨nd, rfl⟩⟩; refine ⟨_, rfl, ?_⟩))
    go_ret
    exact ⟨by first | rfl | (simp [errW_none, errW_some] <;> rfl) | (simp [*, errW_none, errW_some] <;> rfl), by repeat (first | (with_reducible first | exact HB.out | apply below_alloc | apply pw_below_drewN | apply below_drew1) | exact HB.out)⟩

/-! ### riverbankref03_Turn: function 42 -/
def riverbankref03_Turn.f (k : Nat) (a0_0 : ByteArray) (a0_1 : Int) (a0_2 : Int) (a0_3 : Int) : Option (ByteArray × Int × Int × Int) := (riverbankref02_Turn.f k a0_0).bind fun t379 => (some (t379, wrap64 (1 - a0_1), a0_2, a0_3))
theorem riverbankref03_Turn.mono : ∀ a0 a1 a2 a3 k, LeO (riverbankref03_Turn.f k a0 a1 a2 a3) (riverbankref03_Turn.f (k + 1) a0 a1 a2 a3) := by
  intro a0 a1 a2 a3 k
  unfold riverbankref03_Turn.f
  repeat' first
      | (with_reducible exact riverbankref02_Turn.mono _ _)
      | (with_reducible exact LeO.refl _)
      | (with_reducible exact LeO.none _)
      | (with_reducible refine LeO.ite ?_ ?_)
      | (with_reducible refine LeO.bind ?_ (fun _ => ?_))
      | exact riverbankref02_Turn.mono _ _
      | exact LeO.none _
      | refine LeO.ite ?_ ?_
      | refine LeO.bind ?_ (fun _ => ?_)
def riverbankref03_Turn.T1 : Bool × List (List Nat × List Nat) := (true, [([], []), ([0], [0]), ([1], [1]), ([], []), ([3], [3]), ([4], [4]), ([], []), ([6], [6]), ([], []), ([8], [8]), ([2, 5, 7, 9], [2, 5, 7, 9]), ([10, 2, 0, 1, 2, 3, 4, 5, 6, 7, 8, 9, 10], [10])])
def riverbankref03_Turn.B1 : List Nat := [0, 1, 3, 0, 8, 24, 0, 64, 0, 256, 1023, 2047]
theorem riverbankref03_Turn.tab1 : rtab .any (opsOf Try.f42 1) = riverbankref03_Turn.T1 := by kernel_rfl
theorem riverbankref03_Turn.bits1 : waitsOk riverbankref03_Turn.T1.2 riverbankref03_Turn.B1 = true := by kernel_rfl
set_option maxHeartbeats 8000000 in
set_option maxRecDepth 100000 in
theorem riverbankref03_Turn.calls (k : Nat) (a0_0 : ByteArray) (a0_1 : Int) (a0_2 : Int) (a0_3 : Int) (r1 : ByteArray) (r2 : Int) (r3 : Int) (r4 : Int) (w : World) (h : riverbankref03_Turn.f k a0_0 a0_1 a0_2 a0_3 = some (r1, r2, r3, r4)) :
    Calls Try.prog 42 #[.agg #[.string a0_0, .int .i64 a0_1, .int .i64 a0_2, .int .i64 a0_3]] w fun e w' => e = .returned (.agg #[.string r1, .int .i64 r2, .int .i64 r3, .int .i64 r4]) ∧ Below w.heap.size w w' := by
  have hu29 := Try.underlying29
  have HB := Aside0.mk (Below.refl w.heap.size w)
  have H : ((riverbankref02_Turn.f k a0_0).bind fun t379 => (some (t379, wrap64 (1 - a0_1), a0_2, a0_3))) = some (r1, r2, r3, r4) := h
  clear h
  replace H := Option.bind_eq_some_iff.mp H
  obtain ⟨t379, A20, H⟩ := H
  replace H : (some (t379, wrap64 (1 - a0_1), a0_2, a0_3)) = some (r1, r2, r3, r4) := H
  have A2 := Aside0.mk A20
  clear A20
  simp only [Option.some.injEq, Prod.mk.injEq] at H
  obtain ⟨rfl, rfl, rfl, rfl⟩ := H
  go_enter Try.func42, Try.ntmps42
  try go_wp2_with (first | ((with_reducible refine gate_dst (N := 1) rfl ?_); refine box_event ?hg (N := 1) ?hd (cs := #[.string a0_0, .int .i64 a0_1, .int .i64 a0_2, .int .i64 a0_3]) (t := 29) ?hr ?_; (case hd => rfl); (case hg => rfl); (case hr => first | (go_simp; done) | (go_simp; rfl)); intro gb377 hg w3 hbox hb; have n0_ := Aside0.mk (below_step (by repeat (first | (with_reducible first | exact HB.out | apply below_alloc | apply pw_below_drewN | apply below_drew1) | exact HB.out)) hb); have n1_ := Aside0.mk (hbox); have n2_ := Aside0.mk ((by rw [hg]; exact (below_size (by repeat (first | (with_reducible first | exact HB.out | apply below_alloc | apply pw_below_drewN | apply below_drew1) | exact HB.out))) : w.heap.size ≤ gb377)); have n3_ := Aside0.mk ((by rw [hg]; exact (below_size (by repeat (first | (with_reducible first | exact HB.out | apply below_alloc | apply pw_below_drewN | apply below_drew1) | exact HB.out))) : w.heap.size ≤ gb377)); clear HB; have HB := n0_; have BK377 := n1_; have GW377 := n2_; have GE377 := n3_; clear n0_ n1_ n2_ n3_; clear hb hbox hg) | ((with_reducible refine gate_dst (N := 2) rfl ?_); refine box_event ?hg (N := 2) ?hd (cs := #[.string (⟨#[]⟩ : ByteArray), .int .i64 0, .int .i64 0, .int .i64 0]) (t := 29) ?hr ?_; (case hd => rfl); (case hg => rfl); (case hr => first | (go_simp; done) | (go_simp; rfl)); intro gb378 hg w4 hbox hb; have n0_ := Aside0.mk (blk_below (g := gb377) (o := .cells #[.string a0_0, .int .i64 a0_1, .int .i64 a0_2, .int .i64 a0_3] 29 (0, 0)) (by (with_reducible repeat (first | refine blk_drewN ?_ _ | refine blk_drew ?_ | refine blk_alloc ?_ _)); exact BK377.out) hb); have n1_ := Aside0.mk (below_step (by repeat (first | (with_reducible first | exact HB.out | apply below_alloc | apply pw_below_drewN | apply below_drew1 | refine below_set ?_ GE377.out) | exact HB.out)) hb); have n2_ := Aside0.mk (hbox); have n3_ := Aside0.mk ((by rw [hg]; exact (below_size (by repeat (first | (with_reducible first | exact HB.out | apply below_alloc | apply pw_below_drewN | apply below_drew1 | refine below_set ?_ GE377.out) | exact HB.out))) : w.heap.size ≤ gb378)); have n4_ := Aside0.mk ((by rw [hg]; exact (below_size (by repeat (first | (with_reducible first | exact HB.out | apply below_alloc | apply pw_below_drewN | apply below_drew1 | refine below_set ?_ GE377.out) | exact HB.out))) : w.heap.size ≤ gb378)); have n5_ := Aside0.mk ((by rw [hg]; exact Nat.ne_of_lt (blk_lt (g := gb377) (o := .cells #[.string a0_0, .int .i64 a0_1, .int .i64 a0_2, .int .i64 a0_3] 29 (0, 0)) (by (with_reducible repeat (first | refine blk_drewN ?_ _ | refine blk_drew ?_ | refine blk_alloc ?_ _)); exact BK377.out)) : gb377 ≠ gb378)); have n6_ := Aside0.mk ((by rw [hg]; exact Nat.ne_of_gt (blk_lt (g := gb377) (o := .cells #[.string a0_0, .int .i64 a0_1, .int .i64 a0_2, .int .i64 a0_3] 29 (0, 0)) (by (with_reducible repeat (first | refine blk_drewN ?_ _ | refine blk_drew ?_ | refine blk_alloc ?_ _)); exact BK377.out)) : gb378 ≠ gb377)); clear BK377; clear HB; have BK377 := n0_; have HB := n1_; have BK378 := n2_; have GW378 := n3_; have GE378 := n4_; have NB377_378 := n5_; have NB378_377 := n6_; clear n0_ n1_ n2_ n3_ n4_ n5_ n6_; clear hb hbox hg))
  have n0_ := Aside0.mk (blk_drew BK377.out)
  have n1_ := Aside0.mk (blk_drew BK378.out)
  have n2_ := Aside0.mk (below_drew1 HB.out)
  clear BK377
  clear BK378
  clear HB
  have BK377 := n0_
  have BK378 := n1_
  have HB := n2_
  clear n0_ n1_ n2_
  refine start_ (n := 12) (S := fun w' => w'.cell? ⟨gb377, 0, none⟩ = some (.string a0_0) ∧ w'.cell? ⟨gb377, 1, none⟩ = some (.int .i64 a0_1) ∧ w'.cell? ⟨gb377, 2, none⟩ = some (.int .i64 a0_2) ∧ w'.cell? ⟨gb377, 3, none⟩ = some (.int .i64 a0_3)) (ds := []) #[false, false, false, false, false, false, false, false, false, false, false, false] (by kernel_rfl) rfl rfl ⟨(blk_cell BK377.out 0).trans rfl, (blk_cell BK377.out 1).trans rfl, (blk_cell BK377.out 2).trans rfl, (blk_cell BK377.out 3).trans rfl⟩ (fun hHeld => ?_); refine with_tabW riverbankref03_Turn.tab1 riverbankref03_Turn.bits1 (fun HT_ HW_ => ?_)
  generalize w4.drew = w5 at BK377 BK378 HB hHeld ⊢
  refine pure_ (i := 0) (N := some 3) (v := ?_) (a' := ?_) #[true, false, false, false, false, false, false, false, false, false, false, false] rfl rfl (any_of HT_.out (by kernel_rfl)) (fun _ _ _ h => h) (Or.inl ⟨by rfl, ?_⟩) ?_ ?_
  rotate_left
  · intro w'
    go_simp
    with_reducible rfl
  rotate_left
  · simp only [Act.put, List.setIfInBounds_toArray, List.set_cons_zero, List.set_cons_succ, i64_w, i32_w]
    rfl
  refine pure_ (i := 3) (N := some 6) (v := ?_) (a' := ?_) #[true, false, false, true, false, false, false, false, false, false, false, false] rfl rfl (any_of HT_.out (by kernel_rfl)) (fun _ _ _ h => h) (Or.inl ⟨by rfl, ?_⟩) ?_ ?_
  rotate_left
  · intro w'
    go_simp
    with_reducible rfl
  rotate_left
  · simp only [Act.put, List.setIfInBounds_toArray, List.set_cons_zero, List.set_cons_succ, i64_w, i32_w]
    rfl
  refine pure_ (i := 6) (N := some 9) (v := ?_) (a' := ?_) #[true, false, false, true, false, false, true, false, false, false, false, false] rfl rfl (any_of HT_.out (by kernel_rfl)) (fun _ _ _ h => h) (Or.inl ⟨by rfl, ?_⟩) ?_ ?_
  rotate_left
  · intro w'
    go_simp
    with_reducible rfl
  rotate_left
  · simp only [Act.put, List.setIfInBounds_toArray, List.set_cons_zero, List.set_cons_succ, i64_w, i32_w]
    rfl
  refine pure_ (i := 8) (N := some 11) (v := ?_) (a' := ?_) #[true, false, false, true, false, false, true, false, true, false, false, false] rfl rfl (any_of HT_.out (by kernel_rfl)) (fun _ _ _ h => h) (Or.inl ⟨by rfl, ?_⟩) ?_ ?_
  rotate_left
  · intro w'
    go_simp
    with_reducible rfl
  rotate_left
  · simp only [Act.put, List.setIfInBounds_toArray, List.set_cons_zero, List.set_cons_succ, i64_w, i32_w]
    rfl
  refine take_ (i := 1) (N := some 4) (v := ?_) (a' := ?_) #[true, true, false, true, false, false, true, false, true, false, false, false] rfl rfl (take_ofW HT_.out HW_.out (by kernel_rfl)) (fun _ _ _ h => h) (Or.inl ⟨by rfl, ?_⟩) hHeld ?_ ?_
  rotate_left
  · rintro w' ⟨s0, s1, s2, s3⟩
    go_simp
    with_reducible rfl
  rotate_left
  · simp only [Act.put, List.setIfInBounds_toArray, List.set_cons_zero, List.set_cons_succ, i64_w, i32_w]
    rfl
  refine take_ (i := 4) (N := some 7) (v := ?_) (a' := ?_) #[true, true, false, true, true, false, true, false, true, false, false, false] rfl rfl (take_ofW HT_.out HW_.out (by kernel_rfl)) (fun _ _ _ h => h) (Or.inl ⟨by rfl, ?_⟩) hHeld ?_ ?_
  rotate_left
  · rintro w' ⟨s0, s1, s2, s3⟩
    go_simp
    with_reducible rfl
  rotate_left
  · simp only [Act.put, List.setIfInBounds_toArray, List.set_cons_zero, List.set_cons_succ, i64_w, i32_w]
    rfl
  refine pure_ (i := 5) (N := some 8) (v := ?_) (a' := ?_) #[true, true, false, true, true, true, true, false, true, false, false, false] rfl rfl (any_of HT_.out (by kernel_rfl)) (fun _ _ _ h => h) (Or.inl ⟨by rfl, ?_⟩) ?_ ?_
  rotate_left
  · intro w'
    go_simp
    with_reducible rfl
  rotate_left
  · simp only [Act.put, List.setIfInBounds_toArray, List.set_cons_zero, List.set_cons_succ, i64_w, i32_w]
    rfl
  refine take_ (i := 7) (N := some 10) (v := ?_) (a' := ?_) #[true, true, false, true, true, true, true, true, true, false, false, false] rfl rfl (take_ofW HT_.out HW_.out (by kernel_rfl)) (fun _ _ _ h => h) (Or.inl ⟨by rfl, ?_⟩) hHeld ?_ ?_
  rotate_left
  · rintro w' ⟨s0, s1, s2, s3⟩
    go_simp
    with_reducible rfl
  rotate_left
  · simp only [Act.put, List.setIfInBounds_toArray, List.set_cons_zero, List.set_cons_succ, i64_w, i32_w]
    rfl
  refine take_ (i := 9) (N := some 12) (v := ?_) (a' := ?_) #[true, true, false, true, true, true, true, true, true, true, false, false] rfl rfl (take_ofW HT_.out HW_.out (by kernel_rfl)) (fun _ _ _ h => h) (Or.inl ⟨by rfl, ?_⟩) hHeld ?_ ?_
  rotate_left
  · rintro w' ⟨s0, s1, s2, s3⟩
    go_simp
    with_reducible rfl
  rotate_left
  · simp only [Act.put, List.setIfInBounds_toArray, List.set_cons_zero, List.set_cons_succ, i64_w, i32_w]
    rfl
  refine one_ (i := 2) (N := some 5) #[true, true, true, true, true, true, true, true, true, true, false, false] rfl rfl (one_of HT_.out (by kernel_rfl)) (by decide) (fun K hK => ?_)
  refine goes_ Try.func67 (by kernel_rfl) rfl #[.string a0_0] (by rfl) rfl rfl (by (try simp only [List.map_toArray, List.map_cons, List.map_nil]); first | done | rfl | (simp only [List.length_drop, List.length_take]; rfl)) ?_
  with_reducible refine (riverbankref02_Turn.calls k a0_0 t379 _ A2.out).mono ?_
  rintro e w6 ⟨rfl, hb⟩
  refine ⟨_, rfl, ?_⟩
  have n0_ := Aside0.mk (blk_below (g := gb377) (o := .cells #[.string a0_0, .int .i64 a0_1, .int .i64 a0_2, .int .i64 a0_3] 29 (0, 0)) (by (with_reducible repeat (first | refine blk_drewN ?_ _ | refine blk_drew ?_ | refine blk_alloc ?_ _)); exact BK377.out) hb)
  have n1_ := Aside0.mk (blk_below (g := gb378) (o := .cells #[.string (⟨#[]⟩ : ByteArray), .int .i64 0, .int .i64 0, .int .i64 0] 29 (0, 0)) (by (with_reducible repeat (first | refine blk_drewN ?_ _ | refine blk_drew ?_ | refine blk_alloc ?_ _)); exact BK378.out) hb)
  have n2_ := Aside0.mk (below_step (by repeat (first | (with_reducible first | exact HB.out | apply below_alloc | apply pw_below_drewN | apply below_drew1 | refine below_set ?_ GE377.out | refine below_set ?_ GE378.out) | exact HB.out)) hb)
  clear BK377
  clear BK378
  clear HB
  have BK377 := n0_
  have BK378 := n1_
  have HB := n2_
  clear n0_ n1_ n2_
  (try clear hb)
  (try clear hb2)
  (try clear hk)
  (try clear hi)
  refine hK.out _ _ ⟨(blk_cell BK377.out 0).trans rfl, (blk_cell BK377.out 1).trans rfl, (blk_cell BK377.out 2).trans rfl, (blk_cell BK377.out 3).trans rfl⟩ (fun hHeld => ?_)
  clear hK K
  refine norm_ (a' := ?_) ?_ ?_
  rotate_left
  · show Act.put _ (some 5) _ = _
    simp only [Act.put, List.setIfInBounds_toArray, List.set_cons_zero, List.set_cons_succ, i64_w, i32_w]
    rfl
  refine pure_ (i := 10) (N := some 13) (v := ?_) (a' := ?_) #[true, true, true, true, true, true, true, true, true, true, true, false] rfl rfl (any_of HT_.out (by kernel_rfl)) (fun _ _ _ h => h) (Or.inl ⟨by rfl, ?_⟩) ?_ ?_
  rotate_left
  · intro w'
    go_simp
    with_reducible rfl
  rotate_left
  · simp only [Act.put, List.setIfInBounds_toArray, List.set_cons_zero, List.set_cons_succ, i64_w, i32_w]
    rfl
  refine one_ (i := 11) (N := none) #[true, true, true, true, true, true, true, true, true, true, true, true] rfl rfl (one_of HT_.out (by kernel_rfl)) (by decide) (fun K hK => ?_)
  have hs7 : w6.cell? ⟨gb378, 0, none⟩ = some (.string (⟨#[]⟩ : ByteArray)) := (blk_cell BK378.out 0).trans rfl
  have hfs7 := blk_frozen BK378.out 0
  have hns7_0 := NB377_378.out
  have hms7_0 := NB378_377.out
  have hs8 : w6.cell? ⟨gb378, 1, none⟩ = some (.int .i64 0) := (blk_cell BK378.out 1).trans rfl
  have hfs8 := blk_frozen BK378.out 1
  have hns8_0 := NB377_378.out
  have hms8_0 := NB378_377.out
  have hs9 : w6.cell? ⟨gb378, 2, none⟩ = some (.int .i64 0) := (blk_cell BK378.out 2).trans rfl
  have hfs9 := blk_frozen BK378.out 2
  have hns9_0 := NB377_378.out
  have hms9_0 := NB378_377.out
  have hs10 : w6.cell? ⟨gb378, 3, none⟩ = some (.int .i64 0) := (blk_cell BK378.out 3).trans rfl
  have hfs10 := blk_frozen BK378.out 3
  have hns10_0 := NB377_378.out
  have hms10_0 := NB378_377.out
  refine skip_ (w1 := ?_) (by rfl) rfl ?_ ?_
  rotate_left
  · go_simp
    rfl
  refine hK.out _ _ ⟨((cell_far (p := ⟨gb378, _, none⟩) NB377_378.out _).trans (((cell_far (p := ⟨gb378, _, none⟩) NB377_378.out _).trans (((cell_far (p := ⟨gb378, _, none⟩) NB377_378.out _).trans (((cell_far (p := ⟨gb378, _, none⟩) NB377_378.out _).trans (hHeld.1)))))))), ((cell_far (p := ⟨gb378, _, none⟩) NB377_378.out _).trans (((cell_far (p := ⟨gb378, _, none⟩) NB377_378.out _).trans (((cell_far (p := ⟨gb378, _, none⟩) NB377_378.out _).trans (((cell_far (p := ⟨gb378, _, none⟩) NB377_378.out _).trans (hHeld.2.1)))))))), ((cell_far (p := ⟨gb378, _, none⟩) NB377_378.out _).trans (((cell_far (p := ⟨gb378, _, none⟩) NB377_378.out _).trans (((cell_far (p := ⟨gb378, _, none⟩) NB377_378.out _).trans (((cell_far (p := ⟨gb378, _, none⟩) NB377_378.out _).trans (hHeld.2.2.1)))))))), ((cell_far (p := ⟨gb378, _, none⟩) NB377_378.out _).trans (((cell_far (p := ⟨gb378, _, none⟩) NB377_378.out _).trans (((cell_far (p := ⟨gb378, _, none⟩) NB377_378.out _).trans (((cell_far (p := ⟨gb378, _, none⟩) NB377_378.out _).trans (hHeld.2.2.2))))))))⟩ (fun hHeld => ?_)
  clear hK K
  refine done_ (done_of HT_.out (by kernel_rfl)) ?_
  try go_wp2
  refine bodyPost_ret (results_cell_row rfl _ _ gb378 29 #[.string t379, .int .i64 (wrap64 (1 - a0_1)), .int .i64 a0_2, .int .i64 a0_3] (0, 0) _ rfl (by (with_reducible repeat (first | refine blk_drewN ?_ _ | refine blk_drew ?_ | refine blk_alloc ?_ _)); refine blk_put (cs := #[.string t379, .int .i64 (wrap64 (1 - a0_1)), .int .i64 a0_2, .int .i64 0]) ?_ 3 _ rfl; (with_reducible repeat (first | refine blk_drewN ?_ _ | refine blk_drew ?_ | refine blk_alloc ?_ _)); refine blk_put (cs := #[.string t379, .int .i64 (wrap64 (1 - a0_1)), .int .i64 0, .int .i64 0]) ?_ 2 _ rfl; (with_reducible repeat (first | refine blk_drewN ?_ _ | refine blk_drew ?_ | refine blk_alloc ?_ _)); refine blk_put (cs := #[.string t379, .int .i64 0, .int .i64 0, .int .i64 0]) ?_ 1 _ rfl; (with_reducible repeat (first | refine blk_drewN ?_ _ | refine blk_drew ?_ | refine blk_alloc ?_ _)); refine blk_put (cs := #[.string (⟨#[]⟩ : ByteArray), .int .i64 0, .int .i64 0, .int .i64 0]) ?_ 0 _ rfl; (with_reducible repeat (first | refine blk_drewN ?_ _ | refine blk_drew ?_ | refine blk_alloc ?_ _)); exact BK378.out) Try.underlying29 rfl (by kernel_rfl)) rfl ?_
  exact ⟨by first | rfl | (simp [errW_none, errW_some] <;> rfl) | (simp [*, errW_none, errW_some] <;> rfl), by repeat (first | (with_reducible first | exact HB.out | apply below_alloc | apply pw_below_drewN | apply below_drew1 | refine below_set ?_ GE377.out | refine below_set ?_ GE378.out) | exact HB.out)⟩

end Go.Proofs.Ytmfbgcimfmgobaa.Print

-- of YtmfbgcimfmgobaaPrint37
-- Written by a program of this session (wip/gprint/gprint.py) over the kit's print; the parts marked GIVEN by hand.
namespace Go.Proofs.Ytmfbgcimfmgobaa.Print
open Go.RowKit Go.Proofs.YtmfbgcimfmgobaaW.PrintWords Go.Proofs.YtmfbgcimfmgobaaW.PrintLast Go.Proofs.YtmfbgcimfmgobaaW.PrintMore
attribute [local go_sem] max2_int min2_int max_two min_two max_three min_three max_four min_four   -- for this text's walks alone
set_option linter.unusedVariables false
set_option linter.unusedSimpArgs false
/-! ### riverbanklaw14_ValueTurn: function 13 -/
def riverbanklaw14_ValueTurn.j0 : Nat → Bool → ByteArray → Int → Int → Int → Option (Bool)
  | 0, _, _, _, _, _ => none
  | k + 1, x23, x381000, x381001, x381002, x381003 => if x23 = true then ((riverbanklaw14_live.f).bind fun t382 => (some t382)) else ((riverbankref03_Turn.f k x381000 x381001 x381002 x381003).bind fun bt384 => ((value_Of.f bt384.1 bt384.2.1 bt384.2.2.1 bt384.2.2.2).bind fun t388 => ((value_Of.f x381000 x381001 x381002 x381003).bind fun t389 => (if t388 = t389 then ((value_Of.f x381000 (wrap64 (1 - x381001)) x381002 x381003).bind fun t390 => ((value_Of.f x381000 x381001 x381002 x381003).bind fun t391 => (if t390 = (wrap64 (-t391)) then ((riverbanklaw14_live.f).bind fun t392 => (some t392)) else (some false)))) else (some false)))))
def riverbanklaw14_ValueTurn.f (k : Nat) (a0_0 : ByteArray) (a0_1 : Int) (a0_2 : Int) (a0_3 : Int) : Option (Bool) := if (a0_0.size : Int) > 200 then (riverbanklaw14_ValueTurn.j0 k true a0_0 a0_1 a0_2 a0_3) else ((board_Is.f a0_0).bind fun t381 => (if t381 = true then (if a0_1 < 0 then (riverbanklaw14_ValueTurn.j0 k true a0_0 a0_1 a0_2 a0_3) else (riverbanklaw14_ValueTurn.j0 k (decide (a0_1 > 1)) a0_0 a0_1 a0_2 a0_3)) else (riverbanklaw14_ValueTurn.j0 k true a0_0 a0_1 a0_2 a0_3)))
theorem riverbanklaw14_ValueTurn.mono_l : ∀ k, (∀ y0 y1 y2 y3 y4, LeO (riverbanklaw14_ValueTurn.j0 k y0 y1 y2 y3 y4) (riverbanklaw14_ValueTurn.j0 (k + 1) y0 y1 y2 y3 y4))
  | 0 => fun _ _ _ _ _ r h => by simp [riverbanklaw14_ValueTurn.j0] at h
  | k + 1 => by
    have ih0 := riverbanklaw14_ValueTurn.mono_l k
    · intro y0 y1 y2 y3 y4
      unfold riverbanklaw14_ValueTurn.j0
      repeat' first
      | (with_reducible exact ih0 _ _ _ _ _)
      | (with_reducible exact riverbankref03_Turn.mono _ _ _ _ _)
      | (with_reducible exact LeO.refl _)
      | (with_reducible exact LeO.none _)
      | (with_reducible refine LeO.ite ?_ ?_)
      | (with_reducible refine LeO.bind ?_ (fun _ => ?_))
      | exact ih0 _ _ _ _ _
      | exact riverbankref03_Turn.mono _ _ _ _ _
      | exact LeO.none _
      | refine LeO.ite ?_ ?_
      | refine LeO.bind ?_ (fun _ => ?_)
theorem riverbanklaw14_ValueTurn.mono : ∀ a0 a1 a2 a3 k, LeO (riverbanklaw14_ValueTurn.f k a0 a1 a2 a3) (riverbanklaw14_ValueTurn.f (k + 1) a0 a1 a2 a3) := by
  intro a0 a1 a2 a3 k
  have ih0 := riverbanklaw14_ValueTurn.mono_l k
  unfold riverbanklaw14_ValueTurn.f
  repeat' first
      | (with_reducible exact ih0 _ _ _ _ _)
      | (with_reducible exact riverbankref03_Turn.mono _ _ _ _ _)
      | (with_reducible exact LeO.refl _)
      | (with_reducible exact LeO.none _)
      | (with_reducible refine LeO.ite ?_ ?_)
      | (with_reducible refine LeO.bind ?_ (fun _ => ?_))
      | exact ih0 _ _ _ _ _
      | exact riverbankref03_Turn.mono _ _ _ _ _
      | exact LeO.none _
      | refine LeO.ite ?_ ?_
      | refine LeO.bind ?_ (fun _ => ?_)
def riverbanklaw14_ValueTurn.T5 : Bool × List (List Nat × List Nat) := (true, [([], []), ([0], [0]), ([1, 1], [1]), ([], []), ([3, 2], [3]), ([2, 4], [2, 4]), ([5, 4], [5]), ([6], [6]), ([7, 6, 6], [6, 7]), ([6], [6]), ([9, 8, 6], [6, 9]), ([10, 6], [6, 10]), ([8, 11, 6], [6, 8, 11]), ([6, 12], [6, 12]), ([13, 10], [13]), ([14, 14], [14]), ([14, 15], [14, 15]), ([16, 15, 0, 1, 2, 3, 4, 5, 6, 7, 8, 9, 10, 11, 12, 13, 14, 15, 16], [16])])
def riverbanklaw14_ValueTurn.B5 : List Nat := [0, 1, 3, 0, 15, 31, 63, 127, 255, 127, 1023, 2047, 4095, 8191, 16383, 32767, 65535, 131071]
theorem riverbanklaw14_ValueTurn.tab5 : rtab .any (opsOf Try.f13 5) = riverbanklaw14_ValueTurn.T5 := by kernel_rfl
theorem riverbanklaw14_ValueTurn.bits5 : waitsOk riverbanklaw14_ValueTurn.T5.2 riverbanklaw14_ValueTurn.B5 = true := by kernel_rfl
set_option maxHeartbeats 8000000 in
set_option maxRecDepth 100000 in
theorem riverbanklaw14_ValueTurn.calls (k : Nat) (a0_0 : ByteArray) (a0_1 : Int) (a0_2 : Int) (a0_3 : Int) (r : Bool) (w : World) (h : riverbanklaw14_ValueTurn.f k a0_0 a0_1 a0_2 a0_3 = some r) :
    Calls Try.prog 13 #[.agg #[.string a0_0, .int .i64 a0_1, .int .i64 a0_2, .int .i64 a0_3]] w fun e w' => e = .returned (.bool r) ∧ Below w.heap.size w w' := by
  have hu29 := Try.underlying29
  have HB := Aside0.mk (Below.refl w.heap.size w)
  have H : (if (a0_0.size : Int) > 200 then (riverbanklaw14_ValueTurn.j0 k true a0_0 a0_1 a0_2 a0_3) else ((board_Is.f a0_0).bind fun t381 => (if t381 = true then (if a0_1 < 0 then (riverbanklaw14_ValueTurn.j0 k true a0_0 a0_1 a0_2 a0_3) else (riverbanklaw14_ValueTurn.j0 k (decide (a0_1 > 1)) a0_0 a0_1 a0_2 a0_3)) else (riverbanklaw14_ValueTurn.j0 k true a0_0 a0_1 a0_2 a0_3)))) = some r := h
  clear h
  have HC2 := Aside0.mk H
  clear H
  go_enter Try.func13, Try.ntmps13
  go_upto_region 1 with (first | ((with_reducible refine gate_dst (N := 1) rfl ?_); refine box_event ?hg (N := 1) ?hd (cs := #[.string a0_0, .int .i64 a0_1, .int .i64 a0_2, .int .i64 a0_3]) (t := 29) ?hr ?_; (case hd => rfl); (case hg => rfl); (case hr => first | (go_simp; done) | (go_simp; rfl)); intro gb380 hg w3 hbox hb; have n0_ := Aside0.mk (below_step (by repeat (first | (with_reducible first | exact HB.out | apply below_alloc | apply pw_below_drewN | apply below_drew1) | exact HB.out)) hb); have n1_ := Aside0.mk (hbox); have n2_ := Aside0.mk ((by rw [hg]; exact (below_size (by repeat (first | (with_reducible first | exact HB.out | apply below_alloc | apply pw_below_drewN | apply below_drew1) | exact HB.out))) : w.heap.size ≤ gb380)); have n3_ := Aside0.mk ((by rw [hg]; exact (below_size (by repeat (first | (with_reducible first | exact HB.out | apply below_alloc | apply pw_below_drewN | apply below_drew1) | exact HB.out))) : w.heap.size ≤ gb380)); clear HB; have HB := n0_; have BK380 := n1_; have GW380 := n2_; have GE380 := n3_; clear n0_ n1_ n2_ n3_; clear hb hbox hg))
  (try simp only [Act.put, List.setIfInBounds_toArray, List.set_cons_zero, List.set_cons_succ])
  go_cut [23] (fun v23 wc => ∃ (kq : Nat) (x23_1 : Bool), v23 = .bool x23_1 ∧ Aside0 (riverbanklaw14_ValueTurn.j0 kq x23_1 a0_0 a0_1 a0_2 a0_3 = some r) ∧ Aside0 (kq ≤ k) ∧ Aside0 (wc.heap[gb380]? = some (.cells #[.string a0_0, .int .i64 a0_1, .int .i64 a0_2, .int .i64 a0_3] 29 (0, 0))) ∧ Aside0 (Below w.heap.size w wc))
  case first =>
    have H := HC2.out
    clear HC2
    by_cases c4 : (a0_0.size : Int) > 200
    · rw [if_pos c4] at H
      have c4b0 : decide (200 < (a0_0.size : Int)) = true := decide_eq_true c4
      have c4b1 : decide (200 < a0_0.size) = true := decide_eq_true (by omega)
      clear c4
      (first | rw [c4b0] | (simp only [i64_w, i32_w]; rw [c4b0]) | skip)
      have H' := Aside0.mk H
      clear H
      have hcz5_0 : w3.cell? ⟨gb380, 0, none⟩ = some (.string a0_0) := (blk_cell BK380.out 0).trans rfl
      have hcz5_1 : w3.cell? ⟨gb380, 1, none⟩ = some (.int .i64 a0_1) := (blk_cell BK380.out 1).trans rfl
      have hcz5_2 : w3.cell? ⟨gb380, 2, none⟩ = some (.int .i64 a0_2) := (blk_cell BK380.out 2).trans rfl
      have hcz5_3 : w3.cell? ⟨gb380, 3, none⟩ = some (.int .i64 a0_3) := (blk_cell BK380.out 3).trans rfl
      have hfz5_0 := blk_frozen BK380.out 0
      have hfz5_1 := blk_frozen BK380.out 1
      have hfz5_2 := blk_frozen BK380.out 2
      have hfz5_3 := blk_frozen BK380.out 3
      go_wp2
      go_meet
      case rel => exact ⟨_, (true), (by first | rfl | (simp; done) | (simp [*]; done)), H', ⟨by first | omega | exact Nat.le_refl _⟩, ⟨by (with_reducible repeat (first | refine blk_drewN ?_ _ | refine blk_drew ?_ | refine blk_alloc ?_ _)); exact BK380.out⟩, ⟨by repeat (first | (with_reducible first | exact HB.out | apply below_alloc | apply pw_below_drewN | apply below_drew1 | refine below_set ?_ GE380.out) | exact HB.out)⟩⟩
    · rw [if_neg c4] at H
      have c4b0 : decide (200 < (a0_0.size : Int)) = false := decide_eq_false c4
      have c4b1 : decide (200 < a0_0.size) = false := decide_eq_false (by omega)
      clear c4
      (first | rw [c4b0] | (simp only [i64_w, i32_w]; rw [c4b0]) | skip)
      replace H := Option.bind_eq_some_iff.mp H
      obtain ⟨t381, A60, H⟩ := H
      replace H : (if t381 = true then (if a0_1 < 0 then (riverbanklaw14_ValueTurn.j0 k true a0_0 a0_1 a0_2 a0_3) else (riverbanklaw14_ValueTurn.j0 k (decide (a0_1 > 1)) a0_0 a0_1 a0_2 a0_3)) else (riverbanklaw14_ValueTurn.j0 k true a0_0 a0_1 a0_2 a0_3)) = some r := H
      have A6 := Aside0.mk A60
      clear A60
      by_cases c7 : t381 = true
      · subst c7
        have H1 : (if a0_1 < 0 then (riverbanklaw14_ValueTurn.j0 k true a0_0 a0_1 a0_2 a0_3) else (riverbanklaw14_ValueTurn.j0 k (decide (a0_1 > 1)) a0_0 a0_1 a0_2 a0_3)) = some r := by rw [if_pos rfl] at H; exact H
        clear H
        have H := H1
        clear H1
        by_cases c8 : a0_1 < 0
        · rw [if_pos c8] at H
          have c8b0 : decide (a0_1 < 0) = true := decide_eq_true c8
          clear c8
          have H' := Aside0.mk H
          clear H
          have hcz9_0 : w3.cell? ⟨gb380, 0, none⟩ = some (.string a0_0) := (blk_cell BK380.out 0).trans rfl
          have hcz9_1 : w3.cell? ⟨gb380, 1, none⟩ = some (.int .i64 a0_1) := (blk_cell BK380.out 1).trans rfl
          have hcz9_2 : w3.cell? ⟨gb380, 2, none⟩ = some (.int .i64 a0_2) := (blk_cell BK380.out 2).trans rfl
          have hcz9_3 : w3.cell? ⟨gb380, 3, none⟩ = some (.int .i64 a0_3) := (blk_cell BK380.out 3).trans rfl
          have hfz9_0 := blk_frozen BK380.out 0
          have hfz9_1 := blk_frozen BK380.out 1
          have hfz9_2 := blk_frozen BK380.out 2
          have hfz9_3 := blk_frozen BK380.out 3
          go_wp2_with (first | (go_at_call 41; (with_reducible refine (board_Is.calls a0_0 true _ A6.out).mono ?_); rintro e w10 ⟨rfl, hb⟩; have n0_ := Aside0.mk (blk_below (g := gb380) (o := .cells #[.string a0_0, .int .i64 a0_1, .int .i64 a0_2, .int .i64 a0_3] 29 (0, 0)) (by (with_reducible repeat (first | refine blk_drewN ?_ _ | refine blk_drew ?_ | refine blk_alloc ?_ _)); exact BK380.out) hb); have n1_ := Aside0.mk (below_step (by repeat (first | (with_reducible first | exact HB.out | apply below_alloc | apply pw_below_drewN | apply below_drew1 | refine below_set ?_ GE380.out) | exact HB.out)) hb); clear BK380; clear HB; have BK380 := n0_; have HB := n1_; clear n0_ n1_; (try clear hb); (try clear hb2); (try clear hk); (try clear hi); have hcz11_0 : w10.cell? ⟨gb380, 0, none⟩ = some (.string a0_0) := (blk_cell BK380.out 0).trans rfl; have hcz11_1 : w10.cell? ⟨gb380, 1, none⟩ = some (.int .i64 a0_1) := (blk_cell BK380.out 1).trans rfl; have hcz11_2 : w10.cell? ⟨gb380, 2, none⟩ = some (.int .i64 a0_2) := (blk_cell BK380.out 2).trans rfl; have hcz11_3 : w10.cell? ⟨gb380, 3, none⟩ = some (.int .i64 a0_3) := (blk_cell BK380.out 3).trans rfl; have hfz11_0 := blk_frozen BK380.out 0; have hfz11_1 := blk_frozen BK380.out 1; have hfz11_2 := blk_frozen BK380.out 2; have hfz11_3 := blk_frozen BK380.out 3))
          go_meet
          case rel => exact ⟨_, (true), (by first | rfl | (simp; done) | (simp [*]; done)), H', ⟨by first | omega | exact Nat.le_refl _⟩, ⟨by (with_reducible repeat (first | refine blk_drewN ?_ _ | refine blk_drew ?_ | refine blk_alloc ?_ _)); exact BK380.out⟩, ⟨by repeat (first | (with_reducible first | exact HB.out | apply below_alloc | apply pw_below_drewN | apply below_drew1 | refine below_set ?_ GE380.out) | exact HB.out)⟩⟩
        · rw [if_neg c8] at H
          have c8b0 : decide (a0_1 < 0) = false := decide_eq_false c8
          clear c8
          have H' := Aside0.mk H
          clear H
          have hcz12_0 : w3.cell? ⟨gb380, 0, none⟩ = some (.string a0_0) := (blk_cell BK380.out 0).trans rfl
          have hcz12_1 : w3.cell? ⟨gb380, 1, none⟩ = some (.int .i64 a0_1) := (blk_cell BK380.out 1).trans rfl
          have hcz12_2 : w3.cell? ⟨gb380, 2, none⟩ = some (.int .i64 a0_2) := (blk_cell BK380.out 2).trans rfl
          have hcz12_3 : w3.cell? ⟨gb380, 3, none⟩ = some (.int .i64 a0_3) := (blk_cell BK380.out 3).trans rfl
          have hfz12_0 := blk_frozen BK380.out 0
          have hfz12_1 := blk_frozen BK380.out 1
          have hfz12_2 := blk_frozen BK380.out 2
          have hfz12_3 := blk_frozen BK380.out 3
          go_wp2_with (first | (go_at_call 41; (with_reducible refine (board_Is.calls a0_0 true _ A6.out).mono ?_); rintro e w13 ⟨rfl, hb⟩; have n0_ := Aside0.mk (blk_below (g := gb380) (o := .cells #[.string a0_0, .int .i64 a0_1, .int .i64 a0_2, .int .i64 a0_3] 29 (0, 0)) (by (with_reducible repeat (first | refine blk_drewN ?_ _ | refine blk_drew ?_ | refine blk_alloc ?_ _)); exact BK380.out) hb); have n1_ := Aside0.mk (below_step (by repeat (first | (with_reducible first | exact HB.out | apply below_alloc | apply pw_below_drewN | apply below_drew1 | refine below_set ?_ GE380.out) | exact HB.out)) hb); clear BK380; clear HB; have BK380 := n0_; have HB := n1_; clear n0_ n1_; (try clear hb); (try clear hb2); (try clear hk); (try clear hi); have hcz14_0 : w13.cell? ⟨gb380, 0, none⟩ = some (.string a0_0) := (blk_cell BK380.out 0).trans rfl; have hcz14_1 : w13.cell? ⟨gb380, 1, none⟩ = some (.int .i64 a0_1) := (blk_cell BK380.out 1).trans rfl; have hcz14_2 : w13.cell? ⟨gb380, 2, none⟩ = some (.int .i64 a0_2) := (blk_cell BK380.out 2).trans rfl; have hcz14_3 : w13.cell? ⟨gb380, 3, none⟩ = some (.int .i64 a0_3) := (blk_cell BK380.out 3).trans rfl; have hfz14_0 := blk_frozen BK380.out 0; have hfz14_1 := blk_frozen BK380.out 1; have hfz14_2 := blk_frozen BK380.out 2; have hfz14_3 := blk_frozen BK380.out 3))
          go_meet
          case rel => exact ⟨_, (decide (a0_1 > 1)), (by first | rfl | (simp; done) | (simp [*]; done)), H', ⟨by first | omega | exact Nat.le_refl _⟩, ⟨by (with_reducible repeat (first | refine blk_drewN ?_ _ | refine blk_drew ?_ | refine blk_alloc ?_ _)); exact BK380.out⟩, ⟨by repeat (first | (with_reducible first | exact HB.out | apply below_alloc | apply pw_below_drewN | apply below_drew1 | refine below_set ?_ GE380.out) | exact HB.out)⟩⟩
      · replace c7 := Bool.eq_false_iff.mpr c7
        subst c7
        have H1 : (riverbanklaw14_ValueTurn.j0 k true a0_0 a0_1 a0_2 a0_3) = some r := by rw [if_neg (show ¬ (false = true) by decide)] at H; exact H
        clear H
        have H := H1
        clear H1
        have H' := Aside0.mk H
        clear H
        have hcz15_0 : w3.cell? ⟨gb380, 0, none⟩ = some (.string a0_0) := (blk_cell BK380.out 0).trans rfl
        have hcz15_1 : w3.cell? ⟨gb380, 1, none⟩ = some (.int .i64 a0_1) := (blk_cell BK380.out 1).trans rfl
        have hcz15_2 : w3.cell? ⟨gb380, 2, none⟩ = some (.int .i64 a0_2) := (blk_cell BK380.out 2).trans rfl
        have hcz15_3 : w3.cell? ⟨gb380, 3, none⟩ = some (.int .i64 a0_3) := (blk_cell BK380.out 3).trans rfl
        have hfz15_0 := blk_frozen BK380.out 0
        have hfz15_1 := blk_frozen BK380.out 1
        have hfz15_2 := blk_frozen BK380.out 2
        have hfz15_3 := blk_frozen BK380.out 3
        go_wp2_with (first | (go_at_call 41; (with_reducible refine (board_Is.calls a0_0 false _ A6.out).mono ?_); rintro e w16 ⟨rfl, hb⟩; have n0_ := Aside0.mk (blk_below (g := gb380) (o := .cells #[.string a0_0, .int .i64 a0_1, .int .i64 a0_2, .int .i64 a0_3] 29 (0, 0)) (by (with_reducible repeat (first | refine blk_drewN ?_ _ | refine blk_drew ?_ | refine blk_alloc ?_ _)); exact BK380.out) hb); have n1_ := Aside0.mk (below_step (by repeat (first | (with_reducible first | exact HB.out | apply below_alloc | apply pw_below_drewN | apply below_drew1 | refine below_set ?_ GE380.out) | exact HB.out)) hb); clear BK380; clear HB; have BK380 := n0_; have HB := n1_; clear n0_ n1_; (try clear hb); (try clear hb2); (try clear hk); (try clear hi)))
        go_meet
        case rel => exact ⟨_, (true), (by first | rfl | (simp; done) | (simp [*]; done)), H', ⟨by first | omega | exact Nat.le_refl _⟩, ⟨by (with_reducible repeat (first | refine blk_drewN ?_ _ | refine blk_drew ?_ | refine blk_alloc ?_ _)); exact BK380.out⟩, ⟨by repeat (first | (with_reducible first | exact HB.out | apply below_alloc | apply pw_below_drewN | apply below_drew1 | refine below_set ?_ GE380.out) | exact HB.out)⟩⟩
  case rest =>
    clear HC2
    try clear c1
    try clear p2
    try clear c4
    try clear c4b0
    try clear c4b1
    try clear c7
    try clear c8
    try clear c8b0
    try clear c13
    try clear hcz11_0
    try clear hcz11_1
    try clear hcz11_2
    try clear hcz11_3
    try clear hcz12_0
    try clear hcz12_1
    try clear hcz12_2
    try clear hcz12_3
    try clear hcz14_0
    try clear hcz14_1
    try clear hcz14_2
    try clear hcz14_3
    try clear hcz15_0
    try clear hcz15_1
    try clear hcz15_2
    try clear hcz15_3
    try clear hcz5_0
    try clear hcz5_1
    try clear hcz5_2
    try clear hcz5_3
    try clear hcz9_0
    try clear hcz9_1
    try clear hcz9_2
    try clear hcz9_3
    try clear hfz11_0
    try clear hfz11_1
    try clear hfz11_2
    try clear hfz11_3
    try clear hfz12_0
    try clear hfz12_1
    try clear hfz12_2
    try clear hfz12_3
    try clear hfz14_0
    try clear hfz14_1
    try clear hfz14_2
    try clear hfz14_3
    try clear hfz15_0
    try clear hfz15_1
    try clear hfz15_2
    try clear hfz15_3
    try clear hfz5_0
    try clear hfz5_1
    try clear hfz5_2
    try clear hfz5_3
    try clear hfz9_0
    try clear hfz9_1
    try clear hfz9_2
    try clear hfz9_3
    obtain ⟨kq, x23_1, rfl, HA, HJ1, BK380, HB⟩ := hcut
    cases kq with
    | zero => exact absurd HA.out (by simp [riverbanklaw14_ValueTurn.j0])
    | succ kj1 =>
      have H := HA.out
      clear HA
      simp only [riverbanklaw14_ValueTurn.j0] at H
      by_cases c17 : x23_1 = true
      · subst c17
        have H1 : ((riverbanklaw14_live.f).bind fun t382 => (some t382)) = some r := by rw [if_pos rfl] at H; exact H
        clear H
        have H := H1
        clear H1
        replace H := Option.bind_eq_some_iff.mp H
        obtain ⟨t382, A180, H⟩ := H
        replace H : (some t382) = some r := H
        have A18 := Aside0.mk A180
        clear A180
        obtain rfl := Option.some.inj H
        go_wp2_with (first | ((with_reducible refine gate_callee (f := 36) rfl ?_); refine goesL_ (some 24) rfl rfl Try.func36 (by kernel_rfl) rfl #[] rfl (by (try simp only [List.map_toArray, List.map_cons, List.map_nil]); first | done | rfl | (simp only [List.length_drop, List.length_take]; rfl)) ?_; (with_reducible refine (riverbanklaw14_live.calls  t382 _ A18.out).mono ?_); rintro e w19 ⟨rfl, hb⟩; refine ⟨_, rfl, ?_⟩; have n0_ := Aside0.mk (blk_below (g := gb380) (o := .cells #[.string a0_0, .int .i64 a0_1, .int .i64 a0_2, .int .i64 a0_3] 29 (0, 0)) (by (with_reducible repeat (first | refine blk_drewN ?_ _ | refine blk_drew ?_ | refine blk_alloc ?_ _)); exact BK380.out) hb); have n1_ := Aside0.mk (below_step (by repeat (first | (with_reducible first | exact HB.out | apply below_alloc | apply pw_below_drewN | apply below_drew1 | refine below_set ?_ GE380.out) | exact HB.out)) hb); clear BK380; clear HB; have BK380 := n0_; have HB := n1_; clear n0_ n1_; (try clear hb); (try clear hb2); (try clear hk); (try clear hi)))
        go_ret
        exact ⟨by first | rfl | (simp [errW_none, errW_some] <;> rfl) | (simp [*, errW_none, errW_some] <;> rfl), by repeat (first | (with_reducible first | exact HB.out | apply below_alloc | apply pw_below_drewN | apply below_drew1 | refine below_set ?_ GE380.out) | exact HB.out)⟩
      · replace c17 := Bool.eq_false_iff.mpr c17
        subst c17
        have H1 : ((riverbankref03_Turn.f kj1 a0_0 a0_1 a0_2 a0_3).bind fun bt384 => ((value_Of.f bt384.1 bt384.2.1 bt384.2.2.1 bt384.2.2.2).bind fun t388 => ((value_Of.f a0_0 a0_1 a0_2 a0_3).bind fun t389 => (if t388 = t389 then ((value_Of.f a0_0 (wrap64 (1 - a0_1)) a0_2 a0_3).bind fun t390 => ((value_Of.f a0_0 a0_1 a0_2 a0_3).bind fun t391 => (if t390 = (wrap64 (-t391)) then ((riverbanklaw14_live.f).bind fun t392 => (some t392)) else (some false)))) else (some false))))) = some r := by rw [if_neg (show ¬ (false = true) by decide)] at H; exact H
        clear H
        have H := H1
        clear H1
        replace H := Option.bind_eq_some_iff.mp H
        obtain ⟨⟨t384, t385, t386, t387⟩, A200, H⟩ := H
        replace H : ((value_Of.f t384 t385 t386 t387).bind fun t388 => ((value_Of.f a0_0 a0_1 a0_2 a0_3).bind fun t389 => (if t388 = t389 then ((value_Of.f a0_0 (wrap64 (1 - a0_1)) a0_2 a0_3).bind fun t390 => ((value_Of.f a0_0 a0_1 a0_2 a0_3).bind fun t391 => (if t390 = (wrap64 (-t391)) then ((riverbanklaw14_live.f).bind fun t392 => (some t392)) else (some false)))) else (some false)))) = some r := H
        have A20 := Aside0.mk A200
        clear A200
        replace H := Option.bind_eq_some_iff.mp H
        obtain ⟨t388, A210, H⟩ := H
        replace H : ((value_Of.f a0_0 a0_1 a0_2 a0_3).bind fun t389 => (if t388 = t389 then ((value_Of.f a0_0 (wrap64 (1 - a0_1)) a0_2 a0_3).bind fun t390 => ((value_Of.f a0_0 a0_1 a0_2 a0_3).bind fun t391 => (if t390 = (wrap64 (-t391)) then ((riverbanklaw14_live.f).bind fun t392 => (some t392)) else (some false)))) else (some false))) = some r := H
        have A21 := Aside0.mk A210
        clear A210
        replace H := Option.bind_eq_some_iff.mp H
        obtain ⟨t389, A220, H⟩ := H
        replace H : (if t388 = t389 then ((value_Of.f a0_0 (wrap64 (1 - a0_1)) a0_2 a0_3).bind fun t390 => ((value_Of.f a0_0 a0_1 a0_2 a0_3).bind fun t391 => (if t390 = (wrap64 (-t391)) then ((riverbanklaw14_live.f).bind fun t392 => (some t392)) else (some false)))) else (some false)) = some r := H
        have A22 := Aside0.mk A220
        clear A220
        by_cases c23 : t388 = t389
        · rw [if_pos c23] at H
          have c23b0 : (t388 == t389) = true := beq_iff_eq.mpr c23
          have c23b1 : (t388 != t389) = false := bne_eq_false_iff_eq.mpr c23
          clear c23
          replace H := Option.bind_eq_some_iff.mp H
          obtain ⟨t390, A240, H⟩ := H
          replace H : ((value_Of.f a0_0 a0_1 a0_2 a0_3).bind fun t391 => (if t390 = (wrap64 (-t391)) then ((riverbanklaw14_live.f).bind fun t392 => (some t392)) else (some false))) = some r := H
          have A24 := Aside0.mk A240
          clear A240
          replace H := Option.bind_eq_some_iff.mp H
          obtain ⟨t391, A250, H⟩ := H
          replace H : (if t390 = (wrap64 (-t391)) then ((riverbanklaw14_live.f).bind fun t392 => (some t392)) else (some false)) = some r := H
          have A25 := Aside0.mk A250
          clear A250
          by_cases c26 : t390 = (wrap64 (-t391))
          · rw [if_pos c26] at H
            have c26b0 : (t390 == (wrap64 (-t391))) = true := beq_iff_eq.mpr c26
            have c26b1 : (t390 != (wrap64 (-t391))) = false := bne_eq_false_iff_eq.mpr c26
            clear c26
            replace H := Option.bind_eq_some_iff.mp H
            obtain ⟨t392, A270, H⟩ := H
            replace H : (some t392) = some r := H
            have A27 := Aside0.mk A270
            clear A270
            obtain rfl := Option.some.inj H
            have hcz28_0 : wc.cell? ⟨gb380, 0, none⟩ = some (.string a0_0) := (blk_cell BK380.out 0).trans rfl
            have hcz28_1 : wc.cell? ⟨gb380, 1, none⟩ = some (.int .i64 a0_1) := (blk_cell BK380.out 1).trans rfl
            have hcz28_2 : wc.cell? ⟨gb380, 2, none⟩ = some (.int .i64 a0_2) := (blk_cell BK380.out 2).trans rfl
            have hcz28_3 : wc.cell? ⟨gb380, 3, none⟩ = some (.int .i64 a0_3) := (blk_cell BK380.out 3).trans rfl
            have hfz28_0 := blk_frozen BK380.out 0
            have hfz28_1 := blk_frozen BK380.out 1
            have hfz28_2 := blk_frozen BK380.out 2
            have hfz28_3 := blk_frozen BK380.out 3
            try go_wp2_with (first | ((with_reducible refine gate_dst (N := 3) rfl ?_); refine box_event ?hg (N := 3) ?hd (cs := #[.string (⟨#[]⟩ : ByteArray), .int .i64 0, .int .i64 0, .int .i64 0]) (t := 29) ?hr ?_; (case hd => rfl); (case hg => rfl); (case hr => first | (go_simp; done) | (go_simp; rfl)); intro gb383 hg w29 hbox hb; have n0_ := Aside0.mk (blk_below (g := gb380) (o := .cells #[.string a0_0, .int .i64 a0_1, .int .i64 a0_2, .int .i64 a0_3] 29 (0, 0)) (by (with_reducible repeat (first | refine blk_drewN ?_ _ | refine blk_drew ?_ | refine blk_alloc ?_ _)); exact BK380.out) hb); have n1_ := Aside0.mk (below_step (by repeat (first | (with_reducible first | exact HB.out | apply below_alloc | apply pw_below_drewN | apply below_drew1 | refine below_set ?_ GE380.out) | exact HB.out)) hb); have n2_ := Aside0.mk (hbox); have n3_ := Aside0.mk ((by rw [hg]; exact (below_size (by repeat (first | (with_reducible first | exact HB.out | apply below_alloc | apply pw_below_drewN | apply below_drew1 | refine below_set ?_ GE380.out) | exact HB.out))) : w.heap.size ≤ gb383)); have n4_ := Aside0.mk ((by rw [hg]; exact (below_size (by repeat (first | (with_reducible first | exact HB.out | apply below_alloc | apply pw_below_drewN | apply below_drew1 | refine below_set ?_ GE380.out) | exact HB.out))) : w.heap.size ≤ gb383)); have n5_ := Aside0.mk ((by rw [hg]; exact Nat.ne_of_lt (blk_lt (g := gb380) (o := .cells #[.string a0_0, .int .i64 a0_1, .int .i64 a0_2, .int .i64 a0_3] 29 (0, 0)) (by (with_reducible repeat (first | refine blk_drewN ?_ _ | refine blk_drew ?_ | refine blk_alloc ?_ _)); exact BK380.out)) : gb380 ≠ gb383)); have n6_ := Aside0.mk ((by rw [hg]; exact Nat.ne_of_gt (blk_lt (g := gb380) (o := .cells #[.string a0_0, .int .i64 a0_1, .int .i64 a0_2, .int .i64 a0_3] 29 (0, 0)) (by (with_reducible repeat (first | refine blk_drewN ?_ _ | refine blk_drew ?_ | refine blk_alloc ?_ _)); exact BK380.out)) : gb383 ≠ gb380)); clear BK380; clear HB; have BK380 := n0_; have HB := n1_; have BK383 := n2_; have GW383 := n3_; have GE383 := n4_; have NB380_383 := n5_; have NB383_380 := n6_; clear n0_ n1_ n2_ n3_ n4_ n5_ n6_; clear hb hbox hg; have hnb30 := NB383_380.out; have hnc30 := NB380_383.out; have hcz31_0 : w29.cell? ⟨gb383, 0, none⟩ = some (.string (⟨#[]⟩ : ByteArray)) := (blk_cell BK383.out 0).trans rfl; have hcz31_1 : w29.cell? ⟨gb383, 1, none⟩ = some (.int .i64 0) := (blk_cell BK383.out 1).trans rfl; have hcz31_2 : w29.cell? ⟨gb383, 2, none⟩ = some (.int .i64 0) := (blk_cell BK383.out 2).trans rfl; have hcz31_3 : w29.cell? ⟨gb383, 3, none⟩ = some (.int .i64 0) := (blk_cell BK383.out 3).trans rfl; have hfz31_0 := blk_frozen BK383.out 0; have hfz31_1 := blk_frozen BK383.out 1; have hfz31_2 := blk_frozen BK383.out 2; have hfz31_3 := blk_frozen BK383.out 3; have hcz32_0 : w29.cell? ⟨gb380, 0, none⟩ = some (.string a0_0) := (blk_cell BK380.out 0).trans rfl; have hcz32_1 : w29.cell? ⟨gb380, 1, none⟩ = some (.int .i64 a0_1) := (blk_cell BK380.out 1).trans rfl; have hcz32_2 : w29.cell? ⟨gb380, 2, none⟩ = some (.int .i64 a0_2) := (blk_cell BK380.out 2).trans rfl; have hcz32_3 : w29.cell? ⟨gb380, 3, none⟩ = some (.int .i64 a0_3) := (blk_cell BK380.out 3).trans rfl; have hfz32_0 := blk_frozen BK380.out 0; have hfz32_1 := blk_frozen BK380.out 1; have hfz32_2 := blk_frozen BK380.out 2; have hfz32_3 := blk_frozen BK380.out 3))
            have n0_ : Aside0 ((((((w29.setCell ⟨gb383, 0, none⟩ (.string a0_0)).setCell ⟨gb383, 1, none⟩ (.int .i64 a0_1)).setCell ⟨gb383, 2, none⟩ (.int .i64 a0_2)).setCell ⟨gb383, 3, none⟩ (.int .i64 a0_3)).setCell ⟨gb383, 1, none⟩ (.int .i64 (wrap64 (1 - a0_1)))).heap[gb380]? = some (.cells #[.string a0_0, .int .i64 a0_1, .int .i64 a0_2, .int .i64 a0_3] 29 (0, 0))) := ⟨by (with_reducible repeat (first | refine blk_drewN ?_ _ | refine blk_drew ?_ | refine blk_alloc ?_ _)); refine blk_far ?_ NB380_383.out _; (with_reducible repeat (first | refine blk_drewN ?_ _ | refine blk_drew ?_ | refine blk_alloc ?_ _)); refine blk_far ?_ NB380_383.out _; (with_reducible repeat (first | refine blk_drewN ?_ _ | refine blk_drew ?_ | refine blk_alloc ?_ _)); refine blk_far ?_ NB380_383.out _; (with_reducible repeat (first | refine blk_drewN ?_ _ | refine blk_drew ?_ | refine blk_alloc ?_ _)); refine blk_far ?_ NB380_383.out _; (with_reducible repeat (first | refine blk_drewN ?_ _ | refine blk_drew ?_ | refine blk_alloc ?_ _)); refine blk_far ?_ NB380_383.out _; (with_reducible repeat (first | refine blk_drewN ?_ _ | refine blk_drew ?_ | refine blk_alloc ?_ _)); exact BK380.out⟩
            have n1_ : Aside0 ((((((w29.setCell ⟨gb383, 0, none⟩ (.string a0_0)).setCell ⟨gb383, 1, none⟩ (.int .i64 a0_1)).setCell ⟨gb383, 2, none⟩ (.int .i64 a0_2)).setCell ⟨gb383, 3, none⟩ (.int .i64 a0_3)).setCell ⟨gb383, 1, none⟩ (.int .i64 (wrap64 (1 - a0_1)))).heap[gb383]? = some (.cells #[.string a0_0, .int .i64 (wrap64 (1 - a0_1)), .int .i64 a0_2, .int .i64 a0_3] 29 (0, 0))) := ⟨by (with_reducible repeat (first | refine blk_drewN ?_ _ | refine blk_drew ?_ | refine blk_alloc ?_ _)); refine blk_put (cs := #[.string a0_0, .int .i64 a0_1, .int .i64 a0_2, .int .i64 a0_3]) ?_ 1 _ rfl; (with_reducible repeat (first | refine blk_drewN ?_ _ | refine blk_drew ?_ | refine blk_alloc ?_ _)); refine blk_put (cs := #[.string a0_0, .int .i64 a0_1, .int .i64 a0_2, .int .i64 0]) ?_ 3 _ rfl; (with_reducible repeat (first | refine blk_drewN ?_ _ | refine blk_drew ?_ | refine blk_alloc ?_ _)); refine blk_put (cs := #[.string a0_0, .int .i64 a0_1, .int .i64 0, .int .i64 0]) ?_ 2 _ rfl; (with_reducible repeat (first | refine blk_drewN ?_ _ | refine blk_drew ?_ | refine blk_alloc ?_ _)); refine blk_put (cs := #[.string a0_0, .int .i64 0, .int .i64 0, .int .i64 0]) ?_ 1 _ rfl; (with_reducible repeat (first | refine blk_drewN ?_ _ | refine blk_drew ?_ | refine blk_alloc ?_ _)); refine blk_put (cs := #[.string (⟨#[]⟩ : ByteArray), .int .i64 0, .int .i64 0, .int .i64 0]) ?_ 0 _ rfl; (with_reducible repeat (first | refine blk_drewN ?_ _ | refine blk_drew ?_ | refine blk_alloc ?_ _)); exact BK383.out⟩
            have n2_ : Aside0 (Below w.heap.size w (((((w29.setCell ⟨gb383, 0, none⟩ (.string a0_0)).setCell ⟨gb383, 1, none⟩ (.int .i64 a0_1)).setCell ⟨gb383, 2, none⟩ (.int .i64 a0_2)).setCell ⟨gb383, 3, none⟩ (.int .i64 a0_3)).setCell ⟨gb383, 1, none⟩ (.int .i64 (wrap64 (1 - a0_1))))) := ⟨by repeat (first | (with_reducible first | exact HB.out | apply below_alloc | apply pw_below_drewN | apply below_drew1 | refine below_set ?_ GE380.out | refine below_set ?_ GE383.out) | exact HB.out)⟩
            (try clear BK380)
            (try clear BK383)
            (try clear HB)
            generalize (((((w29.setCell ⟨gb383, 0, none⟩ (.string a0_0)).setCell ⟨gb383, 1, none⟩ (.int .i64 a0_1)).setCell ⟨gb383, 2, none⟩ (.int .i64 a0_2)).setCell ⟨gb383, 3, none⟩ (.int .i64 a0_3)).setCell ⟨gb383, 1, none⟩ (.int .i64 (wrap64 (1 - a0_1)))) = w33 at n0_ n1_ n2_ ⊢
            have BK380 := n0_
            have BK383 := n1_
            have HB := n2_
            clear n0_ n1_ n2_
            have n0_ := Aside0.mk (blk_drew BK380.out)
            have n1_ := Aside0.mk (blk_drew BK383.out)
            have n2_ := Aside0.mk (below_drew1 HB.out)
            clear BK380
            clear BK383
            clear HB
            have BK380 := n0_
            have BK383 := n1_
            have HB := n2_
            clear n0_ n1_ n2_
            refine start_ (n := 18) (S := fun w' => w'.cell? ⟨gb380, 0, none⟩ = some (.string a0_0) ∧ w'.cell? ⟨gb380, 1, none⟩ = some (.int .i64 a0_1) ∧ w'.cell? ⟨gb380, 2, none⟩ = some (.int .i64 a0_2) ∧ w'.cell? ⟨gb380, 3, none⟩ = some (.int .i64 a0_3) ∧ w'.cell? ⟨gb383, 0, none⟩ = some (.string a0_0) ∧ w'.cell? ⟨gb383, 1, none⟩ = some (.int .i64 (wrap64 (1 - a0_1))) ∧ w'.cell? ⟨gb383, 2, none⟩ = some (.int .i64 a0_2) ∧ w'.cell? ⟨gb383, 3, none⟩ = some (.int .i64 a0_3)) (ds := []) #[false, false, false, false, false, false, false, false, false, false, false, false, false, false, false, false, false, false] (by kernel_rfl) rfl rfl ⟨(blk_cell BK380.out 0).trans rfl, (blk_cell BK380.out 1).trans rfl, (blk_cell BK380.out 2).trans rfl, (blk_cell BK380.out 3).trans rfl, (blk_cell BK383.out 0).trans rfl, (blk_cell BK383.out 1).trans rfl, (blk_cell BK383.out 2).trans rfl, (blk_cell BK383.out 3).trans rfl⟩ (fun hHeld => ?_); refine with_tabW riverbanklaw14_ValueTurn.tab5 riverbanklaw14_ValueTurn.bits5 (fun HT_ HW_ => ?_)
            generalize w33.drew = w34 at BK380 BK383 HB hHeld ⊢
            refine take_ (i := 0) (N := some 30) (v := ?_) (a' := ?_) #[true, false, false, false, false, false, false, false, false, false, false, false, false, false, false, false, false, false] rfl rfl (take_ofW HT_.out HW_.out (by kernel_rfl)) (fun _ _ _ h => h) (Or.inl ⟨by rfl, ?_⟩) hHeld ?_ ?_
            rotate_left
            · rintro w' ⟨s0, s1, s2, s3, s4, s5, s6, s7⟩
              go_simp
              with_reducible rfl
            rotate_left
            · simp only [Act.put, List.setIfInBounds_toArray, List.set_cons_zero, List.set_cons_succ, i64_w, i32_w]
              rfl
            refine take_ (i := 3) (N := some 33) (v := ?_) (a' := ?_) #[true, false, false, true, false, false, false, false, false, false, false, false, false, false, false, false, false, false] rfl rfl (take_ofW HT_.out HW_.out (by kernel_rfl)) (fun _ _ _ h => h) (Or.inl ⟨by rfl, ?_⟩) hHeld ?_ ?_
            rotate_left
            · rintro w' ⟨s0, s1, s2, s3, s4, s5, s6, s7⟩
              go_simp
              with_reducible rfl
            rotate_left
            · simp only [Act.put, List.setIfInBounds_toArray, List.set_cons_zero, List.set_cons_succ, i64_w, i32_w]
              rfl
            refine one_ (i := 1) (N := some 31) #[true, true, false, true, false, false, false, false, false, false, false, false, false, false, false, false, false, false] rfl rfl (one_of HT_.out (by kernel_rfl)) (by decide) (fun K hK => ?_)
            refine goes_ Try.func42 (by kernel_rfl) rfl #[.agg #[.string a0_0, .int .i64 a0_1, .int .i64 a0_2, .int .i64 a0_3]] (by rfl) rfl rfl (by (try simp only [List.map_toArray, List.map_cons, List.map_nil]); first | done | rfl | (simp only [List.length_drop, List.length_take]; rfl)) ?_
            with_reducible refine (riverbankref03_Turn.calls kj1 a0_0 a0_1 a0_2 a0_3 t384 t385 t386 t387 _ A20.out).mono ?_
            rintro e w35 ⟨rfl, hb⟩
            refine ⟨_, rfl, ?_⟩
            have n0_ := Aside0.mk (blk_below (g := gb380) (o := .cells #[.string a0_0, .int .i64 a0_1, .int .i64 a0_2, .int .i64 a0_3] 29 (0, 0)) (by (with_reducible repeat (first | refine blk_drewN ?_ _ | refine blk_drew ?_ | refine blk_alloc ?_ _)); exact BK380.out) hb)
            have n1_ := Aside0.mk (blk_below (g := gb383) (o := .cells #[.string a0_0, .int .i64 (wrap64 (1 - a0_1)), .int .i64 a0_2, .int .i64 a0_3] 29 (0, 0)) (by (with_reducible repeat (first | refine blk_drewN ?_ _ | refine blk_drew ?_ | refine blk_alloc ?_ _)); exact BK383.out) hb)
            have n2_ := Aside0.mk (below_step (by repeat (first | (with_reducible first | exact HB.out | apply below_alloc | apply pw_below_drewN | apply below_drew1 | refine below_set ?_ GE380.out | refine below_set ?_ GE383.out) | exact HB.out)) hb)
            clear BK380
            clear BK383
            clear HB
            have BK380 := n0_
            have BK383 := n1_
            have HB := n2_
            clear n0_ n1_ n2_
            (try clear hb)
            (try clear hb2)
            (try clear hk)
            (try clear hi)
            refine hK.out _ _ ⟨(blk_cell BK380.out 0).trans rfl, (blk_cell BK380.out 1).trans rfl, (blk_cell BK380.out 2).trans rfl, (blk_cell BK380.out 3).trans rfl, (blk_cell BK383.out 0).trans rfl, (blk_cell BK383.out 1).trans rfl, (blk_cell BK383.out 2).trans rfl, (blk_cell BK383.out 3).trans rfl⟩ (fun hHeld => ?_)
            clear hK K
            refine norm_ (a' := ?_) ?_ ?_
            rotate_left
            · show Act.put _ (some 31) _ = _
              simp only [Act.put, List.setIfInBounds_toArray, List.set_cons_zero, List.set_cons_succ, i64_w, i32_w]
              rfl
            refine one_ (i := 2) (N := some 32) #[true, true, true, true, false, false, false, false, false, false, false, false, false, false, false, false, false, false] rfl rfl (one_of HT_.out (by kernel_rfl)) (by decide) (fun K hK => ?_)
            refine goes_ Try.func37 (by kernel_rfl) rfl #[.agg #[.string t384, .int .i64 t385, .int .i64 t386, .int .i64 t387]] (by rfl) rfl rfl (by (try simp only [List.map_toArray, List.map_cons, List.map_nil]); first | done | rfl | (simp only [List.length_drop, List.length_take]; rfl)) ?_
            with_reducible refine (value_Of.calls t384 t385 t386 t387 t388 _ A21.out).mono ?_
            rintro e w36 ⟨rfl, hb⟩
            refine ⟨_, rfl, ?_⟩
            have n0_ := Aside0.mk (blk_below (g := gb380) (o := .cells #[.string a0_0, .int .i64 a0_1, .int .i64 a0_2, .int .i64 a0_3] 29 (0, 0)) (by (with_reducible repeat (first | refine blk_drewN ?_ _ | refine blk_drew ?_ | refine blk_alloc ?_ _)); exact BK380.out) hb)
            have n1_ := Aside0.mk (blk_below (g := gb383) (o := .cells #[.string a0_0, .int .i64 (wrap64 (1 - a0_1)), .int .i64 a0_2, .int .i64 a0_3] 29 (0, 0)) (by (with_reducible repeat (first | refine blk_drewN ?_ _ | refine blk_drew ?_ | refine blk_alloc ?_ _)); exact BK383.out) hb)
            have n2_ := Aside0.mk (below_step (by repeat (first | (with_reducible first | exact HB.out | apply below_alloc | apply pw_below_drewN | apply below_drew1 | refine below_set ?_ GE380.out | refine below_set ?_ GE383.out) | exact HB.out)) hb)
            clear BK380
            clear BK383
            clear HB
            have BK380 := n0_
            have BK383 := n1_
            have HB := n2_
            clear n0_ n1_ n2_
            (try clear hb)
            (try clear hb2)
            (try clear hk)
            (try clear hi)
            refine hK.out _ _ ⟨(blk_cell BK380.out 0).trans rfl, (blk_cell BK380.out 1).trans rfl, (blk_cell BK380.out 2).trans rfl, (blk_cell BK380.out 3).trans rfl, (blk_cell BK383.out 0).trans rfl, (blk_cell BK383.out 1).trans rfl, (blk_cell BK383.out 2).trans rfl, (blk_cell BK383.out 3).trans rfl⟩ (fun hHeld => ?_)
            clear hK K
            refine norm_ (a' := ?_) ?_ ?_
            rotate_left
            · show Act.put _ (some 32) _ = _
              simp only [Act.put, List.setIfInBounds_toArray, List.set_cons_zero, List.set_cons_succ, i64_w, i32_w]
              rfl
            refine one_ (i := 4) (N := some 34) #[true, true, true, true, true, false, false, false, false, false, false, false, false, false, false, false, false, false] rfl rfl (one_of HT_.out (by kernel_rfl)) (by decide) (fun K hK => ?_)
            refine goes_ Try.func37 (by kernel_rfl) rfl #[.agg #[.string a0_0, .int .i64 a0_1, .int .i64 a0_2, .int .i64 a0_3]] (by rfl) rfl rfl (by (try simp only [List.map_toArray, List.map_cons, List.map_nil]); first | done | rfl | (simp only [List.length_drop, List.length_take]; rfl)) ?_
            with_reducible refine (value_Of.calls a0_0 a0_1 a0_2 a0_3 t389 _ A22.out).mono ?_
            rintro e w37 ⟨rfl, hb⟩
            refine ⟨_, rfl, ?_⟩
            have n0_ := Aside0.mk (blk_below (g := gb380) (o := .cells #[.string a0_0, .int .i64 a0_1, .int .i64 a0_2, .int .i64 a0_3] 29 (0, 0)) (by (with_reducible repeat (first | refine blk_drewN ?_ _ | refine blk_drew ?_ | refine blk_alloc ?_ _)); exact BK380.out) hb)
            have n1_ := Aside0.mk (blk_below (g := gb383) (o := .cells #[.string a0_0, .int .i64 (wrap64 (1 - a0_1)), .int .i64 a0_2, .int .i64 a0_3] 29 (0, 0)) (by (with_reducible repeat (first | refine blk_drewN ?_ _ | refine blk_drew ?_ | refine blk_alloc ?_ _)); exact BK383.out) hb)
            have n2_ := Aside0.mk (below_step (by repeat (first | (with_reducible first | exact HB.out | apply below_alloc | apply pw_below_drewN | apply below_drew1 | refine below_set ?_ GE380.out | refine below_set ?_ GE383.out) | exact HB.out)) hb)
            clear BK380
            clear BK383
            clear HB
            have BK380 := n0_
            have BK383 := n1_
            have HB := n2_
            clear n0_ n1_ n2_
            (try clear hb)
            (try clear hb2)
            (try clear hk)
            (try clear hi)
            refine hK.out _ _ ⟨(blk_cell BK380.out 0).trans rfl, (blk_cell BK380.out 1).trans rfl, (blk_cell BK380.out 2).trans rfl, (blk_cell BK380.out 3).trans rfl, (blk_cell BK383.out 0).trans rfl, (blk_cell BK383.out 1).trans rfl, (blk_cell BK383.out 2).trans rfl, (blk_cell BK383.out 3).trans rfl⟩ (fun hHeld => ?_)
            clear hK K
            refine norm_ (a' := ?_) ?_ ?_
            rotate_left
            · show Act.put _ (some 34) _ = _
              simp only [Act.put, List.setIfInBounds_toArray, List.set_cons_zero, List.set_cons_succ, i64_w, i32_w]
              rfl
            refine pure_ (i := 5) (N := some 35) (v := ?_) (a' := ?_) #[true, true, true, true, true, true, false, false, false, false, false, false, false, false, false, false, false, false] rfl rfl (any_of HT_.out (by kernel_rfl)) (fun _ _ _ h => h) (Or.inl ⟨by rfl, ?_⟩) ?_ ?_
            rotate_left
            · intro w'
              go_simp
              with_reducible rfl
            rotate_left
            · simp only [Act.put, List.setIfInBounds_toArray, List.set_cons_zero, List.set_cons_succ, i64_w, i32_w]
              rfl
            refine pure_ (i := 6) (N := some 36) (v := ?_) (a' := ?_) #[true, true, true, true, true, true, true, false, false, false, false, false, false, false, false, false, false, false] rfl rfl (any_of HT_.out (by kernel_rfl)) (fun _ _ _ h => h) (Or.inl ⟨by rfl, ?_⟩) ?_ ?_
            rotate_left
            · intro w'
              go_simp
              with_reducible rfl
            rotate_left
            · simp only [Act.put, List.setIfInBounds_toArray, List.set_cons_zero, List.set_cons_succ, i64_w, i32_w]
              rfl
            refine take_ (i := 7) (N := some 37) (v := ?_) (a' := ?_) #[true, true, true, true, true, true, true, true, false, false, false, false, false, false, false, false, false, false] rfl rfl (take_ofW HT_.out HW_.out (by kernel_rfl)) (fun _ _ _ h => h) (Or.inl ⟨by rfl, ?_⟩) hHeld ?_ ?_
            rotate_left
            · rintro w' ⟨s0, s1, s2, s3, s4, s5, s6, s7⟩
              go_simp
              with_reducible rfl
            rotate_left
            · simp only [Act.put, List.setIfInBounds_toArray, List.set_cons_zero, List.set_cons_succ, i64_w, i32_w]
              rfl
            refine take_ (i := 9) (N := some 39) (v := ?_) (a' := ?_) #[true, true, true, true, true, true, true, true, false, true, false, false, false, false, false, false, false, false] rfl rfl (take_ofW HT_.out HW_.out (by kernel_rfl)) (fun _ _ _ h => h) (Or.inl ⟨by rfl, ?_⟩) hHeld ?_ ?_
            rotate_left
            · rintro w' ⟨s0, s1, s2, s3, s4, s5, s6, s7⟩
              go_simp
              with_reducible rfl
            rotate_left
            · simp only [Act.put, List.setIfInBounds_toArray, List.set_cons_zero, List.set_cons_succ, i64_w, i32_w]
              rfl
            refine one_ (i := 8) (N := some 38) #[true, true, true, true, true, true, true, true, true, true, false, false, false, false, false, false, false, false] rfl rfl (one_of HT_.out (by kernel_rfl)) (by decide) (fun K hK => ?_)
            refine goes_ Try.func37 (by kernel_rfl) rfl #[.agg #[.string a0_0, .int .i64 (wrap64 (1 - a0_1)), .int .i64 a0_2, .int .i64 a0_3]] (by rfl) rfl rfl (by (try simp only [List.map_toArray, List.map_cons, List.map_nil]); first | done | rfl | (simp only [List.length_drop, List.length_take]; rfl)) ?_
            with_reducible refine (value_Of.calls a0_0 (wrap64 (1 - a0_1)) a0_2 a0_3 t390 _ A24.out).mono ?_
            rintro e w38 ⟨rfl, hb⟩
            refine ⟨_, rfl, ?_⟩
            have n0_ := Aside0.mk (blk_below (g := gb380) (o := .cells #[.string a0_0, .int .i64 a0_1, .int .i64 a0_2, .int .i64 a0_3] 29 (0, 0)) (by (with_reducible repeat (first | refine blk_drewN ?_ _ | refine blk_drew ?_ | refine blk_alloc ?_ _)); exact BK380.out) hb)
            have n1_ := Aside0.mk (blk_below (g := gb383) (o := .cells #[.string a0_0, .int .i64 (wrap64 (1 - a0_1)), .int .i64 a0_2, .int .i64 a0_3] 29 (0, 0)) (by (with_reducible repeat (first | refine blk_drewN ?_ _ | refine blk_drew ?_ | refine blk_alloc ?_ _)); exact BK383.out) hb)
            have n2_ := Aside0.mk (below_step (by repeat (first | (with_reducible first | exact HB.out | apply below_alloc | apply pw_below_drewN | apply below_drew1 | refine below_set ?_ GE380.out | refine below_set ?_ GE383.out) | exact HB.out)) hb)
            clear BK380
            clear BK383
            clear HB
            have BK380 := n0_
            have BK383 := n1_
            have HB := n2_
            clear n0_ n1_ n2_
            (try clear hb)
            (try clear hb2)
            (try clear hk)
            (try clear hi)
            refine hK.out _ _ ⟨(blk_cell BK380.out 0).trans rfl, (blk_cell BK380.out 1).trans rfl, (blk_cell BK380.out 2).trans rfl, (blk_cell BK380.out 3).trans rfl, (blk_cell BK383.out 0).trans rfl, (blk_cell BK383.out 1).trans rfl, (blk_cell BK383.out 2).trans rfl, (blk_cell BK383.out 3).trans rfl⟩ (fun hHeld => ?_)
            clear hK K
            refine norm_ (a' := ?_) ?_ ?_
            rotate_left
            · show Act.put _ (some 38) _ = _
              simp only [Act.put, List.setIfInBounds_toArray, List.set_cons_zero, List.set_cons_succ, i64_w, i32_w]
              rfl
            refine one_ (i := 10) (N := some 40) #[true, true, true, true, true, true, true, true, true, true, true, false, false, false, false, false, false, false] rfl rfl (one_of HT_.out (by kernel_rfl)) (by decide) (fun K hK => ?_)
            refine goes_ Try.func37 (by kernel_rfl) rfl #[.agg #[.string a0_0, .int .i64 a0_1, .int .i64 a0_2, .int .i64 a0_3]] (by rfl) rfl rfl (by (try simp only [List.map_toArray, List.map_cons, List.map_nil]); first | done | rfl | (simp only [List.length_drop, List.length_take]; rfl)) ?_
            with_reducible refine (value_Of.calls a0_0 a0_1 a0_2 a0_3 t391 _ A25.out).mono ?_
            rintro e w39 ⟨rfl, hb⟩
            refine ⟨_, rfl, ?_⟩
            have n0_ := Aside0.mk (blk_below (g := gb380) (o := .cells #[.string a0_0, .int .i64 a0_1, .int .i64 a0_2, .int .i64 a0_3] 29 (0, 0)) (by (with_reducible repeat (first | refine blk_drewN ?_ _ | refine blk_drew ?_ | refine blk_alloc ?_ _)); exact BK380.out) hb)
            have n1_ := Aside0.mk (blk_below (g := gb383) (o := .cells #[.string a0_0, .int .i64 (wrap64 (1 - a0_1)), .int .i64 a0_2, .int .i64 a0_3] 29 (0, 0)) (by (with_reducible repeat (first | refine blk_drewN ?_ _ | refine blk_drew ?_ | refine blk_alloc ?_ _)); exact BK383.out) hb)
            have n2_ := Aside0.mk (below_step (by repeat (first | (with_reducible first | exact HB.out | apply below_alloc | apply pw_below_drewN | apply below_drew1 | refine below_set ?_ GE380.out | refine below_set ?_ GE383.out) | exact HB.out)) hb)
            clear BK380
            clear BK383
            clear HB
            have BK380 := n0_
            have BK383 := n1_
            have HB := n2_
            clear n0_ n1_ n2_
            (try clear hb)
            (try clear hb2)
            (try clear hk)
            (try clear hi)
            refine hK.out _ _ ⟨(blk_cell BK380.out 0).trans rfl, (blk_cell BK380.out 1).trans rfl, (blk_cell BK380.out 2).trans rfl, (blk_cell BK380.out 3).trans rfl, (blk_cell BK383.out 0).trans rfl, (blk_cell BK383.out 1).trans rfl, (blk_cell BK383.out 2).trans rfl, (blk_cell BK383.out 3).trans rfl⟩ (fun hHeld => ?_)
            clear hK K
            refine norm_ (a' := ?_) ?_ ?_
            rotate_left
            · show Act.put _ (some 40) _ = _
              simp only [Act.put, List.setIfInBounds_toArray, List.set_cons_zero, List.set_cons_succ, i64_w, i32_w]
              rfl
            refine pure_ (i := 11) (N := some 41) (v := ?_) (a' := ?_) #[true, true, true, true, true, true, true, true, true, true, true, true, false, false, false, false, false, false] rfl rfl (any_of HT_.out (by kernel_rfl)) (fun _ _ _ h => h) (Or.inl ⟨by rfl, ?_⟩) ?_ ?_
            rotate_left
            · intro w'
              go_simp
              with_reducible rfl
            rotate_left
            · simp only [Act.put, List.setIfInBounds_toArray, List.set_cons_zero, List.set_cons_succ, i64_w, i32_w]
              rfl
            refine pure_ (i := 12) (N := some 42) (v := ?_) (a' := ?_) #[true, true, true, true, true, true, true, true, true, true, true, true, true, false, false, false, false, false] rfl rfl (any_of HT_.out (by kernel_rfl)) (fun _ _ _ h => h) (Or.inl ⟨by rfl, ?_⟩) ?_ ?_
            rotate_left
            · intro w'
              go_simp
              with_reducible rfl
            rotate_left
            · simp only [Act.put, List.setIfInBounds_toArray, List.set_cons_zero, List.set_cons_succ, i64_w, i32_w]
              rfl
            refine pure_ (i := 13) (N := some 43) (v := ?_) (a' := ?_) #[true, true, true, true, true, true, true, true, true, true, true, true, true, true, false, false, false, false] rfl rfl (any_of HT_.out (by kernel_rfl)) (fun _ _ _ h => h) (Or.inl ⟨by rfl, ?_⟩) ?_ ?_
            rotate_left
            · intro w'
              go_simp
              with_reducible rfl
            rotate_left
            · simp only [Act.put, List.setIfInBounds_toArray, List.set_cons_zero, List.set_cons_succ, i64_w, i32_w]
              rfl
            refine pure_ (i := 14) (N := some 44) (v := ?_) (a' := ?_) #[true, true, true, true, true, true, true, true, true, true, true, true, true, true, true, false, false, false] rfl rfl (any_of HT_.out (by kernel_rfl)) (fun _ _ _ h => h) (Or.inl ⟨by rfl, ?_⟩) ?_ ?_
            rotate_left
            · intro w'
              go_simp
              with_reducible rfl
            rotate_left
            · simp only [Act.put, List.setIfInBounds_toArray, List.set_cons_zero, List.set_cons_succ, i64_w, i32_w]
              rfl
            refine one_ (i := 15) (N := some 45) #[true, true, true, true, true, true, true, true, true, true, true, true, true, true, true, true, false, false] rfl rfl (one_of HT_.out (by kernel_rfl)) (by decide) (fun K hK => ?_)
            refine goes_ Try.func36 (by kernel_rfl) rfl #[] (by rfl) rfl rfl (by (try simp only [List.map_toArray, List.map_cons, List.map_nil]); first | done | rfl | (simp only [List.length_drop, List.length_take]; rfl)) ?_
            with_reducible refine (riverbanklaw14_live.calls  t392 _ A27.out).mono ?_
            rintro e w40 ⟨rfl, hb⟩
            refine ⟨_, rfl, ?_⟩
            have n0_ := Aside0.mk (blk_below (g := gb380) (o := .cells #[.string a0_0, .int .i64 a0_1, .int .i64 a0_2, .int .i64 a0_3] 29 (0, 0)) (by (with_reducible repeat (first | refine blk_drewN ?_ _ | refine blk_drew ?_ | refine blk_alloc ?_ _)); exact BK380.out) hb)
            have n1_ := Aside0.mk (blk_below (g := gb383) (o := .cells #[.string a0_0, .int .i64 (wrap64 (1 - a0_1)), .int .i64 a0_2, .int .i64 a0_3] 29 (0, 0)) (by (with_reducible repeat (first | refine blk_drewN ?_ _ | refine blk_drew ?_ | refine blk_alloc ?_ _)); exact BK383.out) hb)
            have n2_ := Aside0.mk (below_step (by repeat (first | (with_reducible first | exact HB.out | apply below_alloc | apply pw_below_drewN | apply below_drew1 | refine below_set ?_ GE380.out | refine below_set ?_ GE383.out) | exact HB.out)) hb)
            clear BK380
            clear BK383
            clear HB
            have BK380 := n0_
            have BK383 := n1_
            have HB := n2_
            clear n0_ n1_ n2_
            (try clear hb)
            (try clear hb2)
            (try clear hk)
            (try clear hi)
            refine hK.out _ _ ⟨(blk_cell BK380.out 0).trans rfl, (blk_cell BK380.out 1).trans rfl, (blk_cell BK380.out 2).trans rfl, (blk_cell BK380.out 3).trans rfl, (blk_cell BK383.out 0).trans rfl, (blk_cell BK383.out 1).trans rfl, (blk_cell BK383.out 2).trans rfl, (blk_cell BK383.out 3).trans rfl⟩ (fun hHeld => ?_)
            clear hK K
            refine norm_ (a' := ?_) ?_ ?_
            rotate_left
            · show Act.put _ (some 45) _ = _
              simp only [Act.put, List.setIfInBounds_toArray, List.set_cons_zero, List.set_cons_succ, i64_w, i32_w]
              rfl
            refine pure_ (i := 16) (N := some 46) (v := ?_) (a' := ?_) #[true, true, true, true, true, true, true, true, true, true, true, true, true, true, true, true, true, false] rfl rfl (any_of HT_.out (by kernel_rfl)) (fun _ _ _ h => h) (Or.inl ⟨by rfl, ?_⟩) ?_ ?_
            rotate_left
            · intro w'
              go_simp
              with_reducible rfl
            rotate_left
            · simp only [Act.put, List.setIfInBounds_toArray, List.set_cons_zero, List.set_cons_succ, i64_w, i32_w]
              rfl
            refine pure_ (i := 17) (N := some 2) (v := ?_) (a' := ?_) #[true, true, true, true, true, true, true, true, true, true, true, true, true, true, true, true, true, true] rfl rfl (any_of HT_.out (by kernel_rfl)) (fun _ _ _ h => h) (Or.inl ⟨by rfl, ?_⟩) ?_ ?_
            rotate_left
            · intro w'
              go_simp
              with_reducible rfl
            rotate_left
            · simp only [Act.put, List.setIfInBounds_toArray, List.set_cons_zero, List.set_cons_succ, i64_w, i32_w]
              rfl
            refine done_ (done_of HT_.out (by kernel_rfl)) ?_
            try go_wp2
            go_ret
            exact ⟨by first | rfl | (simp [errW_none, errW_some] <;> rfl) | (simp [*, errW_none, errW_some] <;> rfl), by repeat (first | (with_reducible first | exact HB.out | apply below_alloc | apply pw_below_drewN | apply below_drew1 | refine below_set ?_ GE380.out | refine below_set ?_ GE383.out) | exact HB.out)⟩
          · rw [if_neg c26] at H
            have c26b0 : (t390 == (wrap64 (-t391))) = false := beq_eq_false_iff_ne.mpr c26
            have c26b1 : (t390 != (wrap64 (-t391))) = true := bne_iff_ne.mpr c26
            obtain rfl := Option.some.inj H
            have hcz41_0 : wc.cell? ⟨gb380, 0, none⟩ = some (.string a0_0) := (blk_cell BK380.out 0).trans rfl
            have hcz41_1 : wc.cell? ⟨gb380, 1, none⟩ = some (.int .i64 a0_1) := (blk_cell BK380.out 1).trans rfl
            have hcz41_2 : wc.cell? ⟨gb380, 2, none⟩ = some (.int .i64 a0_2) := (blk_cell BK380.out 2).trans rfl
            have hcz41_3 : wc.cell? ⟨gb380, 3, none⟩ = some (.int .i64 a0_3) := (blk_cell BK380.out 3).trans rfl
            have hfz41_0 := blk_frozen BK380.out 0
            have hfz41_1 := blk_frozen BK380.out 1
            have hfz41_2 := blk_frozen BK380.out 2
            have hfz41_3 := blk_frozen BK380.out 3
            try go_wp2_with (first | ((with_reducible refine gate_dst (N := 3) rfl ?_); refine box_event ?hg (N := 3) ?hd (cs := #[.string (⟨#[]⟩ : ByteArray), .int .i64 0, .int .i64 0, .int .i64 0]) (t := 29) ?hr ?_; (case hd => rfl); (case hg => rfl); (case hr => first | (go_simp; done) | (go_simp; rfl)); intro gb383 hg w42 hbox hb; have n0_ := Aside0.mk (blk_below (g := gb380) (o := .cells #[.string a0_0, .int .i64 a0_1, .int .i64 a0_2, .int .i64 a0_3] 29 (0, 0)) (by (with_reducible repeat (first | refine blk_drewN ?_ _ | refine blk_drew ?_ | refine blk_alloc ?_ _)); exact BK380.out) hb); have n1_ := Aside0.mk (below_step (by repeat (first | (with_reducible first | exact HB.out | apply below_alloc | apply pw_below_drewN | apply below_drew1 | refine below_set ?_ GE380.out) | exact HB.out)) hb); have n2_ := Aside0.mk (hbox); have n3_ := Aside0.mk ((by rw [hg]; exact (below_size (by repeat (first | (with_reducible first | exact HB.out | apply below_alloc | apply pw_below_drewN | apply below_drew1 | refine below_set ?_ GE380.out) | exact HB.out))) : w.heap.size ≤ gb383)); have n4_ := Aside0.mk ((by rw [hg]; exact (below_size (by repeat (first | (with_reducible first | exact HB.out | apply below_alloc | apply pw_below_drewN | apply below_drew1 | refine below_set ?_ GE380.out) | exact HB.out))) : w.heap.size ≤ gb383)); have n5_ := Aside0.mk ((by rw [hg]; exact Nat.ne_of_lt (blk_lt (g := gb380) (o := .cells #[.string a0_0, .int .i64 a0_1, .int .i64 a0_2, .int .i64 a0_3] 29 (0, 0)) (by (with_reducible repeat (first | refine blk_drewN ?_ _ | refine blk_drew ?_ | refine blk_alloc ?_ _)); exact BK380.out)) : gb380 ≠ gb383)); have n6_ := Aside0.mk ((by rw [hg]; exact Nat.ne_of_gt (blk_lt (g := gb380) (o := .cells #[.string a0_0, .int .i64 a0_1, .int .i64 a0_2, .int .i64 a0_3] 29 (0, 0)) (by (with_reducible repeat (first | refine blk_drewN ?_ _ | refine blk_drew ?_ | refine blk_alloc ?_ _)); exact BK380.out)) : gb383 ≠ gb380)); clear BK380; clear HB; have BK380 := n0_; have HB := n1_; have BK383 := n2_; have GW383 := n3_; have GE383 := n4_; have NB380_383 := n5_; have NB383_380 := n6_; clear n0_ n1_ n2_ n3_ n4_ n5_ n6_; clear hb hbox hg; have hnb43 := NB383_380.out; have hnc43 := NB380_383.out; have hcz44_0 : w42.cell? ⟨gb383, 0, none⟩ = some (.string (⟨#[]⟩ : ByteArray)) := (blk_cell BK383.out 0).trans rfl; have hcz44_1 : w42.cell? ⟨gb383, 1, none⟩ = some (.int .i64 0) := (blk_cell BK383.out 1).trans rfl; have hcz44_2 : w42.cell? ⟨gb383, 2, none⟩ = some (.int .i64 0) := (blk_cell BK383.out 2).trans rfl; have hcz44_3 : w42.cell? ⟨gb383, 3, none⟩ = some (.int .i64 0) := (blk_cell BK383.out 3).trans rfl; have hfz44_0 := blk_frozen BK383.out 0; have hfz44_1 := blk_frozen BK383.out 1; have hfz44_2 := blk_frozen BK383.out 2; have hfz44_3 := blk_frozen BK383.out 3; have hcz45_0 : w42.cell? ⟨gb380, 0, none⟩ = some (.string a0_0) := (blk_cell BK380.out 0).trans rfl; have hcz45_1 : w42.cell? ⟨gb380, 1, none⟩ = some (.int .i64 a0_1) := (blk_cell BK380.out 1).trans rfl; have hcz45_2 : w42.cell? ⟨gb380, 2, none⟩ = some (.int .i64 a0_2) := (blk_cell BK380.out 2).trans rfl; have hcz45_3 : w42.cell? ⟨gb380, 3, none⟩ = some (.int .i64 a0_3) := (blk_cell BK380.out 3).trans rfl; have hfz45_0 := blk_frozen BK380.out 0; have hfz45_1 := blk_frozen BK380.out 1; have hfz45_2 := blk_frozen BK380.out 2; have hfz45_3 := blk_frozen BK380.out 3))
            have n0_ : Aside0 ((((((w42.setCell ⟨gb383, 0, none⟩ (.string a0_0)).setCell ⟨gb383, 1, none⟩ (.int .i64 a0_1)).setCell ⟨gb383, 2, none⟩ (.int .i64 a0_2)).setCell ⟨gb383, 3, none⟩ (.int .i64 a0_3)).setCell ⟨gb383, 1, none⟩ (.int .i64 (wrap64 (1 - a0_1)))).heap[gb380]? = some (.cells #[.string a0_0, .int .i64 a0_1, .int .i64 a0_2, .int .i64 a0_3] 29 (0, 0))) := ⟨by (with_reducible repeat (first | refine blk_drewN ?_ _ | refine blk_drew ?_ | refine blk_alloc ?_ _)); refine blk_far ?_ NB380_383.out _; (with_reducible repeat (first | refine blk_drewN ?_ _ | refine blk_drew ?_ | refine blk_alloc ?_ _)); refine blk_far ?_ NB380_383.out _; (with_reducible repeat (first | refine blk_drewN ?_ _ | refine blk_drew ?_ | refine blk_alloc ?_ _)); refine blk_far ?_ NB380_383.out _; (with_reducible repeat (first | refine blk_drewN ?_ _ | refine blk_drew ?_ | refine blk_alloc ?_ _)); refine blk_far ?_ NB380_383.out _; (with_reducible repeat (first | refine blk_drewN ?_ _ | refine blk_drew ?_ | refine blk_alloc ?_ _)); refine blk_far ?_ NB380_383.out _; (with_reducible repeat (first | refine blk_drewN ?_ _ | refine blk_drew ?_ | refine blk_alloc ?_ _)); exact BK380.out⟩
            have n1_ : Aside0 ((((((w42.setCell ⟨gb383, 0, none⟩ (.string a0_0)).setCell ⟨gb383, 1, none⟩ (.int .i64 a0_1)).setCell ⟨gb383, 2, none⟩ (.int .i64 a0_2)).setCell ⟨gb383, 3, none⟩ (.int .i64 a0_3)).setCell ⟨gb383, 1, none⟩ (.int .i64 (wrap64 (1 - a0_1)))).heap[gb383]? = some (.cells #[.string a0_0, .int .i64 (wrap64 (1 - a0_1)), .int .i64 a0_2, .int .i64 a0_3] 29 (0, 0))) := ⟨by (with_reducible repeat (first | refine blk_drewN ?_ _ | refine blk_drew ?_ | refine blk_alloc ?_ _)); refine blk_put (cs := #[.string a0_0, .int .i64 a0_1, .int .i64 a0_2, .int .i64 a0_3]) ?_ 1 _ rfl; (with_reducible repeat (first | refine blk_drewN ?_ _ | refine blk_drew ?_ | refine blk_alloc ?_ _)); refine blk_put (cs := #[.string a0_0, .int .i64 a0_1, .int .i64 a0_2, .int .i64 0]) ?_ 3 _ rfl; (with_reducible repeat (first | refine blk_drewN ?_ _ | refine blk_drew ?_ | refine blk_alloc ?_ _)); refine blk_put (cs := #[.string a0_0, .int .i64 a0_1, .int .i64 0, .int .i64 0]) ?_ 2 _ rfl; (with_reducible repeat (first | refine blk_drewN ?_ _ | refine blk_drew ?_ | refine blk_alloc ?_ _)); refine blk_put (cs := #[.string a0_0, .int .i64 0, .int .i64 0, .int .i64 0]) ?_ 1 _ rfl; (with_reducible repeat (first | refine blk_drewN ?_ _ | refine blk_drew ?_ | refine blk_alloc ?_ _)); refine blk_put (cs := #[.string (⟨#[]⟩ : ByteArray), .int .i64 0, .int .i64 0, .int .i64 0]) ?_ 0 _ rfl; (with_reducible repeat (first | refine blk_drewN ?_ _ | refine blk_drew ?_ | refine blk_alloc ?_ _)); exact BK383.out⟩
            have n2_ : Aside0 (Below w.heap.size w (((((w42.setCell ⟨gb383, 0, none⟩ (.string a0_0)).setCell ⟨gb383, 1, none⟩ (.int .i64 a0_1)).setCell ⟨gb383, 2, none⟩ (.int .i64 a0_2)).setCell ⟨gb383, 3, none⟩ (.int .i64 a0_3)).setCell ⟨gb383, 1, none⟩ (.int .i64 (wrap64 (1 - a0_1))))) := ⟨by repeat (first | (with_reducible first | exact HB.out | apply below_alloc | apply pw_below_drewN | apply below_drew1 | refine below_set ?_ GE380.out | refine below_set ?_ GE383.out) | exact HB.out)⟩
            (try clear BK380)
            (try clear BK383)
            (try clear HB)
            generalize (((((w42.setCell ⟨gb383, 0, none⟩ (.string a0_0)).setCell ⟨gb383, 1, none⟩ (.int .i64 a0_1)).setCell ⟨gb383, 2, none⟩ (.int .i64 a0_2)).setCell ⟨gb383, 3, none⟩ (.int .i64 a0_3)).setCell ⟨gb383, 1, none⟩ (.int .i64 (wrap64 (1 - a0_1)))) = w46 at n0_ n1_ n2_ ⊢
            have BK380 := n0_
            have BK383 := n1_
            have HB := n2_
            clear n0_ n1_ n2_
            have n0_ := Aside0.mk (blk_drew BK380.out)
            have n1_ := Aside0.mk (blk_drew BK383.out)
            have n2_ := Aside0.mk (below_drew1 HB.out)
            clear BK380
            clear BK383
            clear HB
            have BK380 := n0_
            have BK383 := n1_
            have HB := n2_
            clear n0_ n1_ n2_
            refine start_ (n := 18) (S := fun w' => w'.cell? ⟨gb380, 0, none⟩ = some (.string a0_0) ∧ w'.cell? ⟨gb380, 1, none⟩ = some (.int .i64 a0_1) ∧ w'.cell? ⟨gb380, 2, none⟩ = some (.int .i64 a0_2) ∧ w'.cell? ⟨gb380, 3, none⟩ = some (.int .i64 a0_3) ∧ w'.cell? ⟨gb383, 0, none⟩ = some (.string a0_0) ∧ w'.cell? ⟨gb383, 1, none⟩ = some (.int .i64 (wrap64 (1 - a0_1))) ∧ w'.cell? ⟨gb383, 2, none⟩ = some (.int .i64 a0_2) ∧ w'.cell? ⟨gb383, 3, none⟩ = some (.int .i64 a0_3)) (ds := []) #[false, false, false, false, false, false, false, false, false, false, false, false, false, false, false, false, false, false] (by kernel_rfl) rfl rfl ⟨(blk_cell BK380.out 0).trans rfl, (blk_cell BK380.out 1).trans rfl, (blk_cell BK380.out 2).trans rfl, (blk_cell BK380.out 3).trans rfl, (blk_cell BK383.out 0).trans rfl, (blk_cell BK383.out 1).trans rfl, (blk_cell BK383.out 2).trans rfl, (blk_cell BK383.out 3).trans rfl⟩ (fun hHeld => ?_); refine with_tabW riverbanklaw14_ValueTurn.tab5 riverbanklaw14_ValueTurn.bits5 (fun HT_ HW_ => ?_)
            generalize w46.drew = w47 at BK380 BK383 HB hHeld ⊢
            refine take_ (i := 0) (N := some 30) (v := ?_) (a' := ?_) #[true, false, false, false, false, false, false, false, false, false, false, false, false, false, false, false, false, false] rfl rfl (take_ofW HT_.out HW_.out (by kernel_rfl)) (fun _ _ _ h => h) (Or.inl ⟨by rfl, ?_⟩) hHeld ?_ ?_
            rotate_left
            · rintro w' ⟨s0, s1, s2, s3, s4, s5, s6, s7⟩
              go_simp
              with_reducible rfl
            rotate_left
            · simp only [Act.put, List.setIfInBounds_toArray, List.set_cons_zero, List.set_cons_succ, i64_w, i32_w]
              rfl
            refine take_ (i := 3) (N := some 33) (v := ?_) (a' := ?_) #[true, false, false, true, false, false, false, false, false, false, false, false, false, false, false, false, false, false] rfl rfl (take_ofW HT_.out HW_.out (by kernel_rfl)) (fun _ _ _ h => h) (Or.inl ⟨by rfl, ?_⟩) hHeld ?_ ?_
            rotate_left
            · rintro w' ⟨s0, s1, s2, s3, s4, s5, s6, s7⟩
              go_simp
              with_reducible rfl
            rotate_left
            · simp only [Act.put, List.setIfInBounds_toArray, List.set_cons_zero, List.set_cons_succ, i64_w, i32_w]
              rfl
            refine one_ (i := 1) (N := some 31) #[true, true, false, true, false, false, false, false, false, false, false, false, false, false, false, false, false, false] rfl rfl (one_of HT_.out (by kernel_rfl)) (by decide) (fun K hK => ?_)
            refine goes_ Try.func42 (by kernel_rfl) rfl #[.agg #[.string a0_0, .int .i64 a0_1, .int .i64 a0_2, .int .i64 a0_3]] (by rfl) rfl rfl (by (try simp only [List.map_toArray, List.map_cons, List.map_nil]); first | done | rfl | (simp only [List.length_drop, List.length_take]; rfl)) ?_
            with_reducible refine (riverbankref03_Turn.calls kj1 a0_0 a0_1 a0_2 a0_3 t384 t385 t386 t387 _ A20.out).mono ?_
            rintro e w48 ⟨rfl, hb⟩
            refine ⟨_, rfl, ?_⟩
            have n0_ := Aside0.mk (blk_below (g := gb380) (o := .cells #[.string a0_0, .int .i64 a0_1, .int .i64 a0_2, .int .i64 a0_3] 29 (0, 0)) (by (with_reducible repeat (first | refine blk_drewN ?_ _ | refine blk_drew ?_ | refine blk_alloc ?_ _)); exact BK380.out) hb)
            have n1_ := Aside0.mk (blk_below (g := gb383) (o := .cells #[.string a0_0, .int .i64 (wrap64 (1 - a0_1)), .int .i64 a0_2, .int .i64 a0_3] 29 (0, 0)) (by (with_reducible repeat (first | refine blk_drewN ?_ _ | refine blk_drew ?_ | refine blk_alloc ?_ _)); exact BK383.out) hb)
            have n2_ := Aside0.mk (below_step (by repeat (first | (with_reducible first | exact HB.out | apply below_alloc | apply pw_below_drewN | apply below_drew1 | refine below_set ?_ GE380.out | refine below_set ?_ GE383.out) | exact HB.out)) hb)
            clear BK380
            clear BK383
            clear HB
            have BK380 := n0_
            have BK383 := n1_
            have HB := n2_
            clear n0_ n1_ n2_
            (try clear hb)
            (try clear hb2)
            (try clear hk)
            (try clear hi)
            refine hK.out _ _ ⟨(blk_cell BK380.out 0).trans rfl, (blk_cell BK380.out 1).trans rfl, (blk_cell BK380.out 2).trans rfl, (blk_cell BK380.out 3).trans rfl, (blk_cell BK383.out 0).trans rfl, (blk_cell BK383.out 1).trans rfl, (blk_cell BK383.out 2).trans rfl, (blk_cell BK383.out 3).trans rfl⟩ (fun hHeld => ?_)
            clear hK K
            refine norm_ (a' := ?_) ?_ ?_
            rotate_left
            · show Act.put _ (some 31) _ = _
              simp only [Act.put, List.setIfInBounds_toArray, List.set_cons_zero, List.set_cons_succ, i64_w, i32_w]
              rfl
            refine one_ (i := 2) (N := some 32) #[true, true, true, true, false, false, false, false, false, false, false, false, false, false, false, false, false, false] rfl rfl (one_of HT_.out (by kernel_rfl)) (by decide) (fun K hK => ?_)
            refine goes_ Try.func37 (by kernel_rfl) rfl #[.agg #[.string t384, .int .i64 t385, .int .i64 t386, .int .i64 t387]] (by rfl) rfl rfl (by (try simp only [List.map_toArray, List.map_cons, List.map_nil]); first | done | rfl | (simp only [List.length_drop, List.length_take]; rfl)) ?_
            with_reducible refine (value_Of.calls t384 t385 t386 t387 t388 _ A21.out).mono ?_
            rintro e w49 ⟨rfl, hb⟩
            refine ⟨_, rfl, ?_⟩
            have n0_ := Aside0.mk (blk_below (g := gb380) (o := .cells #[.string a0_0, .int .i64 a0_1, .int .i64 a0_2, .int .i64 a0_3] 29 (0, 0)) (by (with_reducible repeat (first | refine blk_drewN ?_ _ | refine blk_drew ?_ | refine blk_alloc ?_ _)); exact BK380.out) hb)
            have n1_ := Aside0.mk (blk_below (g := gb383) (o := .cells #[.string a0_0, .int .i64 (wrap64 (1 - a0_1)), .int .i64 a0_2, .int .i64 a0_3] 29 (0, 0)) (by (with_reducible repeat (first | refine blk_drewN ?_ _ | refine blk_drew ?_ | refine blk_alloc ?_ _)); exact BK383.out) hb)
            have n2_ := Aside0.mk (below_step (by repeat (first | (with_reducible first | exact HB.out | apply below_alloc | apply pw_below_drewN | apply below_drew1 | refine below_set ?_ GE380.out | refine below_set ?_ GE383.out) | exact HB.out)) hb)
            clear BK380
            clear BK383
            clear HB
            have BK380 := n0_
            have BK383 := n1_
            have HB := n2_
            clear n0_ n1_ n2_
            (try clear hb)
            (try clear hb2)
            (try clear hk)
            (try clear hi)
            refine hK.out _ _ ⟨(blk_cell BK380.out 0).trans rfl, (blk_cell BK380.out 1).trans rfl, (blk_cell BK380.out 2).trans rfl, (blk_cell BK380.out 3).trans rfl, (blk_cell BK383.out 0).trans rfl, (blk_cell BK383.out 1).trans rfl, (blk_cell BK383.out 2).trans rfl, (blk_cell BK383.out 3).trans rfl⟩ (fun hHeld => ?_)
            clear hK K
            refine norm_ (a' := ?_) ?_ ?_
            rotate_left
            · show Act.put _ (some 32) _ = _
              simp only [Act.put, List.setIfInBounds_toArray, List.set_cons_zero, List.set_cons_succ, i64_w, i32_w]
              rfl
            refine one_ (i := 4) (N := some 34) #[true, true, true, true, true, false, false, false, false, false, false, false, false, false, false, false, false, false] rfl rfl (one_of HT_.out (by kernel_rfl)) (by decide) (fun K hK => ?_)
            refine goes_ Try.func37 (by kernel_rfl) rfl #[.agg #[.string a0_0, .int .i64 a0_1, .int .i64 a0_2, .int .i64 a0_3]] (by rfl) rfl rfl (by (try simp only [List.map_toArray, List.map_cons, List.map_nil]); first | done | rfl | (simp only [List.length_drop, List.length_take]; rfl)) ?_
            with_reducible refine (value_Of.calls a0_0 a0_1 a0_2 a0_3 t389 _ A22.out).mono ?_
            rintro e w50 ⟨rfl, hb⟩
            refine ⟨_, rfl, ?_⟩
            have n0_ := Aside0.mk (blk_below (g := gb380) (o := .cells #[.string a0_0, .int .i64 a0_1, .int .i64 a0_2, .int .i64 a0_3] 29 (0, 0)) (by (with_reducible repeat (first | refine blk_drewN ?_ _ | refine blk_drew ?_ | refine blk_alloc ?_ _)); exact BK380.out) hb)
            have n1_ := Aside0.mk (blk_below (g := gb383) (o := .cells #[.string a0_0, .int .i64 (wrap64 (1 - a0_1)), .int .i64 a0_2, .int .i64 a0_3] 29 (0, 0)) (by (with_reducible repeat (first | refine blk_drewN ?_ _ | refine blk_drew ?_ | refine blk_alloc ?_ _)); exact BK383.out) hb)
            have n2_ := Aside0.mk (below_step (by repeat (first | (with_reducible first | exact HB.out | apply below_alloc | apply pw_below_drewN | apply below_drew1 | refine below_set ?_ GE380.out | refine below_set ?_ GE383.out) | exact HB.out)) hb)
            clear BK380
            clear BK383
            clear HB
            have BK380 := n0_
            have BK383 := n1_
            have HB := n2_
            clear n0_ n1_ n2_
            (try clear hb)
            (try clear hb2)
            (try clear hk)
            (try clear hi)
            refine hK.out _ _ ⟨(blk_cell BK380.out 0).trans rfl, (blk_cell BK380.out 1).trans rfl, (blk_cell BK380.out 2).trans rfl, (blk_cell BK380.out 3).trans rfl, (blk_cell BK383.out 0).trans rfl, (blk_cell BK383.out 1).trans rfl, (blk_cell BK383.out 2).trans rfl, (blk_cell BK383.out 3).trans rfl⟩ (fun hHeld => ?_)
            clear hK K
            refine norm_ (a' := ?_) ?_ ?_
            rotate_left
            · show Act.put _ (some 34) _ = _
              simp only [Act.put, List.setIfInBounds_toArray, List.set_cons_zero, List.set_cons_succ, i64_w, i32_w]
              rfl
            refine pure_ (i := 5) (N := some 35) (v := ?_) (a' := ?_) #[true, true, true, true, true, true, false, false, false, false, false, false, false, false, false, false, false, false] rfl rfl (any_of HT_.out (by kernel_rfl)) (fun _ _ _ h => h) (Or.inl ⟨by rfl, ?_⟩) ?_ ?_
            rotate_left
            · intro w'
              go_simp
              with_reducible rfl
            rotate_left
            · simp only [Act.put, List.setIfInBounds_toArray, List.set_cons_zero, List.set_cons_succ, i64_w, i32_w]
              rfl
            refine pure_ (i := 6) (N := some 36) (v := ?_) (a' := ?_) #[true, true, true, true, true, true, true, false, false, false, false, false, false, false, false, false, false, false] rfl rfl (any_of HT_.out (by kernel_rfl)) (fun _ _ _ h => h) (Or.inl ⟨by rfl, ?_⟩) ?_ ?_
            rotate_left
            · intro w'
              go_simp
              with_reducible rfl
            rotate_left
            · simp only [Act.put, List.setIfInBounds_toArray, List.set_cons_zero, List.set_cons_succ, i64_w, i32_w]
              rfl
            refine take_ (i := 7) (N := some 37) (v := ?_) (a' := ?_) #[true, true, true, true, true, true, true, true, false, false, false, false, false, false, false, false, false, false] rfl rfl (take_ofW HT_.out HW_.out (by kernel_rfl)) (fun _ _ _ h => h) (Or.inl ⟨by rfl, ?_⟩) hHeld ?_ ?_
            rotate_left
            · rintro w' ⟨s0, s1, s2, s3, s4, s5, s6, s7⟩
              go_simp
              with_reducible rfl
            rotate_left
            · simp only [Act.put, List.setIfInBounds_toArray, List.set_cons_zero, List.set_cons_succ, i64_w, i32_w]
              rfl
            refine take_ (i := 9) (N := some 39) (v := ?_) (a' := ?_) #[true, true, true, true, true, true, true, true, false, true, false, false, false, false, false, false, false, false] rfl rfl (take_ofW HT_.out HW_.out (by kernel_rfl)) (fun _ _ _ h => h) (Or.inl ⟨by rfl, ?_⟩) hHeld ?_ ?_
            rotate_left
            · rintro w' ⟨s0, s1, s2, s3, s4, s5, s6, s7⟩
              go_simp
              with_reducible rfl
            rotate_left
            · simp only [Act.put, List.setIfInBounds_toArray, List.set_cons_zero, List.set_cons_succ, i64_w, i32_w]
              rfl
            refine one_ (i := 8) (N := some 38) #[true, true, true, true, true, true, true, true, true, true, false, false, false, false, false, false, false, false] rfl rfl (one_of HT_.out (by kernel_rfl)) (by decide) (fun K hK => ?_)
            refine goes_ Try.func37 (by kernel_rfl) rfl #[.agg #[.string a0_0, .int .i64 (wrap64 (1 - a0_1)), .int .i64 a0_2, .int .i64 a0_3]] (by rfl) rfl rfl (by (try simp only [List.map_toArray, List.map_cons, List.map_nil]); first | done | rfl | (simp only [List.length_drop, List.length_take]; rfl)) ?_
            with_reducible refine (value_Of.calls a0_0 (wrap64 (1 - a0_1)) a0_2 a0_3 t390 _ A24.out).mono ?_
            rintro e w51 ⟨rfl, hb⟩
            refine ⟨_, rfl, ?_⟩
            have n0_ := Aside0.mk (blk_below (g := gb380) (o := .cells #[.string a0_0, .int .i64 a0_1, .int .i64 a0_2, .int .i64 a0_3] 29 (0, 0)) (by (with_reducible repeat (first | refine blk_drewN ?_ _ | refine blk_drew ?_ | refine blk_alloc ?_ _)); exact BK380.out) hb)
            have n1_ := Aside0.mk (blk_below (g := gb383) (o := .cells #[.string a0_0, .int .i64 (wrap64 (1 - a0_1)), .int .i64 a0_2, .int .i64 a0_3] 29 (0, 0)) (by (with_reducible repeat (first | refine blk_drewN ?_ _ | refine blk_drew ?_ | refine blk_alloc ?_ _)); exact BK383.out) hb)
            have n2_ := Aside0.mk (below_step (by repeat (first | (with_reducible first | exact HB.out | apply below_alloc | apply pw_below_drewN | apply below_drew1 | refine below_set ?_ GE380.out | refine below_set ?_ GE383.out) | exact HB.out)) hb)
            clear BK380
            clear BK383
            clear HB
            have BK380 := n0_
            have BK383 := n1_
            have HB := n2_
            clear n0_ n1_ n2_
            (try clear hb)
            (try clear hb2)
            (try clear hk)
            (try clear hi)
            refine hK.out _ _ ⟨(blk_cell BK380.out 0).trans rfl, (blk_cell BK380.out 1).trans rfl, (blk_cell BK380.out 2).trans rfl, (blk_cell BK380.out 3).trans rfl, (blk_cell BK383.out 0).trans rfl, (blk_cell BK383.out 1).trans rfl, (blk_cell BK383.out 2).trans rfl, (blk_cell BK383.out 3).trans rfl⟩ (fun hHeld => ?_)
            clear hK K
            refine norm_ (a' := ?_) ?_ ?_
            rotate_left
            · show Act.put _ (some 38) _ = _
              simp only [Act.put, List.setIfInBounds_toArray, List.set_cons_zero, List.set_cons_succ, i64_w, i32_w]
              rfl
            refine one_ (i := 10) (N := some 40) #[true, true, true, true, true, true, true, true, true, true, true, false, false, false, false, false, false, false] rfl rfl (one_of HT_.out (by kernel_rfl)) (by decide) (fun K hK => ?_)
            refine goes_ Try.func37 (by kernel_rfl) rfl #[.agg #[.string a0_0, .int .i64 a0_1, .int .i64 a0_2, .int .i64 a0_3]] (by rfl) rfl rfl (by (try simp only [List.map_toArray, List.map_cons, List.map_nil]); first | done | rfl | (simp only [List.length_drop, List.length_take]; rfl)) ?_
            with_reducible refine (value_Of.calls a0_0 a0_1 a0_2 a0_3 t391 _ A25.out).mono ?_
            rintro e w52 ⟨rfl, hb⟩
            refine ⟨_, rfl, ?_⟩
            have n0_ := Aside0.mk (blk_below (g := gb380) (o := .cells #[.string a0_0, .int .i64 a0_1, .int .i64 a0_2, .int .i64 a0_3] 29 (0, 0)) (by (with_reducible repeat (first | refine blk_drewN ?_ _ | refine blk_drew ?_ | refine blk_alloc ?_ _)); exact BK380.out) hb)
            have n1_ := Aside0.mk (blk_below (g := gb383) (o := .cells #[.string a0_0, .int .i64 (wrap64 (1 - a0_1)), .int .i64 a0_2, .int .i64 a0_3] 29 (0, 0)) (by (with_reducible repeat (first | refine blk_drewN ?_ _ | refine blk_drew ?_ | refine blk_alloc ?_ _)); exact BK383.out) hb)
            have n2_ := Aside0.mk (below_step (by repeat (first | (with_reducible first | exact HB.out | apply below_alloc | apply pw_below_drewN | apply below_drew1 | refine below_set ?_ GE380.out | refine below_set ?_ GE383.out) | exact HB.out)) hb)
            clear BK380
            clear BK383
            clear HB
            have BK380 := n0_
            have BK383 := n1_
            have HB := n2_
            clear n0_ n1_ n2_
            (try clear hb)
            (try clear hb2)
            (try clear hk)
            (try clear hi)
            refine hK.out _ _ ⟨(blk_cell BK380.out 0).trans rfl, (blk_cell BK380.out 1).trans rfl, (blk_cell BK380.out 2).trans rfl, (blk_cell BK380.out 3).trans rfl, (blk_cell BK383.out 0).trans rfl, (blk_cell BK383.out 1).trans rfl, (blk_cell BK383.out 2).trans rfl, (blk_cell BK383.out 3).trans rfl⟩ (fun hHeld => ?_)
            clear hK K
            refine norm_ (a' := ?_) ?_ ?_
            rotate_left
            · show Act.put _ (some 40) _ = _
              simp only [Act.put, List.setIfInBounds_toArray, List.set_cons_zero, List.set_cons_succ, i64_w, i32_w]
              rfl
            refine pure_ (i := 11) (N := some 41) (v := ?_) (a' := ?_) #[true, true, true, true, true, true, true, true, true, true, true, true, false, false, false, false, false, false] rfl rfl (any_of HT_.out (by kernel_rfl)) (fun _ _ _ h => h) (Or.inl ⟨by rfl, ?_⟩) ?_ ?_
            rotate_left
            · intro w'
              go_simp
              with_reducible rfl
            rotate_left
            · simp only [Act.put, List.setIfInBounds_toArray, List.set_cons_zero, List.set_cons_succ, i64_w, i32_w]
              rfl
            refine pure_ (i := 12) (N := some 42) (v := ?_) (a' := ?_) #[true, true, true, true, true, true, true, true, true, true, true, true, true, false, false, false, false, false] rfl rfl (any_of HT_.out (by kernel_rfl)) (fun _ _ _ h => h) (Or.inl ⟨by rfl, ?_⟩) ?_ ?_
            rotate_left
            · intro w'
              go_simp
              with_reducible rfl
            rotate_left
            · simp only [Act.put, List.setIfInBounds_toArray, List.set_cons_zero, List.set_cons_succ, i64_w, i32_w]
              rfl
            refine pure_ (i := 13) (N := some 43) (v := ?_) (a' := ?_) #[true, true, true, true, true, true, true, true, true, true, true, true, true, true, false, false, false, false] rfl rfl (any_of HT_.out (by kernel_rfl)) (fun _ _ _ h => h) (Or.inl ⟨by rfl, ?_⟩) ?_ ?_
            rotate_left
            · intro w'
              go_simp
              with_reducible rfl
            rotate_left
            · simp only [Act.put, List.setIfInBounds_toArray, List.set_cons_zero, List.set_cons_succ, i64_w, i32_w]
              rfl
            refine pure_ (i := 14) (N := some 44) (v := ?_) (a' := ?_) #[true, true, true, true, true, true, true, true, true, true, true, true, true, true, true, false, false, false] rfl rfl (any_of HT_.out (by kernel_rfl)) (fun _ _ _ h => h) (Or.inl ⟨by rfl, ?_⟩) ?_ ?_
            rotate_left
            · intro w'
              go_simp
              with_reducible rfl
            rotate_left
            · simp only [Act.put, List.setIfInBounds_toArray, List.set_cons_zero, List.set_cons_succ, i64_w, i32_w]
              rfl
            refine pure_ (i := 15) (N := some 45) (v := undef) (a' := ?_) #[true, true, true, true, true, true, true, true, true, true, true, true, true, true, true, true, false, false] rfl rfl (any_of HT_.out (by kernel_rfl)) (fun _ _ _ h => h) (Or.inr ⟨by rfl, rfl⟩) ?_ ?_
            rotate_left
            · simp only [Act.put, List.setIfInBounds_toArray, List.set_cons_zero, List.set_cons_succ, i64_w, i32_w]
              rfl
            refine pure_ (i := 16) (N := some 46) (v := ?_) (a' := ?_) #[true, true, true, true, true, true, true, true, true, true, true, true, true, true, true, true, true, false] rfl rfl (any_of HT_.out (by kernel_rfl)) (fun _ _ _ h => h) (Or.inl ⟨by rfl, ?_⟩) ?_ ?_
            rotate_left
            · intro w'
              go_simp
              with_reducible rfl
            rotate_left
            · simp only [Act.put, List.setIfInBounds_toArray, List.set_cons_zero, List.set_cons_succ, i64_w, i32_w]
              rfl
            refine pure_ (i := 17) (N := some 2) (v := ?_) (a' := ?_) #[true, true, true, true, true, true, true, true, true, true, true, true, true, true, true, true, true, true] rfl rfl (any_of HT_.out (by kernel_rfl)) (fun _ _ _ h => h) (Or.inl ⟨by rfl, ?_⟩) ?_ ?_
            rotate_left
            · intro w'
              go_simp
              with_reducible rfl
            rotate_left
            · simp only [Act.put, List.setIfInBounds_toArray, List.set_cons_zero, List.set_cons_succ, i64_w, i32_w]
              rfl
            refine done_ (done_of HT_.out (by kernel_rfl)) ?_
            try go_wp2
            go_ret
            exact ⟨by first | rfl | (simp [errW_none, errW_some] <;> rfl) | (simp [*, errW_none, errW_some] <;> rfl), by repeat (first | (with_reducible first | exact HB.out | apply below_alloc | apply pw_below_drewN | apply below_drew1 | refine below_set ?_ GE380.out | refine below_set ?_ GE383.out) | exact HB.out)⟩
        · rw [if_neg c23] at H
          have c23b0 : (t388 == t389) = false := beq_eq_false_iff_ne.mpr c23
          have c23b1 : (t388 != t389) = true := bne_iff_ne.mpr c23
          obtain rfl := Option.some.inj H
          have hcz53_0 : wc.cell? ⟨gb380, 0, none⟩ = some (.string a0_0) := (blk_cell BK380.out 0).trans rfl
          have hcz53_1 : wc.cell? ⟨gb380, 1, none⟩ = some (.int .i64 a0_1) := (blk_cell BK380.out 1).trans rfl
          have hcz53_2 : wc.cell? ⟨gb380, 2, none⟩ = some (.int .i64 a0_2) := (blk_cell BK380.out 2).trans rfl
          have hcz53_3 : wc.cell? ⟨gb380, 3, none⟩ = some (.int .i64 a0_3) := (blk_cell BK380.out 3).trans rfl
          have hfz53_0 := blk_frozen BK380.out 0
          have hfz53_1 := blk_frozen BK380.out 1
          have hfz53_2 := blk_frozen BK380.out 2
          have hfz53_3 := blk_frozen BK380.out 3
          try go_wp2_with (first | ((with_reducible refine gate_dst (N := 3) rfl ?_); refine box_event ?hg (N := 3) ?hd (cs := #[.string (⟨#[]⟩ : ByteArray), .int .i64 0, .int .i64 0, .int .i64 0]) (t := 29) ?hr ?_; (case hd => rfl); (case hg => rfl); (case hr => first | (go_simp; done) | (go_simp; rfl)); intro gb383 hg w54 hbox hb; have n0_ := Aside0.mk (blk_below (g := gb380) (o := .cells #[.string a0_0, .int .i64 a0_1, .int .i64 a0_2, .int .i64 a0_3] 29 (0, 0)) (by (with_reducible repeat (first | refine blk_drewN ?_ _ | refine blk_drew ?_ | refine blk_alloc ?_ _)); exact BK380.out) hb); have n1_ := Aside0.mk (below_step (by repeat (first | (with_reducible first | exact HB.out | apply below_alloc | apply pw_below_drewN | apply below_drew1 | refine below_set ?_ GE380.out) | exact HB.out)) hb); have n2_ := Aside0.mk (hbox); have n3_ := Aside0.mk ((by rw [hg]; exact (below_size (by repeat (first | (with_reducible first | exact HB.out | apply below_alloc | apply pw_below_drewN | apply below_drew1 | refine below_set ?_ GE380.out) | exact HB.out))) : w.heap.size ≤ gb383)); have n4_ := Aside0.mk ((by rw [hg]; exact (below_size (by repeat (first | (with_reducible first | exact HB.out | apply below_alloc | apply pw_below_drewN | apply below_drew1 | refine below_set ?_ GE380.out) | exact HB.out))) : w.heap.size ≤ gb383)); have n5_ := Aside0.mk ((by rw [hg]; exact Nat.ne_of_lt (blk_lt (g := gb380) (o := .cells #[.string a0_0, .int .i64 a0_1, .int .i64 a0_2, .int .i64 a0_3] 29 (0, 0)) (by (with_reducible repeat (first | refine blk_drewN ?_ _ | refine blk_drew ?_ | refine blk_alloc ?_ _)); exact BK380.out)) : gb380 ≠ gb383)); have n6_ := Aside0.mk ((by rw [hg]; exact Nat.ne_of_gt (blk_lt (g := gb380) (o := .cells #[.string a0_0, .int .i64 a0_1, .int .i64 a0_2, .int .i64 a0_3] 29 (0, 0)) (by (with_reducible repeat (first | refine blk_drewN ?_ _ | refine blk_drew ?_ | refine blk_alloc ?_ _)); exact BK380.out)) : gb383 ≠ gb380)); clear BK380; clear HB; have BK380 := n0_; have HB := n1_; have BK383 := n2_; have GW383 := n3_; have GE383 := n4_; have NB380_383 := n5_; have NB383_380 := n6_; clear n0_ n1_ n2_ n3_ n4_ n5_ n6_; clear hb hbox hg; have hnb55 := NB383_380.out; have hnc55 := NB380_383.out; have hcz56_0 : w54.cell? ⟨gb383, 0, none⟩ = some (.string (⟨#[]⟩ : ByteArray)) := (blk_cell BK383.out 0).trans rfl; have hcz56_1 : w54.cell? ⟨gb383, 1, none⟩ = some (.int .i64 0) := (blk_cell BK383.out 1).trans rfl; have hcz56_2 : w54.cell? ⟨gb383, 2, none⟩ = some (.int .i64 0) := (blk_cell BK383.out 2).trans rfl; have hcz56_3 : w54.cell? ⟨gb383, 3, none⟩ = some (.int .i64 0) := (blk_cell BK383.out 3).trans rfl; have hfz56_0 := blk_frozen BK383.out 0; have hfz56_1 := blk_frozen BK383.out 1; have hfz56_2 := blk_frozen BK383.out 2; have hfz56_3 := blk_frozen BK383.out 3; have hcz57_0 : w54.cell? ⟨gb380, 0, none⟩ = some (.string a0_0) := (blk_cell BK380.out 0).trans rfl; have hcz57_1 : w54.cell? ⟨gb380, 1, none⟩ = some (.int .i64 a0_1) := (blk_cell BK380.out 1).trans rfl; have hcz57_2 : w54.cell? ⟨gb380, 2, none⟩ = some (.int .i64 a0_2) := (blk_cell BK380.out 2).trans rfl; have hcz57_3 : w54.cell? ⟨gb380, 3, none⟩ = some (.int .i64 a0_3) := (blk_cell BK380.out 3).trans rfl; have hfz57_0 := blk_frozen BK380.out 0; have hfz57_1 := blk_frozen BK380.out 1; have hfz57_2 := blk_frozen BK380.out 2; have hfz57_3 := blk_frozen BK380.out 3))
          have n0_ : Aside0 ((((((w54.setCell ⟨gb383, 0, none⟩ (.string a0_0)).setCell ⟨gb383, 1, none⟩ (.int .i64 a0_1)).setCell ⟨gb383, 2, none⟩ (.int .i64 a0_2)).setCell ⟨gb383, 3, none⟩ (.int .i64 a0_3)).setCell ⟨gb383, 1, none⟩ (.int .i64 (wrap64 (1 - a0_1)))).heap[gb380]? = some (.cells #[.string a0_0, .int .i64 a0_1, .int .i64 a0_2, .int .i64 a0_3] 29 (0, 0))) := ⟨by (with_reducible repeat (first | refine blk_drewN ?_ _ | refine blk_drew ?_ | refine blk_alloc ?_ _)); refine blk_far ?_ NB380_383.out _; (with_reducible repeat (first | refine blk_drewN ?_ _ | refine blk_drew ?_ | refine blk_alloc ?_ _)); refine blk_far ?_ NB380_383.out _; (with_reducible repeat (first | refine blk_drewN ?_ _ | refine blk_drew ?_ | refine blk_alloc ?_ _)); refine blk_far ?_ NB380_383.out _; (with_reducible repeat (first | refine blk_drewN ?_ _ | refine blk_drew ?_ | refine blk_alloc ?_ _)); refine blk_far ?_ NB380_383.out _; (with_reducible repeat (first | refine blk_drewN ?_ _ | refine blk_drew ?_ | refine blk_alloc ?_ _)); refine blk_far ?_ NB380_383.out _; (with_reducible repeat (first | refine blk_drewN ?_ _ | refine blk_drew ?_ | refine blk_alloc ?_ _)); exact BK380.out⟩
          have n1_ : Aside0 ((((((w54.setCell ⟨gb383, 0, none⟩ (.string a0_0)).setCell ⟨gb383, 1, none⟩ (.int .i64 a0_1)).setCell ⟨gb383, 2, none⟩ (.int .i64 a0_2)).setCell ⟨gb383, 3, none⟩ (.int .i64 a0_3)).setCell ⟨gb383, 1, none⟩ (.int .i64 (wrap64 (1 - a0_1)))).heap[gb383]? = some (.cells #[.string a0_0, .int .i64 (wrap64 (1 - a0_1)), .int .i64 a0_2, .int .i64 a0_3] 29 (0, 0))) := ⟨by (with_reducible repeat (first | refine blk_drewN ?_ _ | refine blk_drew ?_ | refine blk_alloc ?_ _)); refine blk_put (cs := #[.string a0_0, .int .i64 a0_1, .int .i64 a0_2, .int .i64 a0_3]) ?_ 1 _ rfl; (with_reducible repeat (first | refine blk_drewN ?_ _ | refine blk_drew ?_ | refine blk_alloc ?_ _)); refine blk_put (cs := #[.string a0_0, .int .i64 a0_1, .int .i64 a0_2, .int .i64 0]) ?_ 3 _ rfl; (with_reducible repeat (first | refine blk_drewN ?_ _ | refine blk_drew ?_ | refine blk_alloc ?_ _)); refine blk_put (cs := #[.string a0_0, .int .i64 a0_1, .int .i64 0, .int .i64 0]) ?_ 2 _ rfl; (with_reducible repeat (first | refine blk_drewN ?_ _ | refine blk_drew ?_ | refine blk_alloc ?_ _)); refine blk_put (cs := #[.string a0_0, .int .i64 0, .int .i64 0, .int .i64 0]) ?_ 1 _ rfl; (with_reducible repeat (first | refine blk_drewN ?_ _ | refine blk_drew ?_ | refine blk_alloc ?_ _)); refine blk_put (cs := #[.string (⟨#[]⟩ : ByteArray), .int .i64 0, .int .i64 0, .int .i64 0]) ?_ 0 _ rfl; (with_reducible repeat (first | refine blk_drewN ?_ _ | refine blk_drew ?_ | refine blk_alloc ?_ _)); exact BK383.out⟩
          have n2_ : Aside0 (Below w.heap.size w (((((w54.setCell ⟨gb383, 0, none⟩ (.string a0_0)).setCell ⟨gb383, 1, none⟩ (.int .i64 a0_1)).setCell ⟨gb383, 2, none⟩ (.int .i64 a0_2)).setCell ⟨gb383, 3, none⟩ (.int .i64 a0_3)).setCell ⟨gb383, 1, none⟩ (.int .i64 (wrap64 (1 - a0_1))))) := ⟨by repeat (first | (with_reducible first | exact HB.out | apply below_alloc | apply pw_below_drewN | apply below_drew1 | refine below_set ?_ GE380.out | refine below_set ?_ GE383.out) | exact HB.out)⟩
          (try clear BK380)
          (try clear BK383)
          (try clear HB)
          generalize (((((w54.setCell ⟨gb383, 0, none⟩ (.string a0_0)).setCell ⟨gb383, 1, none⟩ (.int .i64 a0_1)).setCell ⟨gb383, 2, none⟩ (.int .i64 a0_2)).setCell ⟨gb383, 3, none⟩ (.int .i64 a0_3)).setCell ⟨gb383, 1, none⟩ (.int .i64 (wrap64 (1 - a0_1)))) = w58 at n0_ n1_ n2_ ⊢
          have BK380 := n0_
          have BK383 := n1_
          have HB := n2_
          clear n0_ n1_ n2_
          have n0_ := Aside0.mk (blk_drew BK380.out)
          have n1_ := Aside0.mk (blk_drew BK383.out)
          have n2_ := Aside0.mk (below_drew1 HB.out)
          clear BK380
          clear BK383
          clear HB
          have BK380 := n0_
          have BK383 := n1_
          have HB := n2_
          clear n0_ n1_ n2_
          refine start_ (n := 18) (S := fun w' => w'.cell? ⟨gb380, 0, none⟩ = some (.string a0_0) ∧ w'.cell? ⟨gb380, 1, none⟩ = some (.int .i64 a0_1) ∧ w'.cell? ⟨gb380, 2, none⟩ = some (.int .i64 a0_2) ∧ w'.cell? ⟨gb380, 3, none⟩ = some (.int .i64 a0_3)) (ds := []) #[false, false, false, false, false, false, false, false, false, false, false, false, false, false, false, false, false, false] (by kernel_rfl) rfl rfl ⟨(blk_cell BK380.out 0).trans rfl, (blk_cell BK380.out 1).trans rfl, (blk_cell BK380.out 2).trans rfl, (blk_cell BK380.out 3).trans rfl⟩ (fun hHeld => ?_); refine with_tabW riverbanklaw14_ValueTurn.tab5 riverbanklaw14_ValueTurn.bits5 (fun HT_ HW_ => ?_)
          generalize w58.drew = w59 at BK380 BK383 HB hHeld ⊢
          refine take_ (i := 0) (N := some 30) (v := ?_) (a' := ?_) #[true, false, false, false, false, false, false, false, false, false, false, false, false, false, false, false, false, false] rfl rfl (take_ofW HT_.out HW_.out (by kernel_rfl)) (fun _ _ _ h => h) (Or.inl ⟨by rfl, ?_⟩) hHeld ?_ ?_
          rotate_left
          · rintro w' ⟨s0, s1, s2, s3⟩
            go_simp
            with_reducible rfl
          rotate_left
          · simp only [Act.put, List.setIfInBounds_toArray, List.set_cons_zero, List.set_cons_succ, i64_w, i32_w]
            rfl
          refine take_ (i := 3) (N := some 33) (v := ?_) (a' := ?_) #[true, false, false, true, false, false, false, false, false, false, false, false, false, false, false, false, false, false] rfl rfl (take_ofW HT_.out HW_.out (by kernel_rfl)) (fun _ _ _ h => h) (Or.inl ⟨by rfl, ?_⟩) hHeld ?_ ?_
          rotate_left
          · rintro w' ⟨s0, s1, s2, s3⟩
            go_simp
            with_reducible rfl
          rotate_left
          · simp only [Act.put, List.setIfInBounds_toArray, List.set_cons_zero, List.set_cons_succ, i64_w, i32_w]
            rfl
          refine one_ (i := 1) (N := some 31) #[true, true, false, true, false, false, false, false, false, false, false, false, false, false, false, false, false, false] rfl rfl (one_of HT_.out (by kernel_rfl)) (by decide) (fun K hK => ?_)
          refine goes_ Try.func42 (by kernel_rfl) rfl #[.agg #[.string a0_0, .int .i64 a0_1, .int .i64 a0_2, .int .i64 a0_3]] (by rfl) rfl rfl (by (try simp only [List.map_toArray, List.map_cons, List.map_nil]); first | done | rfl | (simp only [List.length_drop, List.length_take]; rfl)) ?_
          with_reducible refine (riverbankref03_Turn.calls kj1 a0_0 a0_1 a0_2 a0_3 t384 t385 t386 t387 _ A20.out).mono ?_
          rintro e w60 ⟨rfl, hb⟩
          refine ⟨_, rfl, ?_⟩
          have n0_ := Aside0.mk (blk_below (g := gb380) (o := .cells #[.string a0_0, .int .i64 a0_1, .int .i64 a0_2, .int .i64 a0_3] 29 (0, 0)) (by (with_reducible repeat (first | refine blk_drewN ?_ _ | refine blk_drew ?_ | refine blk_alloc ?_ _)); exact BK380.out) hb)
          have n1_ := Aside0.mk (blk_below (g := gb383) (o := .cells #[.string a0_0, .int .i64 (wrap64 (1 - a0_1)), .int .i64 a0_2, .int .i64 a0_3] 29 (0, 0)) (by (with_reducible repeat (first | refine blk_drewN ?_ _ | refine blk_drew ?_ | refine blk_alloc ?_ _)); exact BK383.out) hb)
          have n2_ := Aside0.mk (below_step (by repeat (first | (with_reducible first | exact HB.out | apply below_alloc | apply pw_below_drewN | apply below_drew1 | refine below_set ?_ GE380.out | refine below_set ?_ GE383.out) | exact HB.out)) hb)
          clear BK380
          clear BK383
          clear HB
          have BK380 := n0_
          have BK383 := n1_
          have HB := n2_
          clear n0_ n1_ n2_
          (try clear hb)
          (try clear hb2)
          (try clear hk)
          (try clear hi)
          refine hK.out _ _ ⟨(blk_cell BK380.out 0).trans rfl, (blk_cell BK380.out 1).trans rfl, (blk_cell BK380.out 2).trans rfl, (blk_cell BK380.out 3).trans rfl⟩ (fun hHeld => ?_)
          clear hK K
          refine norm_ (a' := ?_) ?_ ?_
          rotate_left
          · show Act.put _ (some 31) _ = _
            simp only [Act.put, List.setIfInBounds_toArray, List.set_cons_zero, List.set_cons_succ, i64_w, i32_w]
            rfl
          refine one_ (i := 2) (N := some 32) #[true, true, true, true, false, false, false, false, false, false, false, false, false, false, false, false, false, false] rfl rfl (one_of HT_.out (by kernel_rfl)) (by decide) (fun K hK => ?_)
          refine goes_ Try.func37 (by kernel_rfl) rfl #[.agg #[.string t384, .int .i64 t385, .int .i64 t386, .int .i64 t387]] (by rfl) rfl rfl (by (try simp only [List.map_toArray, List.map_cons, List.map_nil]); first | done | rfl | (simp only [List.length_drop, List.length_take]; rfl)) ?_
          with_reducible refine (value_Of.calls t384 t385 t386 t387 t388 _ A21.out).mono ?_
          rintro e w61 ⟨rfl, hb⟩
          refine ⟨_, rfl, ?_⟩
          have n0_ := Aside0.mk (blk_below (g := gb380) (o := .cells #[.string a0_0, .int .i64 a0_1, .int .i64 a0_2, .int .i64 a0_3] 29 (0, 0)) (by (with_reducible repeat (first | refine blk_drewN ?_ _ | refine blk_drew ?_ | refine blk_alloc ?_ _)); exact BK380.out) hb)
          have n1_ := Aside0.mk (blk_below (g := gb383) (o := .cells #[.string a0_0, .int .i64 (wrap64 (1 - a0_1)), .int .i64 a0_2, .int .i64 a0_3] 29 (0, 0)) (by (with_reducible repeat (first | refine blk_drewN ?_ _ | refine blk_drew ?_ | refine blk_alloc ?_ _)); exact BK383.out) hb)
          have n2_ := Aside0.mk (below_step (by repeat (first | (with_reducible first | exact HB.out | apply below_alloc | apply pw_below_drewN | apply below_drew1 | refine below_set ?_ GE380.out | refine below_set ?_ GE383.out) | exact HB.out)) hb)
          clear BK380
          clear BK383
          clear HB
          have BK380 := n0_
          have BK383 := n1_
          have HB := n2_
          clear n0_ n1_ n2_
          (try clear hb)
          (try clear hb2)
          (try clear hk)
          (try clear hi)
          refine hK.out _ _ ⟨(blk_cell BK380.out 0).trans rfl, (blk_cell BK380.out 1).trans rfl, (blk_cell BK380.out 2).trans rfl, (blk_cell BK380.out 3).trans rfl⟩ (fun hHeld => ?_)
          clear hK K
          refine norm_ (a' := ?_) ?_ ?_
          rotate_left
          · show Act.put _ (some 32) _ = _
            simp only [Act.put, List.setIfInBounds_toArray, List.set_cons_zero, List.set_cons_succ, i64_w, i32_w]
            rfl
          refine one_ (i := 4) (N := some 34) #[true, true, true, true, true, false, false, false, false, false, false, false, false, false, false, false, false, false] rfl rfl (one_of HT_.out (by kernel_rfl)) (by decide) (fun K hK => ?_)
          refine goes_ Try.func37 (by kernel_rfl) rfl #[.agg #[.string a0_0, .int .i64 a0_1, .int .i64 a0_2, .int .i64 a0_3]] (by rfl) rfl rfl (by (try simp only [List.map_toArray, List.map_cons, List.map_nil]); first | done | rfl | (simp only [List.length_drop, List.length_take]; rfl)) ?_
          with_reducible refine (value_Of.calls a0_0 a0_1 a0_2 a0_3 t389 _ A22.out).mono ?_
          rintro e w62 ⟨rfl, hb⟩
          refine ⟨_, rfl, ?_⟩
          have n0_ := Aside0.mk (blk_below (g := gb380) (o := .cells #[.string a0_0, .int .i64 a0_1, .int .i64 a0_2, .int .i64 a0_3] 29 (0, 0)) (by (with_reducible repeat (first | refine blk_drewN ?_ _ | refine blk_drew ?_ | refine blk_alloc ?_ _)); exact BK380.out) hb)
          have n1_ := Aside0.mk (blk_below (g := gb383) (o := .cells #[.string a0_0, .int .i64 (wrap64 (1 - a0_1)), .int .i64 a0_2, .int .i64 a0_3] 29 (0, 0)) (by (with_reducible repeat (first | refine blk_drewN ?_ _ | refine blk_drew ?_ | refine blk_alloc ?_ _)); exact BK383.out) hb)
          have n2_ := Aside0.mk (below_step (by repeat (first | (with_reducible first | exact HB.out | apply below_alloc | apply pw_below_drewN | apply below_drew1 | refine below_set ?_ GE380.out | refine below_set ?_ GE383.out) | exact HB.out)) hb)
          clear BK380
          clear BK383
          clear HB
          have BK380 := n0_
          have BK383 := n1_
          have HB := n2_
          clear n0_ n1_ n2_
          (try clear hb)
          (try clear hb2)
          (try clear hk)
          (try clear hi)
          refine hK.out _ _ ⟨(blk_cell BK380.out 0).trans rfl, (blk_cell BK380.out 1).trans rfl, (blk_cell BK380.out 2).trans rfl, (blk_cell BK380.out 3).trans rfl⟩ (fun hHeld => ?_)
          clear hK K
          refine norm_ (a' := ?_) ?_ ?_
          rotate_left
          · show Act.put _ (some 34) _ = _
            simp only [Act.put, List.setIfInBounds_toArray, List.set_cons_zero, List.set_cons_succ, i64_w, i32_w]
            rfl
          refine pure_ (i := 5) (N := some 35) (v := ?_) (a' := ?_) #[true, true, true, true, true, true, false, false, false, false, false, false, false, false, false, false, false, false] rfl rfl (any_of HT_.out (by kernel_rfl)) (fun _ _ _ h => h) (Or.inl ⟨by rfl, ?_⟩) ?_ ?_
          rotate_left
          · intro w'
            go_simp
            with_reducible rfl
          rotate_left
          · simp only [Act.put, List.setIfInBounds_toArray, List.set_cons_zero, List.set_cons_succ, i64_w, i32_w]
            rfl
          refine pure_ (i := 6) (N := some 36) (v := ?_) (a' := ?_) #[true, true, true, true, true, true, true, false, false, false, false, false, false, false, false, false, false, false] rfl rfl (any_of HT_.out (by kernel_rfl)) (fun _ _ _ h => h) (Or.inl ⟨by rfl, ?_⟩) ?_ ?_
          rotate_left
          · intro w'
            go_simp
            with_reducible rfl
          rotate_left
          · simp only [Act.put, List.setIfInBounds_toArray, List.set_cons_zero, List.set_cons_succ, i64_w, i32_w]
            rfl
          refine pure_ (i := 7) (N := some 37) (v := undef) (a' := ?_) #[true, true, true, true, true, true, true, true, false, false, false, false, false, false, false, false, false, false] rfl rfl (any_of HT_.out (by kernel_rfl)) (fun _ _ _ h => h) (Or.inr ⟨by rfl, rfl⟩) ?_ ?_
          rotate_left
          · simp only [Act.put, List.setIfInBounds_toArray, List.set_cons_zero, List.set_cons_succ, i64_w, i32_w]
            rfl
          refine pure_ (i := 8) (N := some 38) (v := undef) (a' := ?_) #[true, true, true, true, true, true, true, true, true, false, false, false, false, false, false, false, false, false] rfl rfl (any_of HT_.out (by kernel_rfl)) (fun _ _ _ h => h) (Or.inr ⟨by rfl, rfl⟩) ?_ ?_
          rotate_left
          · simp only [Act.put, List.setIfInBounds_toArray, List.set_cons_zero, List.set_cons_succ, i64_w, i32_w]
            rfl
          refine pure_ (i := 9) (N := some 39) (v := undef) (a' := ?_) #[true, true, true, true, true, true, true, true, true, true, false, false, false, false, false, false, false, false] rfl rfl (any_of HT_.out (by kernel_rfl)) (fun _ _ _ h => h) (Or.inr ⟨by rfl, rfl⟩) ?_ ?_
          rotate_left
          · simp only [Act.put, List.setIfInBounds_toArray, List.set_cons_zero, List.set_cons_succ, i64_w, i32_w]
            rfl
          refine pure_ (i := 10) (N := some 40) (v := undef) (a' := ?_) #[true, true, true, true, true, true, true, true, true, true, true, false, false, false, false, false, false, false] rfl rfl (any_of HT_.out (by kernel_rfl)) (fun _ _ _ h => h) (Or.inr ⟨by rfl, rfl⟩) ?_ ?_
          rotate_left
          · simp only [Act.put, List.setIfInBounds_toArray, List.set_cons_zero, List.set_cons_succ, i64_w, i32_w]
            rfl
          refine pure_ (i := 11) (N := some 41) (v := undef) (a' := ?_) #[true, true, true, true, true, true, true, true, true, true, true, true, false, false, false, false, false, false] rfl rfl (any_of HT_.out (by kernel_rfl)) (fun _ _ _ h => h) (Or.inr ⟨by rfl, rfl⟩) ?_ ?_
          rotate_left
          · simp only [Act.put, List.setIfInBounds_toArray, List.set_cons_zero, List.set_cons_succ, i64_w, i32_w]
            rfl
          refine pure_ (i := 12) (N := some 42) (v := undef) (a' := ?_) #[true, true, true, true, true, true, true, true, true, true, true, true, true, false, false, false, false, false] rfl rfl (any_of HT_.out (by kernel_rfl)) (fun _ _ _ h => h) (Or.inr ⟨by rfl, rfl⟩) ?_ ?_
          rotate_left
          · simp only [Act.put, List.setIfInBounds_toArray, List.set_cons_zero, List.set_cons_succ, i64_w, i32_w]
            rfl
          refine pure_ (i := 13) (N := some 43) (v := ?_) (a' := ?_) #[true, true, true, true, true, true, true, true, true, true, true, true, true, true, false, false, false, false] rfl rfl (any_of HT_.out (by kernel_rfl)) (fun _ _ _ h => h) (Or.inl ⟨by rfl, ?_⟩) ?_ ?_
          rotate_left
          · intro w'
            go_simp
            with_reducible rfl
          rotate_left
          · simp only [Act.put, List.setIfInBounds_toArray, List.set_cons_zero, List.set_cons_succ, i64_w, i32_w]
            rfl
          refine pure_ (i := 14) (N := some 44) (v := ?_) (a' := ?_) #[true, true, true, true, true, true, true, true, true, true, true, true, true, true, true, false, false, false] rfl rfl (any_of HT_.out (by kernel_rfl)) (fun _ _ _ h => h) (Or.inl ⟨by rfl, ?_⟩) ?_ ?_
          rotate_left
          · intro w'
            go_simp
            with_reducible rfl
          rotate_left
          · simp only [Act.put, List.setIfInBounds_toArray, List.set_cons_zero, List.set_cons_succ, i64_w, i32_w]
            rfl
          refine pure_ (i := 15) (N := some 45) (v := undef) (a' := ?_) #[true, true, true, true, true, true, true, true, true, true, true, true, true, true, true, true, false, false] rfl rfl (any_of HT_.out (by kernel_rfl)) (fun _ _ _ h => h) (Or.inr ⟨by rfl, rfl⟩) ?_ ?_
          rotate_left
          · simp only [Act.put, List.setIfInBounds_toArray, List.set_cons_zero, List.set_cons_succ, i64_w, i32_w]
            rfl
          refine pure_ (i := 16) (N := some 46) (v := ?_) (a' := ?_) #[true, true, true, true, true, true, true, true, true, true, true, true, true, true, true, true, true, false] rfl rfl (any_of HT_.out (by kernel_rfl)) (fun _ _ _ h => h) (Or.inl ⟨by rfl, ?_⟩) ?_ ?_
          rotate_left
          · intro w'
            go_simp
            with_reducible rfl
          rotate_left
          · simp only [Act.put, List.setIfInBounds_toArray, List.set_cons_zero, List.set_cons_succ, i64_w, i32_w]
            rfl
          refine pure_ (i := 17) (N := some 2) (v := ?_) (a' := ?_) #[true, true, true, true, true, true, true, true, true, true, true, true, true, true, true, true, true, true] rfl rfl (any_of HT_.out (by kernel_rfl)) (fun _ _ _ h => h) (Or.inl ⟨by rfl, ?_⟩) ?_ ?_
          rotate_left
          · intro w'
            go_simp
            with_reducible rfl
          rotate_left
          · simp only [Act.put, List.setIfInBounds_toArray, List.set_cons_zero, List.set_cons_succ, i64_w, i32_w]
            rfl
          refine done_ (done_of HT_.out (by kernel_rfl)) ?_
          try go_wp2
          go_ret
          exact ⟨by first | rfl | (simp [errW_none, errW_some] <;> rfl) | (simp [*, errW_none, errW_some] <;> rfl), by repeat (first | (with_reducible first | exact HB.out | apply below_alloc | apply pw_below_drewN | apply below_drew1 | refine below_set ?_ GE380.out | refine below_set ?_ GE383.out) | exact HB.out)⟩

end Go.Proofs.Ytmfbgcimfmgobaa.Print

-- of YtmfbgcimfmgobaaKeyRefTwo
/- The document's boards and keys, and that they are the program's. -/
namespace Go.Proofs.Ytmfbgcimfmgobaa.KeyRef
open Go.RowKit Go.Proofs.Ytmfbgcimfmgobaa.Print Go.Proofs.Ytmfbgcimfmgobaa.KeyMath Go.Proofs.YtmfbgcimfmgobaaW.PrintWords Go.Proofs.YtmfbgcimfmgobaaW.PrintLast
theorem rside_k (k : Nat) (a : Int) : riverbankref02_Side.f (k + 1) a = riverbankref02_Side.f 1 a := rfl
theorem rside_eq (k : Nat) (b : UInt8) : riverbankref02_Side.f (k + 1) (b.toNat : Int) = board_Side.f (b.toNat : Int) := by
  rw [rside_k]
  have := u8_all (fun b => riverbankref02_Side.f 1 (b.toNat : Int) == board_Side.f (b.toNat : Int)) (by decide +kernel) b
  simpa using this
/-- A byte's side. -/
def sideU (b : UInt8) : Int := (board_Side.f (b.toNat : Int)).getD 0
theorem side_f (b : UInt8) : board_Side.f (b.toNat : Int) = some (sideU b) := by
  have := u8_all (fun b => board_Side.f (b.toNat : Int) == some (sideU b)) (by decide +kernel) b
  simpa using this
theorem side_cell (b : UInt8) : okCell b = (b == 46 || decide (0 ≤ sideU b)) := by
  have := u8_all (fun b => okCell b == (b == 46 || decide (0 ≤ sideU b))) (by decide +kernel) b
  simpa using this
theorem side_range (b : UInt8) : sideU b = -1 ∨ sideU b = 0 ∨ sideU b = 1 := by
  have := u8_all (fun b => sideU b == -1 || (sideU b == 0 || sideU b == 1)) (by decide +kernel) b
  simpa using this
theorem bt_get (s : ByteArray) (i : Nat) (h : i < s.size) : bt s (i : Int) = ((s.get! i).toNat : Int) := by
  unfold bt
  rw [dif_pos (by simpa using h)]
  have e : s.get! i = s.data[i]'h := by
    simp [ByteArray.get!, h]
  rw [e]; rfl
theorem rside_eq' (k : Nat) (hk : 1 ≤ k) (b : UInt8) : riverbankref02_Side.f k (b.toNat : Int) = some (sideU b) := by
  obtain ⟨m, rfl⟩ : ∃ m, k = m + 1 := ⟨k - 1, by omega⟩
  rw [rside_eq, side_f]
theorem eq46 (b : UInt8) : ((b.toNat : Int) = 46) = (b = 46) := by
  apply propext
  constructor
  · intro h; exact UInt8.toNat_inj.mp (by simpa using (by omega : b.toNat = 46))
  · intro h; subst h; rfl
theorem is_loop (s : ByteArray) (hs : s.size = 90) (d : Nat) : ∀ (k i : Nat), i + d = 90 → d + 1 < k → ∃ b, riverbankref02_Is.l0 k s (i : Int) = some b ∧ (b = true ↔ ∀ j, i ≤ j → j < 90 → okCell (s.get! j) = true) := by
  induction d with
  | zero =>
    intro k i hi hk
    obtain ⟨k, rfl⟩ : ∃ m, k = m + 1 := ⟨k - 1, by omega⟩
    refine ⟨true, by simp only [riverbankref02_Is.l0]; rw [if_neg (by omega)], ?_⟩
    simp; intro j h1 h2; omega
  | succ d ih =>
    intro k i hi hk
    obtain ⟨k, rfl⟩ : ∃ m, k = m + 1 := ⟨k - 1, by omega⟩
    obtain ⟨b, hb, hiff⟩ := ih k (i + 1) (by omega) (by omega)
    have hw : wrap64 ((i : Int) + 1) = ((i + 1 : Nat) : Int) := by rw [w64 _ (by omega) (by omega)]; rfl
    simp only [riverbankref02_Is.l0]
    rw [if_pos (by omega), if_pos (by omega), if_pos (by omega), bt_get s i (by omega), rside_eq' k (by omega), hw, hb]
    simp only [Option.bind_some]
    have hc := side_cell (s.get! i)
    by_cases h46 : ((s.get! i).toNat : Int) = 46
    · rw [if_pos h46]
      rw [eq46] at h46
      refine ⟨b, rfl, hiff.trans ⟨fun h j h1 h2 => ?_, fun h j h1 h2 => h j (by omega) h2⟩⟩
      by_cases e : j = i
      · subst e; rw [hc, h46]; rfl
      · exact h j (by omega) h2
    · rw [if_neg h46]
      rw [eq46] at h46
      by_cases h0 : sideU (s.get! i) < 0
      · rw [if_pos h0]
        refine ⟨false, rfl, ⟨fun h => (by cases h), fun h => ?_⟩⟩
        have := h i (Nat.le_refl _) (by omega)
        rw [hc] at this
        simp [h46] at this; omega
      · rw [if_neg h0]
        refine ⟨b, rfl, hiff.trans ⟨fun h j h1 h2 => ?_, fun h j h1 h2 => h j (by omega) h2⟩⟩
        by_cases e : j = i
        · subst e; rw [hc]; simp; right; omega
        · exact h j (by omega) h2
theorem rIs_eq (k : Nat) (hk : 100 ≤ k) (s : ByteArray) : riverbankref02_Is.f k s = board_Is.f s := by
  unfold riverbankref02_Is.f board_Is.f
  by_cases hs : s.size = 90
  · rw [if_pos (by omega)]
    obtain ⟨b, hb, hiff⟩ := is_loop s hs 90 k 0 (by omega) (by omega)
    rw [show ((0 : Nat) : Int) = 0 from rfl] at hb
    rw [hb]
    have h2 := all_okCell s
    rw [hs] at h2
    congr 1
    cases b with
    | true => simp only [hs, decide_true, Bool.true_and]; exact (h2.mpr (fun j hj => (hiff.mp rfl) j (by omega) hj)).symm
    | false =>
      simp only [hs, decide_true, Bool.true_and]
      cases e : s.data.toList.all okCell with
      | false => rfl
      | true => exact absurd (hiff.mpr (fun j _ hj => h2.mp e j hj)) (by simp)
  · rw [if_neg (by omega)]; simp [hs]
theorem board_size {s : ByteArray} (h : board_Is.f s = some true) : s.size = 90 := by
  unfold board_Is.f at h; have := Option.some.inj h; simp at this; exact this.1
theorem board_cell {s : ByteArray} (h : board_Is.f s = some true) (j : Nat) (hj : j < 90) : okCell (s.get! j) = true := by
  have hs := board_size h
  unfold board_Is.f at h; have := Option.some.inj h; simp only [Bool.and_eq_true] at this
  exact (all_okCell s).mp this.2 j (by omega)
theorem board_tf (s : ByteArray) : board_Is.f s = some true ∨ board_Is.f s = some false := by
  unfold board_Is.f
  cases (decide (s.size = 90) && s.data.toList.all okCell) <;> simp

end Go.Proofs.Ytmfbgcimfmgobaa.KeyRef

-- of YtmfbgcimfmgobaaKeyRefThree
/- Boards with one byte turned, and their keys. -/
namespace Go.Proofs.Ytmfbgcimfmgobaa.KeyRef
open Go.RowKit Go.Proofs.Ytmfbgcimfmgobaa.Print Go.Proofs.Ytmfbgcimfmgobaa.KeyMath Go.Proofs.YtmfbgcimfmgobaaW.PrintWords Go.Proofs.YtmfbgcimfmgobaaW.PrintLast
theorem get_list (s : ByteArray) (j : Nat) (h : j < s.size) : s.get! j = s.data.toList[j]'(by simpa using h) := by
  have e : s.get! j = s.data[j]'h := by simp [ByteArray.get!, h]
  rw [e]; simp
end Go.Proofs.Ytmfbgcimfmgobaa.KeyRef

-- of YtmfbgcimfmgobaaValueMath
/- What pieces are worth, read off all bytes and squares at once; sums over a board. -/
namespace Go.Proofs.Ytmfbgcimfmgobaa.ValueMath
open Go.RowKit Go.Proofs.Ytmfbgcimfmgobaa.Print Go.Proofs.Ytmfbgcimfmgobaa.KeyMath Go.Proofs.Ytmfbgcimfmgobaa.KeyRef Go.Proofs.YtmfbgcimfmgobaaW.PrintWords Go.Proofs.YtmfbgcimfmgobaaW.PrintLast
/-- The piece's worth on a square is the document's, lies between its kind's worth and 50 more, and is nothing for a general and for what is no piece. -/
def pieceOk (c n : Nat) : Bool :=
  match value_Piece.f 200 (c : Int) (n : Int), riverbankref14_Piece.f 200 (c : Int) (n : Int), value_Kind.f (c : Int), board_Kind.f (c : Int) with
  | some a, some b, some k, some d => decide (a = b ∧ 0 ≤ a ∧ a ≤ 250 ∧ (board_Side.f (c : Int) = some (-1) → a = 0) ∧ (board_Side.f (c : Int) ≠ some (-1) → k ≤ a ∧ a ≤ k + 50 ∧ (d = 75 → a = 0)))
  | _, _, _, _ => false
set_option maxRecDepth 100000 in
theorem piece_dec : ((List.range 256).all fun c => (List.range 90).all fun n => pieceOk c n) = true := by decide +kernel
theorem piece_ok (b : UInt8) (n : Nat) (hn : n < 90) : pieceOk b.toNat n = true := by
  have h := List.all_eq_true.mp (List.all_eq_true.mp piece_dec b.toNat (List.mem_range.mpr b.toNat_lt)) n (List.mem_range.mpr hn)
  exact h
def pv (b : UInt8) (n : Int) : Int := (value_Piece.f 200 (b.toNat : Int) n).getD 0
theorem piece_in (b : UInt8) (n : Nat) (hn : n < 90) : value_Piece.f 200 (b.toNat : Int) n = some (pv b n) ∧ riverbankref14_Piece.f 200 (b.toNat : Int) n = some (pv b n) ∧ 0 ≤ pv b n ∧ pv b n ≤ 250 ∧ (sideU b = -1 → pv b n = 0) ∧
    ∃ k d, value_Kind.f (b.toNat : Int) = some k ∧ board_Kind.f (b.toNat : Int) = some d ∧ (sideU b ≠ -1 → k ≤ pv b n ∧ pv b n ≤ k + 50 ∧ (d = 75 → pv b n = 0)) := by
  have h := piece_ok b n hn
  unfold pieceOk at h
  rw [side_f b] at h
  split at h
  · rename_i a c k d h1 h2 h3 h4
    have h := of_decide_eq_true h
    obtain ⟨rfl, h5, h6, h7, h8⟩ := h
    have e : pv b n = a := by unfold pv; rw [h1]; rfl
    rw [e]
    refine ⟨h1, h2, h5, h6, fun hs => h7 (by rw [hs]), k, d, h3, h4, fun hs => h8 (by simpa using hs)⟩
  · cases h
theorem piece_out (k : Nat) (b : UInt8) (n : Int) (hn : n < 0 ∨ 89 < n) : value_Piece.f (k + 1) (b.toNat : Int) n = some 0 ∧ riverbankref14_Piece.f (k + 1) (b.toNat : Int) n = some 0 := by
  have hq : board_isSquare.f n = some false := by
    unfold board_isSquare.f
    split
    · rw [decide_eq_false (by omega)]
    · rfl
  obtain ⟨r, hr⟩ := brank_some n
  have hf : board_File.f n = some (-1) := by unfold board_File.f; rw [hq]; rfl
  constructor
  · unfold value_Piece.f
    rw [side_f, hf, hr]
    simp only [Option.bind_some]
    split <;> simp [value_Piece.j0]
  · unfold riverbankref14_Piece.f
    rw [rside_eq' (k + 1) (by omega)]
    simp only [Option.bind_some]
    split
    · simp [riverbankref14_Piece.j0]
    · split
      · simp [riverbankref14_Piece.j0]
      · rw [decide_eq_true (by omega)]; simp [riverbankref14_Piece.j0]
theorem piece_200 (b : UInt8) (n : Int) : value_Piece.f 200 (b.toNat : Int) n = some (pv b n) ∧ riverbankref14_Piece.f 200 (b.toNat : Int) n = some (pv b n) ∧ 0 ≤ pv b n ∧ pv b n ≤ 250 ∧ (sideU b = -1 → pv b n = 0) := by
  by_cases hn : n < 0 ∨ 89 < n
  · obtain ⟨h1, h2⟩ := piece_out 199 b n hn
    have e : pv b n = 0 := by unfold pv; rw [h1]; rfl
    rw [e]; exact ⟨h1, h2, by omega, by omega, fun _ => rfl⟩
  · obtain ⟨m, rfl⟩ : ∃ m : Nat, n = m := ⟨n.toNat, by omega⟩
    have h := piece_in b m (by omega)
    exact ⟨h.1, h.2.1, h.2.2.1, h.2.2.2.1, h.2.2.2.2.1⟩
theorem pv_range (b : UInt8) (n : Int) : 0 ≤ pv b n ∧ pv b n ≤ 250 := ⟨(piece_200 b n).2.2.1, (piece_200 b n).2.2.2.1⟩
/-! ### sums -/
/-- What the first m squares are worth to a side, without wraps. -/
def sSum (s : ByteArray) (side : Int) : Nat → Int
  | 0 => 0
  | n + 1 => sSum s side n + (if sideU (s.get! n) = side then pv (s.get! n) n else 0)
theorem sSum_range (s : ByteArray) (side : Int) (n : Nat) : 0 ≤ sSum s side n ∧ sSum s side n ≤ 250 * n := by
  induction n with
  | zero => exact ⟨Int.le_refl _, Int.le_refl _⟩
  | succ n ih =>
    unfold sSum
    have := pv_range (s.get! n) n
    split <;> omega
theorem wrap_mid {x : Int} (h : -1000000 ≤ x) (h2 : x ≤ 1000000) : wrap64 x = x := by unfold wrap64; omega
theorem sideSum_eq (s : ByteArray) (hs : s.size = 90) (side : Int) (n : Nat) (hn : n ≤ 90) : sideSum s side n = sSum s side n := by
  induction n with
  | zero => rfl
  | succ n ih =>
    unfold sideSum sSum
    have hp : pieceN s n = pv (s.get! n) n := by unfold pieceN pv; rw [bt_get s n (by omega)]
    rw [ih (by omega), hp, bt_get s n (by omega), side_f]
    have := pv_range (s.get! n) n
    have := sSum_range s side n
    by_cases h : sideU (s.get! n) = side
    · rw [if_pos (by rw [h]), if_pos h]; exact wrap_mid (by omega) (by omega)
    · rw [if_neg (by intro e; exact h (Option.some.inj e)), if_neg h]; omega
/-- What a board is worth to the side whose move it is. -/
def ofV (s : ByteArray) (side : Int) : Int := if side = 0 then sSum s 0 90 - sSum s 1 90 else sSum s 1 90 - sSum s 0 90
theorem ofV_range (s : ByteArray) (side : Int) : -22500 ≤ ofV s side ∧ ofV s side ≤ 22500 := by
  have := sSum_range s 0 90
  have := sSum_range s 1 90
  unfold ofV; split <;> omega
theorem of_board (s : ByteArray) (a b c : Int) (h : board_Is.f s = some true) : value_Of.f s a b c = some (ofV s a) := by
  have hs := board_size h
  have := sSum_range s 0 90
  have := sSum_range s 1 90
  unfold value_Of.f
  rw [h, sideSum_eq s hs 0 90 (by omega), sideSum_eq s hs 1 90 (by omega)]
  simp only [Option.bind_some, if_true]
  unfold ofV
  split
  · rw [wrap_mid (by omega) (by omega)]
  · rw [wrap_mid (x := _ - _) (by omega) (by omega), wrap_mid (by omega) (by omega), Int.neg_sub]
end Go.Proofs.Ytmfbgcimfmgobaa.ValueMath

-- of YtmfbgcimfmgobaaValueMathTwo
/- The document's worth of a board; boards turned round. -/
namespace Go.Proofs.Ytmfbgcimfmgobaa.ValueMath
open Go.RowKit Go.Proofs.Ytmfbgcimfmgobaa.Print Go.Proofs.Ytmfbgcimfmgobaa.KeyRef Go.Proofs.YtmfbgcimfmgobaaW.PrintWords Go.Proofs.YtmfbgcimfmgobaaW.PrintLast
theorem sSum_succ (s : ByteArray) (side : Int) (n : Nat) : sSum s side (n + 1) = sSum s side n + (if sideU (s.get! n) = side then pv (s.get! n) n else 0) := rfl
/-! ### turned round -/
/-- A piece of the other side. -/
def flipU (c : UInt8) : UInt8 := if sideU c = 0 then c + 32 else if sideU c = 1 then c - 32 else c
theorem flip_cell (b : UInt8) : okCell b = true → okCell (flipU b) = true := by
  have := u8_all (fun b => !okCell b || okCell (flipU b)) (by decide +kernel) b
  intro h; simpa [h] using this
theorem flip_side (b : UInt8) : sideU (flipU b) = if sideU b = -1 then -1 else 1 - sideU b := by
  have := u8_all (fun b => sideU (flipU b) == if sideU b = -1 then -1 else 1 - sideU b) (by decide +kernel) b
  simpa using this
end Go.Proofs.Ytmfbgcimfmgobaa.ValueMath
