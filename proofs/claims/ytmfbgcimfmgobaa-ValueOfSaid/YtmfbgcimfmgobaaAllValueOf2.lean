/- Merged by a program of this session (wip/gprint/merge.py): what this claim needs of this session's texts, each part as it was. -/
import Derived.Test.YtmfbgcimfmgobaaAllValueOf1

-- of YtmfbgcimfmgobaaPrint31
-- Written by a program of this session (wip/gprint/gprint.py) over the kit's print; the parts marked GIVEN by hand.
namespace Go.Proofs.Ytmfbgcimfmgobaa.Print
open Go.RowKit Go.Proofs.YtmfbgcimfmgobaaW.PrintWords Go.Proofs.YtmfbgcimfmgobaaW.PrintLast Go.Proofs.YtmfbgcimfmgobaaW.PrintMore
attribute [local go_sem] max2_int min2_int max_two min_two max_three min_three max_four min_four   -- for this text's walks alone
set_option linter.unusedVariables false
set_option linter.unusedSimpArgs false
/-! GIVEN value_Of -/
-- GIVEN riverbank/value.Of
-- MAKES yes
-- IMPORT Derived.Deep.RegionWith
-- IMPORT Derived.Test.YtmfbgcimfmgobaaBytes
/-- What the first n squares are worth to a side. -/
def pieceN (s : ByteArray) (n : Nat) : Int := (value_Piece.f 200 (bt s n) n).getD 0
def sideSum (s : ByteArray) (side : Int) : Nat → Int
  | 0 => 0
  | n + 1 => if board_Side.f (bt s n) = some side then wrap64 (sideSum s side n + pieceN s n) else sideSum s side n
def value_Of.f (a0_0 : ByteArray) (a0_1 : Int) (a0_2 : Int) (a0_3 : Int) : Option (Int) := (board_Is.f a0_0).bind fun t => if t = true then (if a0_1 = 0 then some (wrap64 (sideSum a0_0 0 90 - sideSum a0_0 1 90)) else some (wrap64 (-wrap64 (sideSum a0_0 0 90 - sideSum a0_0 1 90)))) else some 0

theorem side_cases (c : Int) : board_Side.f c = some (-1) ∨ board_Side.f c = some 0 ∨ board_Side.f c = some 1 := by
  unfold board_Side.f strings_IndexByte.f
  simp only [Option.bind_some]
  split
  · exact .inr (.inl rfl)
  · split
    · exact .inr (.inr rfl)
    · exact .inl rfl
theorem bkind_some (c : Int) : ∃ v, board_Kind.f c = some v := by
  unfold board_Kind.f
  rcases side_cases c with h | h | h <;> rw [h] <;> simp only [Option.bind_some] <;> repeat (first | exact ⟨_, rfl⟩ | split)
theorem vkind_some (c : Int) : ∃ v, value_Kind.f c = some v := by
  unfold value_Kind.f strings_IndexByte.f
  obtain ⟨t, ht⟩ := bkind_some c
  rw [ht]; simp only [Option.bind_some]
  split <;> exact ⟨_, rfl⟩
theorem pover_some (k : Nat) (a b : Int) : ∃ v, place_Over.f (k + 1) a b = some v := by
  unfold place_Over.f place_seen.f place_spot_over.f
  simp only [place_seen.j0]
  repeat (first | exact ⟨_, rfl⟩ | split)
theorem bfile_some (a : Int) : ∃ v, board_File.f a = some v := by
  unfold board_File.f board_isSquare.f
  split <;> simp only [Option.bind_some] <;> split <;> exact ⟨_, rfl⟩
theorem brank_some (a : Int) : ∃ v, board_Rank.f a = some v := by
  unfold board_Rank.f board_isSquare.f
  split <;> simp only [Option.bind_some] <;> split <;> exact ⟨_, rfl⟩
theorem piece1_some (k : Nat) (a b c d e : Int) : ∃ v, value_Piece.j1 (k + 2) a b c d e = some v := by
  simp only [value_Piece.j1]
  obtain ⟨t, ht⟩ := vkind_some a
  obtain ⟨u, hu⟩ := bkind_some a
  obtain ⟨o, ho⟩ := pover_some k b c
  rw [ht]; simp only [Option.bind_some]
  rw [hu]; simp only [Option.bind_some]
  rw [ho]; simp only [Option.bind_some]
  repeat (first | exact ⟨_, rfl⟩ | split)
theorem piece_some (c : Int) (n : Nat) : ∃ v, value_Piece.f 200 c n = some v := by
  unfold value_Piece.f
  obtain ⟨s, hs⟩ : ∃ s, board_Side.f c = some s := by rcases side_cases c with h | h | h <;> exact ⟨_, h⟩
  obtain ⟨f, hf⟩ := bfile_some n
  obtain ⟨r, hr⟩ := brank_some n
  rw [hs]; simp only [Option.bind_some]
  rw [hf]; simp only [Option.bind_some]
  rw [hr]; simp only [Option.bind_some]
  simp only [value_Piece.j0]
  repeat (first | exact ⟨_, rfl⟩ | exact piece1_some _ _ _ _ _ _ | split)
theorem pieceN_is (s : ByteArray) (n : Nat) : value_Piece.f 200 (bt s n) n = some (pieceN s n) := by
  obtain ⟨v, hv⟩ := piece_some (bt s n) n
  unfold pieceN; rw [hv]; rfl

theorem two_cell {W : World} {B : Nat} {v u : Value} {t : TypeId} (h : W.heap[B]? = some (.cells #[v, u] t (0, 0))) : W.cell? ⟨B, 0, none⟩ = some v ∧ W.frozen? ⟨B, 0, none⟩ = false := by
  constructor <;> simp [World.cell?, World.frozen?, h]
theorem two_cell1 {W : World} {B : Nat} {v u : Value} {t : TypeId} (h : W.heap[B]? = some (.cells #[v, u] t (0, 0))) : W.cell? ⟨B, 1, none⟩ = some u ∧ W.frozen? ⟨B, 1, none⟩ = false := by
  constructor <;> simp [World.cell?, World.frozen?, h]
theorem cell_later_alloc2 {W : World} {a : Addr} {v : Value} (o : Obj) (h : W.cell? a = some v) : (W.alloc o).cell? a = some v :=
  (Below.cell (B := W.heap.size) ((Below.refl _ W).alloc (Nat.le_refl _) o) (p := a) (World.block_lt_of_cell? W _ h)).trans h

theorem cell_set_other (W : World) (B i C j : Nat) (u : Value) {v : Value} (hne : B ≠ C ∨ i ≠ j) (h : W.cell? ⟨C, j, none⟩ = some v) : (W.setCell ⟨B, i, none⟩ u).cell? ⟨C, j, none⟩ = some v :=
  (World.cell?_setCell_other W ⟨B, i, none⟩ ⟨C, j, none⟩ u (by intro e; injection e; omega)).trans h

set_option maxRecDepth 100000 in
set_option maxHeartbeats 4000000 in
theorem value_Of.board (a0_0 : ByteArray) (a0_1 : Int) (a0_2 : Int) (a0_3 : Int) (r : Int) (w : World) (hI : board_Is.f a0_0 = some true)
    (hr : r = if a0_1 = 0 then wrap64 (sideSum a0_0 0 90 - sideSum a0_0 1 90) else wrap64 (-wrap64 (sideSum a0_0 0 90 - sideSum a0_0 1 90))) :
    Calls Try.prog 37 #[.agg #[.string a0_0, .int .i64 a0_1, .int .i64 a0_2, .int .i64 a0_3]] w fun e w' => e = .returned (.int .i64 r) ∧ Below w.heap.size w w' := by
  have hsz : a0_0.size = 90 := by
    unfold board_Is.f at hI; have := Option.some.inj hI; simp at this; exact this.1
  have HR := Aside0.mk hr
  have HI := Aside0.mk hI
  clear hI hr
  have hs1 : a0_0.size ≤ 90 := by omega
  have hs2 : 90 ≤ a0_0.size := by omega
  clear hsz
  go_enter Try.func37, Try.ntmps37
  go_wp2_with fail
  refine (board_Is.calls _ true _ HI.out).mono ?_
  rintro e w1 ⟨rfl, hb1⟩
  have c0 : w1.cell? ⟨w.heap.size, 0, none⟩ = some (.string a0_0) := (hb1.cell (p := ⟨w.heap.size, 0, none⟩) (by simp)).trans (by simp)
  have c1 : w1.cell? ⟨w.heap.size, 1, none⟩ = some (.int .i64 a0_1) := (hb1.cell (p := ⟨w.heap.size, 1, none⟩) (by simp)).trans (by simp)
  have hB1 : Below w.heap.size w w1 := ((Below.refl _ w).alloc (Nat.le_refl _) _).trans (hb1.mono (by simp))
  have hz1 : w.heap.size + 1 ≤ w1.heap.size := by have := hb1.size; simp at this; omega
  clear hb1
  go_wp2
  have n0 := World.alloc_heap_new w1 (.cells #[.int .i64 0, .int .i64 0] 78)
  have e0 : (w1.alloc (.cells #[.int .i64 0, .int .i64 0] 78)).cell? ⟨w1.heap.size, 0, none⟩ = some (.int .i64 0) ∧ (w1.alloc (.cells #[.int .i64 0, .int .i64 0] 78)).frozen? ⟨w1.heap.size, 0, none⟩ = false := two_cell n0
  have e1 : (w1.alloc (.cells #[.int .i64 0, .int .i64 0] 78)).cell? ⟨w1.heap.size, 1, none⟩ = some (.int .i64 0) ∧ (w1.alloc (.cells #[.int .i64 0, .int .i64 0] 78)).frozen? ⟨w1.heap.size, 1, none⟩ = false := two_cell1 n0
  go_loopw [11] (fun i wr => ∃ k : Nat, i = .int .i64 k ∧ k ≤ 90 ∧ wr.cell? ⟨w.heap.size, 0, none⟩ = some (.string a0_0) ∧ wr.cell? ⟨w.heap.size, 1, none⟩ = some (.int .i64 a0_1) ∧
      (wr.cell? ⟨w1.heap.size, 0, none⟩ = some (.int .i64 (sideSum a0_0 0 k)) ∧ wr.frozen? ⟨w1.heap.size, 0, none⟩ = false) ∧ (wr.cell? ⟨w1.heap.size, 1, none⟩ = some (.int .i64 (sideSum a0_0 1 k)) ∧ wr.frozen? ⟨w1.heap.size, 1, none⟩ = false) ∧ Below w.heap.size w wr) (fun i _ => 90 - (intOf i).toNat)
  case atStart =>
    exact ⟨0, rfl, by omega, cell_later_alloc2 _ c0, cell_later_alloc2 _ c1, e0, e1, hB1.alloc hB1.size _⟩
  case round =>
    clear c0 c1 e0 e1 n0 hB1
    obtain ⟨k, rfl, hk, f0, f1, ⟨g0, z0⟩, ⟨g1, z1⟩, hB⟩ := hrel
    by_cases hlt : k < 90
    · have hk' : k < a0_0.size := by omega
      have ex : ((a0_0[k]'hk').toNat : Int) = bt a0_0 k := by simp [bt, hk']
      have hp := pieceN_is a0_0 k
      rw [← ex] at hp
      have hA : sideSum a0_0 0 (k + 1) = if board_Side.f (bt a0_0 k) = some 0 then wrap64 (sideSum a0_0 0 k + pieceN a0_0 k) else sideSum a0_0 0 k := rfl
      have hC : sideSum a0_0 1 (k + 1) = if board_Side.f (bt a0_0 k) = some 1 then wrap64 (sideSum a0_0 1 k + pieceN a0_0 k) else sideSum a0_0 1 k := rfl
      rw [← ex] at hA hC
      obtain ⟨x0, hx0⟩ : ∃ x, x = sideSum a0_0 0 k := ⟨_, rfl⟩
      obtain ⟨x1, hx1⟩ : ∃ x, x = sideSum a0_0 1 k := ⟨_, rfl⟩
      obtain ⟨p, hpe⟩ : ∃ x, x = pieceN a0_0 k := ⟨_, rfl⟩
      rw [← hx0, ← hpe] at hA
      rw [← hx1, ← hpe] at hC
      rw [← hx0] at g0
      rw [← hx1] at g1
      rw [← hpe] at hp
      have HP := Aside0.mk hp
      clear hx0 hx1 hpe hp ex
      rcases side_cases ((a0_0[k]'hk').toNat : Int) with hs | hs | hs
      · rw [hs, if_neg (by decide)] at hA
        rw [hs, if_neg (by decide)] at hC
        have HS := Aside0.mk hs
        have HA := Aside0.mk hA
        have HC := Aside0.mk hC
        clear hs hA hC
        go_wp2_with (go_at_call 43; (with_reducible refine (board_Side.calls _ (-1) _ HS.out).mono ?_); rintro e w' ⟨rfl, ⟨q, rfl⟩⟩)
        go_roundw
        case rel => exact ⟨k + 1, by go_num, by omega, f0, f1, ⟨by rw [HA.out]; exact g0, z0⟩, ⟨by rw [HC.out]; exact g1, z1⟩, ⟨hB.os, hB.tape, hB.output, hB.size, hB.block⟩⟩
        case measure => simp [intOf]; omega
      · rw [hs, if_pos rfl] at hA
        rw [hs, if_neg (by decide)] at hC
        have HS := Aside0.mk hs
        have HA := Aside0.mk hA
        have HC := Aside0.mk hC
        clear hs hA hC
        go_wp2_with (go_at_call 43; (with_reducible refine (board_Side.calls _ 0 _ HS.out).mono ?_); rintro e w' ⟨rfl, ⟨q, rfl⟩⟩)
        have l0 := World.block_lt_of_cell? wr _ f0
        have l1 := World.block_lt_of_cell? wr _ g0
        go_region_with ((go_at_call 34; (with_reducible refine (value_Piece.calls _ _ _ p _ HP.out).mono ?_); rintro e w3 ⟨rfl, hb3⟩; have f0' : w3.cell? ⟨w.heap.size, 0, none⟩ = some (.string a0_0) := (hb3.cell (p := ⟨w.heap.size, 0, none⟩) (by simpa using l0)).trans f0; have f1' : w3.cell? ⟨w.heap.size, 1, none⟩ = some (.int .i64 a0_1) := (hb3.cell (p := ⟨w.heap.size, 1, none⟩) (by simpa using l0)).trans f1; have g0' : w3.cell? ⟨w1.heap.size, 0, none⟩ = some (.int .i64 x0) := (hb3.cell (p := ⟨w1.heap.size, 0, none⟩) (by simpa using l1)).trans g0; have z0' : w3.frozen? ⟨w1.heap.size, 0, none⟩ = false := (hb3.frozen (p := ⟨w1.heap.size, 0, none⟩) (by simpa using l1)).trans z0; have g1' : w3.cell? ⟨w1.heap.size, 1, none⟩ = some (.int .i64 x1) := (hb3.cell (p := ⟨w1.heap.size, 1, none⟩) (by simpa using l1)).trans g1; have z1' : w3.frozen? ⟨w1.heap.size, 1, none⟩ = false := (hb3.frozen (p := ⟨w1.heap.size, 1, none⟩) (by simpa using l1)).trans z1; have hB3 : Below w.heap.size w w3 := below_past hB rfl hb3))
        all_goals
          have u0 := cell_set_other w3 w1.heap.size 0 w.heap.size 0 (.int .i64 (wrap64 (x0 + p))) (by omega) f0'
          have u1 := cell_set_other w3 w1.heap.size 0 w.heap.size 1 (.int .i64 (wrap64 (x0 + p))) (by omega) f1'
          have u2 := World.cell?_setCell_same' w3 ⟨w1.heap.size, 0, none⟩ (.int .i64 (wrap64 (x0 + p))) (by rw [g0']; rfl)
          have u3 := cell_set_other w3 w1.heap.size 0 w1.heap.size 1 (.int .i64 (wrap64 (x0 + p))) (by omega) g1'
          go_wp2
          go_roundw
          case rel => exact ⟨k + 1, by go_num, by omega, u0, u1, ⟨by rw [HA.out]; exact u2, by rw [World.frozen?_setCell]; exact z0'⟩, ⟨by rw [HC.out]; exact u3, by rw [World.frozen?_setCell]; exact z1'⟩, hB3.setCell (p := ⟨w1.heap.size, 0, none⟩) (by simp; omega) _⟩
          case measure => simp [intOf]; omega
      · rw [hs, if_neg (by decide)] at hA
        rw [hs, if_pos rfl] at hC
        have HS := Aside0.mk hs
        have HA := Aside0.mk hA
        have HC := Aside0.mk hC
        clear hs hA hC
        go_wp2_with (go_at_call 43; (with_reducible refine (board_Side.calls _ 1 _ HS.out).mono ?_); rintro e w' ⟨rfl, ⟨q, rfl⟩⟩)
        have l0 := World.block_lt_of_cell? wr _ f0
        have l1 := World.block_lt_of_cell? wr _ g0
        go_region_with ((go_at_call 34; (with_reducible refine (value_Piece.calls _ _ _ p _ HP.out).mono ?_); rintro e w3 ⟨rfl, hb3⟩; have f0' : w3.cell? ⟨w.heap.size, 0, none⟩ = some (.string a0_0) := (hb3.cell (p := ⟨w.heap.size, 0, none⟩) (by simpa using l0)).trans f0; have f1' : w3.cell? ⟨w.heap.size, 1, none⟩ = some (.int .i64 a0_1) := (hb3.cell (p := ⟨w.heap.size, 1, none⟩) (by simpa using l0)).trans f1; have g0' : w3.cell? ⟨w1.heap.size, 0, none⟩ = some (.int .i64 x0) := (hb3.cell (p := ⟨w1.heap.size, 0, none⟩) (by simpa using l1)).trans g0; have z0' : w3.frozen? ⟨w1.heap.size, 0, none⟩ = false := (hb3.frozen (p := ⟨w1.heap.size, 0, none⟩) (by simpa using l1)).trans z0; have g1' : w3.cell? ⟨w1.heap.size, 1, none⟩ = some (.int .i64 x1) := (hb3.cell (p := ⟨w1.heap.size, 1, none⟩) (by simpa using l1)).trans g1; have z1' : w3.frozen? ⟨w1.heap.size, 1, none⟩ = false := (hb3.frozen (p := ⟨w1.heap.size, 1, none⟩) (by simpa using l1)).trans z1; have hB3 : Below w.heap.size w w3 := below_past hB rfl hb3))
        all_goals
          have u0 := cell_set_other w3 w1.heap.size 1 w.heap.size 0 (.int .i64 (wrap64 (x1 + p))) (by omega) f0'
          have u1 := cell_set_other w3 w1.heap.size 1 w.heap.size 1 (.int .i64 (wrap64 (x1 + p))) (by omega) f1'
          have u2 := World.cell?_setCell_same' w3 ⟨w1.heap.size, 1, none⟩ (.int .i64 (wrap64 (x1 + p))) (by rw [g1']; rfl)
          have u3 := cell_set_other w3 w1.heap.size 1 w1.heap.size 0 (.int .i64 (wrap64 (x1 + p))) (by omega) g0'
          go_wp2
          go_roundw
          case rel => exact ⟨k + 1, by go_num, by omega, u0, u1, ⟨by rw [HA.out]; exact u3, by rw [World.frozen?_setCell]; exact z0'⟩, ⟨by rw [HC.out]; exact u2, by rw [World.frozen?_setCell]; exact z1'⟩, hB3.setCell (p := ⟨w1.heap.size, 1, none⟩) (by simp; omega) _⟩
          case measure => simp [intOf]; omega
    · obtain rfl : k = 90 := by omega
      have hr := HR.out
      obtain ⟨x0, hx0⟩ : ∃ x, x = sideSum a0_0 0 90 := ⟨_, rfl⟩
      obtain ⟨x1, hx1⟩ : ∃ x, x = sideSum a0_0 1 90 := ⟨_, rfl⟩
      rw [← hx0, ← hx1] at hr
      rw [← hx0] at g0
      rw [← hx1] at g1
      clear HR hx0 hx1
      by_cases hz : a0_1 = 0
      · rw [if_pos hz] at hr
        have hz0 : (a0_1 == 0) = true := by simp [hz]
        have hz0' : (a0_1 != 0) = false := by simp [hz]
        have HR := Aside0.mk hr
        clear hr hz
        go_wp2
        go_ret
        exact ⟨by rw [HR.out]; rfl, hB⟩
      · rw [if_neg hz] at hr
        have hz0 : (a0_1 == 0) = false := by simp [hz]
        have hz0' : (a0_1 != 0) = true := by simp [hz]
        have HR := Aside0.mk hr
        clear hr hz
        go_wp2
        go_ret
        exact ⟨by rw [HR.out]; rfl, hB⟩

set_option maxHeartbeats 1000000 in
theorem value_Of.other (a0_0 : ByteArray) (a0_1 : Int) (a0_2 : Int) (a0_3 : Int) (w : World) (hI : board_Is.f a0_0 = some false) :
    Calls Try.prog 37 #[.agg #[.string a0_0, .int .i64 a0_1, .int .i64 a0_2, .int .i64 a0_3]] w fun e w' => e = .returned (.int .i64 0) ∧ Below w.heap.size w w' := by
  have HI := Aside0.mk hI
  clear hI
  go_enter Try.func37, Try.ntmps37
  go_wp2_with (go_at_call 41; refine (board_Is.calls _ false _ HI.out).mono ?_; rintro e w1 ⟨rfl, hb1⟩)
  go_ret
  exact ⟨rfl, ((Below.refl _ w).alloc (Nat.le_refl _) _).trans (hb1.mono (by simp))⟩

theorem value_Of.calls (a0_0 : ByteArray) (a0_1 : Int) (a0_2 : Int) (a0_3 : Int) (r : Int) (w : World) (h : value_Of.f a0_0 a0_1 a0_2 a0_3 = some r) :
    Calls Try.prog 37 #[.agg #[.string a0_0, .int .i64 a0_1, .int .i64 a0_2, .int .i64 a0_3]] w fun e w' => e = .returned (.int .i64 r) ∧ Below w.heap.size w w' := by
  unfold value_Of.f at h
  obtain ⟨b, hb, h⟩ := Option.bind_eq_some_iff.mp h
  cases b with
  | true =>
    rw [if_pos rfl] at h
    refine value_Of.board _ _ _ _ r w hb ?_
    split at h
    · rename_i hz; rw [if_pos hz]; exact (Option.some.inj h).symm
    · rename_i hz; rw [if_neg hz]; exact (Option.some.inj h).symm
  | false => rw [if_neg (by decide)] at h; obtain rfl := Option.some.inj h; exact value_Of.other _ _ _ _ w hb

end Go.Proofs.Ytmfbgcimfmgobaa.Print

-- of YtmfbgcimfmgobaaPrint32
-- Written by a program of this session (wip/gprint/gprint.py) over the kit's print; the parts marked GIVEN by hand.
namespace Go.Proofs.Ytmfbgcimfmgobaa.Print
open Go.RowKit Go.Proofs.YtmfbgcimfmgobaaW.PrintWords Go.Proofs.YtmfbgcimfmgobaaW.PrintLast Go.Proofs.YtmfbgcimfmgobaaW.PrintMore
attribute [local go_sem] max2_int min2_int max_two min_two max_three min_three max_four min_four   -- for this text's walks alone
set_option linter.unusedVariables false
set_option linter.unusedSimpArgs false
/-! ### value_Moved: function 39 -/
def value_Moved.f (k : Nat) (a0 : Int) (a1 : Int) (a2_0 : Int) (a2_1 : Int) (a3 : Int) : Option (Int) := (value_Piece.f k a1 a2_0).bind fun t332 => ((value_Piece.f k a1 a2_1).bind fun t333 => ((value_Piece.f k a3 a2_1).bind fun t334 => (some (wrap64 ((wrap64 ((wrap64 (t332 - t333)) - t334)) - a0)))))
theorem value_Moved.mono : ∀ a0 a1 a2 a3 a4 k, LeO (value_Moved.f k a0 a1 a2 a3 a4) (value_Moved.f (k + 1) a0 a1 a2 a3 a4) := by
  intro a0 a1 a2 a3 a4 k
  unfold value_Moved.f
  repeat' first
      | (with_reducible exact value_Piece.mono _ _ _)
      | (with_reducible exact LeO.refl _)
      | (with_reducible exact LeO.none _)
      | (with_reducible refine LeO.ite ?_ ?_)
      | (with_reducible refine LeO.bind ?_ (fun _ => ?_))
      | exact value_Piece.mono _ _ _
      | exact LeO.none _
      | refine LeO.ite ?_ ?_
      | refine LeO.bind ?_ (fun _ => ?_)
def value_Moved.T1 : Bool × List (List Nat × List Nat) := (true, [([], []), ([], []), ([1], [1]), ([0, 2], [0, 2]), ([], []), ([], []), ([5], [5]), ([4, 6, 3], [4, 6]), ([3, 7], [3, 7]), ([], []), ([], []), ([10], [10]), ([9, 11, 7], [9, 11]), ([8, 12], [8, 12]), ([], []), ([13, 14], [13, 14]), ([15, 12, 0, 1, 2, 3, 4, 5, 6, 7, 8, 9, 10, 11, 12, 13, 14, 15], [15])])
def value_Moved.B1 : List Nat := [0, 0, 2, 7, 0, 0, 32, 127, 255, 0, 0, 1024, 3839, 8191, 0, 32767, 65535]
theorem value_Moved.tab1 : rtab .any (opsOf Try.f39 1) = value_Moved.T1 := by kernel_rfl
theorem value_Moved.bits1 : waitsOk value_Moved.T1.2 value_Moved.B1 = true := by kernel_rfl
set_option maxHeartbeats 8000000 in
set_option maxRecDepth 100000 in
theorem value_Moved.calls (k : Nat) (a0 : Int) (a1 : Int) (a2_0 : Int) (a2_1 : Int) (a3 : Int) (r : Int) (w : World) (h : value_Moved.f k a0 a1 a2_0 a2_1 a3 = some r) :
    Calls Try.prog 39 #[.int .i64 a0, .int .u8 a1, .agg #[.int .i64 a2_0, .int .i64 a2_1], .int .u8 a3] w fun e w' => e = .returned (.int .i64 r) ∧ Below w.heap.size w w' := by
  have hu41 := Try.underlying41
  have HB := Aside0.mk (Below.refl w.heap.size w)
  have H : ((value_Piece.f k a1 a2_0).bind fun t332 => ((value_Piece.f k a1 a2_1).bind fun t333 => ((value_Piece.f k a3 a2_1).bind fun t334 => (some (wrap64 ((wrap64 ((wrap64 (t332 - t333)) - t334)) - a0)))))) = some r := h
  clear h
  replace H := Option.bind_eq_some_iff.mp H
  obtain ⟨t332, A50, H⟩ := H
  replace H : ((value_Piece.f k a1 a2_1).bind fun t333 => ((value_Piece.f k a3 a2_1).bind fun t334 => (some (wrap64 ((wrap64 ((wrap64 (t332 - t333)) - t334)) - a0))))) = some r := H
  have A5 := Aside0.mk A50
  clear A50
  replace H := Option.bind_eq_some_iff.mp H
  obtain ⟨t333, A60, H⟩ := H
  replace H : ((value_Piece.f k a3 a2_1).bind fun t334 => (some (wrap64 ((wrap64 ((wrap64 (t332 - t333)) - t334)) - a0)))) = some r := H
  have A6 := Aside0.mk A60
  clear A60
  replace H := Option.bind_eq_some_iff.mp H
  obtain ⟨t334, A70, H⟩ := H
  replace H : (some (wrap64 ((wrap64 ((wrap64 (t332 - t333)) - t334)) - a0))) = some r := H
  have A7 := Aside0.mk A70
  clear A70
  obtain rfl := Option.some.inj H
  go_enter Try.func39, Try.ntmps39
  try go_wp2_with (first | ((with_reducible refine gate_dst (N := 6) rfl ?_); refine box_event ?hg (N := 6) ?hd (cs := #[.int .i64 a2_0, .int .i64 a2_1]) (t := 41) ?hr ?_; (case hd => rfl); (case hg => rfl); (case hr => first | (go_simp; done) | (go_simp; rfl)); intro gb331 hg w8 hbox hb; have n0_ := Aside0.mk (below_step (by repeat (first | (with_reducible first | exact HB.out | apply below_alloc | apply pw_below_drewN | apply below_drew1) | exact HB.out)) hb); have n1_ := Aside0.mk (hbox); have n2_ := Aside0.mk ((by rw [hg]; exact (below_size (by repeat (first | (with_reducible first | exact HB.out | apply below_alloc | apply pw_below_drewN | apply below_drew1) | exact HB.out))) : w.heap.size ≤ gb331)); have n3_ := Aside0.mk ((by rw [hg]; exact (below_size (by repeat (first | (with_reducible first | exact HB.out | apply below_alloc | apply pw_below_drewN | apply below_drew1) | exact HB.out))) : w.heap.size ≤ gb331)); clear HB; have HB := n0_; have BK331 := n1_; have GW331 := n2_; have GE331 := n3_; clear n0_ n1_ n2_ n3_; clear hb hbox hg))
  have n0_ := Aside0.mk (blk_drew BK331.out)
  have n1_ := Aside0.mk (below_drew1 HB.out)
  clear BK331
  clear HB
  have BK331 := n0_
  have HB := n1_
  clear n0_ n1_
  refine start_ (n := 17) (S := fun w' => w'.cell? ⟨gb331, 0, none⟩ = some (.int .i64 a2_0) ∧ w'.cell? ⟨gb331, 1, none⟩ = some (.int .i64 a2_1)) (ds := []) #[false, false, false, false, false, false, false, false, false, false, false, false, false, false, false, false, false] (by kernel_rfl) rfl rfl ⟨(blk_cell BK331.out 0).trans rfl, (blk_cell BK331.out 1).trans rfl⟩ (fun hHeld => ?_); refine with_tabW value_Moved.tab1 value_Moved.bits1 (fun HT_ HW_ => ?_)
  generalize w8.drew = w9 at BK331 HB hHeld ⊢
  refine pure_ (i := 0) (N := some 9) (v := ?_) (a' := ?_) #[true, false, false, false, false, false, false, false, false, false, false, false, false, false, false, false, false] rfl rfl (any_of HT_.out (by kernel_rfl)) (fun _ _ _ h => h) (Or.inl ⟨by rfl, ?_⟩) ?_ ?_
  rotate_left
  · intro w'
    go_simp
    with_reducible rfl
  rotate_left
  · simp only [Act.put, List.setIfInBounds_toArray, List.set_cons_zero, List.set_cons_succ, i64_w, i32_w]
    rfl
  refine pure_ (i := 1) (N := some 10) (v := ?_) (a' := ?_) #[true, true, false, false, false, false, false, false, false, false, false, false, false, false, false, false, false] rfl rfl (any_of HT_.out (by kernel_rfl)) (fun _ _ _ h => h) (Or.inl ⟨by rfl, ?_⟩) ?_ ?_
  rotate_left
  · intro w'
    go_simp
    with_reducible rfl
  rotate_left
  · simp only [Act.put, List.setIfInBounds_toArray, List.set_cons_zero, List.set_cons_succ, i64_w, i32_w]
    rfl
  refine pure_ (i := 4) (N := some 13) (v := ?_) (a' := ?_) #[true, true, false, false, true, false, false, false, false, false, false, false, false, false, false, false, false] rfl rfl (any_of HT_.out (by kernel_rfl)) (fun _ _ _ h => h) (Or.inl ⟨by rfl, ?_⟩) ?_ ?_
  rotate_left
  · intro w'
    go_simp
    with_reducible rfl
  rotate_left
  · simp only [Act.put, List.setIfInBounds_toArray, List.set_cons_zero, List.set_cons_succ, i64_w, i32_w]
    rfl
  refine pure_ (i := 5) (N := some 14) (v := ?_) (a' := ?_) #[true, true, false, false, true, true, false, false, false, false, false, false, false, false, false, false, false] rfl rfl (any_of HT_.out (by kernel_rfl)) (fun _ _ _ h => h) (Or.inl ⟨by rfl, ?_⟩) ?_ ?_
  rotate_left
  · intro w'
    go_simp
    with_reducible rfl
  rotate_left
  · simp only [Act.put, List.setIfInBounds_toArray, List.set_cons_zero, List.set_cons_succ, i64_w, i32_w]
    rfl
  refine pure_ (i := 9) (N := some 18) (v := ?_) (a' := ?_) #[true, true, false, false, true, true, false, false, false, true, false, false, false, false, false, false, false] rfl rfl (any_of HT_.out (by kernel_rfl)) (fun _ _ _ h => h) (Or.inl ⟨by rfl, ?_⟩) ?_ ?_
  rotate_left
  · intro w'
    go_simp
    with_reducible rfl
  rotate_left
  · simp only [Act.put, List.setIfInBounds_toArray, List.set_cons_zero, List.set_cons_succ, i64_w, i32_w]
    rfl
  refine pure_ (i := 10) (N := some 19) (v := ?_) (a' := ?_) #[true, true, false, false, true, true, false, false, false, true, true, false, false, false, false, false, false] rfl rfl (any_of HT_.out (by kernel_rfl)) (fun _ _ _ h => h) (Or.inl ⟨by rfl, ?_⟩) ?_ ?_
  rotate_left
  · intro w'
    go_simp
    with_reducible rfl
  rotate_left
  · simp only [Act.put, List.setIfInBounds_toArray, List.set_cons_zero, List.set_cons_succ, i64_w, i32_w]
    rfl
  refine pure_ (i := 14) (N := some 23) (v := ?_) (a' := ?_) #[true, true, false, false, true, true, false, false, false, true, true, false, false, false, true, false, false] rfl rfl (any_of HT_.out (by kernel_rfl)) (fun _ _ _ h => h) (Or.inl ⟨by rfl, ?_⟩) ?_ ?_
  rotate_left
  · intro w'
    go_simp
    with_reducible rfl
  rotate_left
  · simp only [Act.put, List.setIfInBounds_toArray, List.set_cons_zero, List.set_cons_succ, i64_w, i32_w]
    rfl
  refine take_ (i := 2) (N := some 11) (v := ?_) (a' := ?_) #[true, true, true, false, true, true, false, false, false, true, true, false, false, false, true, false, false] rfl rfl (take_ofW HT_.out HW_.out (by kernel_rfl)) (fun _ _ _ h => h) (Or.inl ⟨by rfl, ?_⟩) hHeld ?_ ?_
  rotate_left
  · rintro w' ⟨s0, s1⟩
    go_simp
    with_reducible rfl
  rotate_left
  · simp only [Act.put, List.setIfInBounds_toArray, List.set_cons_zero, List.set_cons_succ, i64_w, i32_w]
    rfl
  refine take_ (i := 6) (N := some 15) (v := ?_) (a' := ?_) #[true, true, true, false, true, true, true, false, false, true, true, false, false, false, true, false, false] rfl rfl (take_ofW HT_.out HW_.out (by kernel_rfl)) (fun _ _ _ h => h) (Or.inl ⟨by rfl, ?_⟩) hHeld ?_ ?_
  rotate_left
  · rintro w' ⟨s0, s1⟩
    go_simp
    with_reducible rfl
  rotate_left
  · simp only [Act.put, List.setIfInBounds_toArray, List.set_cons_zero, List.set_cons_succ, i64_w, i32_w]
    rfl
  refine take_ (i := 11) (N := some 20) (v := ?_) (a' := ?_) #[true, true, true, false, true, true, true, false, false, true, true, true, false, false, true, false, false] rfl rfl (take_ofW HT_.out HW_.out (by kernel_rfl)) (fun _ _ _ h => h) (Or.inl ⟨by rfl, ?_⟩) hHeld ?_ ?_
  rotate_left
  · rintro w' ⟨s0, s1⟩
    go_simp
    with_reducible rfl
  rotate_left
  · simp only [Act.put, List.setIfInBounds_toArray, List.set_cons_zero, List.set_cons_succ, i64_w, i32_w]
    rfl
  refine one_ (i := 3) (N := some 12) #[true, true, true, true, true, true, true, false, false, true, true, true, false, false, true, false, false] rfl rfl (one_of HT_.out (by kernel_rfl)) (by decide) (fun K hK => ?_)
  refine goes_ Try.func34 (by kernel_rfl) rfl #[.int .u8 a1, .int .i64 a2_0] (by rfl) rfl rfl (by (try simp only [List.map_toArray, List.map_cons, List.map_nil]); first | done | rfl | (simp only [List.length_drop, List.length_take]; rfl)) ?_
  with_reducible refine (value_Piece.calls k a1 a2_0 t332 _ A5.out).mono ?_
  rintro e w10 ⟨rfl, hb⟩
  refine ⟨_, rfl, ?_⟩
  have n0_ := Aside0.mk (blk_below (g := gb331) (o := .cells #[.int .i64 a2_0, .int .i64 a2_1] 41 (0, 0)) (by (with_reducible repeat (first | refine blk_drewN ?_ _ | refine blk_drew ?_ | refine blk_alloc ?_ _)); exact BK331.out) hb)
  have n1_ := Aside0.mk (below_step (by repeat (first | (with_reducible first | exact HB.out | apply below_alloc | apply pw_below_drewN | apply below_drew1 | refine below_set ?_ GE331.out) | exact HB.out)) hb)
  clear BK331
  clear HB
  have BK331 := n0_
  have HB := n1_
  clear n0_ n1_
  (try clear hb)
  (try clear hb2)
  (try clear hk)
  (try clear hi)
  refine hK.out _ _ ⟨(blk_cell BK331.out 0).trans rfl, (blk_cell BK331.out 1).trans rfl⟩ (fun hHeld => ?_)
  clear hK K
  refine norm_ (a' := ?_) ?_ ?_
  rotate_left
  · show Act.put _ (some 12) _ = _
    simp only [Act.put, List.setIfInBounds_toArray, List.set_cons_zero, List.set_cons_succ, i64_w, i32_w]
    rfl
  refine one_ (i := 7) (N := some 16) #[true, true, true, true, true, true, true, true, false, true, true, true, false, false, true, false, false] rfl rfl (one_of HT_.out (by kernel_rfl)) (by decide) (fun K hK => ?_)
  refine goes_ Try.func34 (by kernel_rfl) rfl #[.int .u8 a1, .int .i64 a2_1] (by rfl) rfl rfl (by (try simp only [List.map_toArray, List.map_cons, List.map_nil]); first | done | rfl | (simp only [List.length_drop, List.length_take]; rfl)) ?_
  with_reducible refine (value_Piece.calls k a1 a2_1 t333 _ A6.out).mono ?_
  rintro e w11 ⟨rfl, hb⟩
  refine ⟨_, rfl, ?_⟩
  have n0_ := Aside0.mk (blk_below (g := gb331) (o := .cells #[.int .i64 a2_0, .int .i64 a2_1] 41 (0, 0)) (by (with_reducible repeat (first | refine blk_drewN ?_ _ | refine blk_drew ?_ | refine blk_alloc ?_ _)); exact BK331.out) hb)
  have n1_ := Aside0.mk (below_step (by repeat (first | (with_reducible first | exact HB.out | apply below_alloc | apply pw_below_drewN | apply below_drew1 | refine below_set ?_ GE331.out) | exact HB.out)) hb)
  clear BK331
  clear HB
  have BK331 := n0_
  have HB := n1_
  clear n0_ n1_
  (try clear hb)
  (try clear hb2)
  (try clear hk)
  (try clear hi)
  refine hK.out _ _ ⟨(blk_cell BK331.out 0).trans rfl, (blk_cell BK331.out 1).trans rfl⟩ (fun hHeld => ?_)
  clear hK K
  refine norm_ (a' := ?_) ?_ ?_
  rotate_left
  · show Act.put _ (some 16) _ = _
    simp only [Act.put, List.setIfInBounds_toArray, List.set_cons_zero, List.set_cons_succ, i64_w, i32_w]
    rfl
  refine pure_ (i := 8) (N := some 17) (v := ?_) (a' := ?_) #[true, true, true, true, true, true, true, true, true, true, true, true, false, false, true, false, false] rfl rfl (any_of HT_.out (by kernel_rfl)) (fun _ _ _ h => h) (Or.inl ⟨by rfl, ?_⟩) ?_ ?_
  rotate_left
  · intro w'
    go_simp
    with_reducible rfl
  rotate_left
  · simp only [Act.put, List.setIfInBounds_toArray, List.set_cons_zero, List.set_cons_succ, i64_w, i32_w]
    rfl
  refine one_ (i := 12) (N := some 21) #[true, true, true, true, true, true, true, true, true, true, true, true, true, false, true, false, false] rfl rfl (one_of HT_.out (by kernel_rfl)) (by decide) (fun K hK => ?_)
  refine goes_ Try.func34 (by kernel_rfl) rfl #[.int .u8 a3, .int .i64 a2_1] (by rfl) rfl rfl (by (try simp only [List.map_toArray, List.map_cons, List.map_nil]); first | done | rfl | (simp only [List.length_drop, List.length_take]; rfl)) ?_
  with_reducible refine (value_Piece.calls k a3 a2_1 t334 _ A7.out).mono ?_
  rintro e w12 ⟨rfl, hb⟩
  refine ⟨_, rfl, ?_⟩
  have n0_ := Aside0.mk (blk_below (g := gb331) (o := .cells #[.int .i64 a2_0, .int .i64 a2_1] 41 (0, 0)) (by (with_reducible repeat (first | refine blk_drewN ?_ _ | refine blk_drew ?_ | refine blk_alloc ?_ _)); exact BK331.out) hb)
  have n1_ := Aside0.mk (below_step (by repeat (first | (with_reducible first | exact HB.out | apply below_alloc | apply pw_below_drewN | apply below_drew1 | refine below_set ?_ GE331.out) | exact HB.out)) hb)
  clear BK331
  clear HB
  have BK331 := n0_
  have HB := n1_
  clear n0_ n1_
  (try clear hb)
  (try clear hb2)
  (try clear hk)
  (try clear hi)
  refine hK.out _ _ ⟨(blk_cell BK331.out 0).trans rfl, (blk_cell BK331.out 1).trans rfl⟩ (fun hHeld => ?_)
  clear hK K
  refine norm_ (a' := ?_) ?_ ?_
  rotate_left
  · show Act.put _ (some 21) _ = _
    simp only [Act.put, List.setIfInBounds_toArray, List.set_cons_zero, List.set_cons_succ, i64_w, i32_w]
    rfl
  refine pure_ (i := 13) (N := some 22) (v := ?_) (a' := ?_) #[true, true, true, true, true, true, true, true, true, true, true, true, true, true, true, false, false] rfl rfl (any_of HT_.out (by kernel_rfl)) (fun _ _ _ h => h) (Or.inl ⟨by rfl, ?_⟩) ?_ ?_
  rotate_left
  · intro w'
    go_simp
    with_reducible rfl
  rotate_left
  · simp only [Act.put, List.setIfInBounds_toArray, List.set_cons_zero, List.set_cons_succ, i64_w, i32_w]
    rfl
  refine pure_ (i := 15) (N := some 24) (v := ?_) (a' := ?_) #[true, true, true, true, true, true, true, true, true, true, true, true, true, true, true, true, false] rfl rfl (any_of HT_.out (by kernel_rfl)) (fun _ _ _ h => h) (Or.inl ⟨by rfl, ?_⟩) ?_ ?_
  rotate_left
  · intro w'
    go_simp
    with_reducible rfl
  rotate_left
  · simp only [Act.put, List.setIfInBounds_toArray, List.set_cons_zero, List.set_cons_succ, i64_w, i32_w]
    rfl
  refine pure_ (i := 16) (N := some 8) (v := ?_) (a' := ?_) #[true, true, true, true, true, true, true, true, true, true, true, true, true, true, true, true, true] rfl rfl (any_of HT_.out (by kernel_rfl)) (fun _ _ _ h => h) (Or.inl ⟨by rfl, ?_⟩) ?_ ?_
  rotate_left
  · intro w'
    go_simp
    with_reducible rfl
  rotate_left
  · simp only [Act.put, List.setIfInBounds_toArray, List.set_cons_zero, List.set_cons_succ, i64_w, i32_w]
    rfl
  refine done_ (done_of HT_.out (by kernel_rfl)) ?_
  try go_wp2
  go_ret
  exact ⟨by first | rfl | (simp [errW_none, errW_some] <;> rfl) | (simp [*, errW_none, errW_some] <;> rfl), by repeat (first | (with_reducible first | exact HB.out | apply below_alloc | apply pw_below_drewN | apply below_drew1 | refine below_set ?_ GE331.out) | exact HB.out)⟩

end Go.Proofs.Ytmfbgcimfmgobaa.Print

-- of YtmfbgcimfmgobaaPrint33
-- Written by a program of this session (wip/gprint/gprint.py) over the kit's print; the parts marked GIVEN by hand.
namespace Go.Proofs.Ytmfbgcimfmgobaa.Print
open Go.RowKit Go.Proofs.YtmfbgcimfmgobaaW.PrintWords Go.Proofs.YtmfbgcimfmgobaaW.PrintLast Go.Proofs.YtmfbgcimfmgobaaW.PrintMore
attribute [local go_sem] max2_int min2_int max_two min_two max_three min_three max_four min_four   -- for this text's walks alone
set_option linter.unusedVariables false
set_option linter.unusedSimpArgs false
/-! GIVEN riverbanklaw14_live -/
-- GIVEN riverbank/riverbanklaw14.live
-- MAKES yes
def riverbanklaw14_live.f : Option (Bool) := some true
def startV : ByteArray := ⟨#[82, 78, 66, 65, 75, 65, 66, 78, 82, 46, 46, 46, 46, 46, 46, 46, 46, 46, 46, 67, 46, 46, 46, 46, 46, 67, 46, 80, 46, 80, 46, 80, 46, 80, 46, 80, 46, 46, 46, 46, 46, 46, 46, 46, 46, 46, 46, 46, 46, 46, 46, 46, 46, 46, 112, 46, 112, 46, 112, 46, 112, 46, 112, 46, 99, 46, 46, 46, 46, 46, 99, 46, 46, 46, 46, 46, 46, 46, 46, 46, 46, 114, 110, 98, 97, 107, 97, 98, 110, 114]⟩
set_option maxRecDepth 100000 in
set_option maxHeartbeats 2000000 in
theorem riverbanklaw14_live.calls (r : Bool) (w : World) (h : riverbanklaw14_live.f = some r) :
    Calls Try.prog 36 #[] w fun e w' => e = .returned (.bool r) ∧ Below w.heap.size w w' := by
  obtain rfl := Option.some.inj h
  clear h
  have v1 : Aside0 (value_Of.f startV 0 0 1 = some 0) := ⟨by decide +kernel⟩
  have k1 : Aside0 (value_Kind.f 114 = some 200) := ⟨by decide +kernel⟩
  have k2 : Aside0 (value_Kind.f 46 = some 0) := ⟨by decide +kernel⟩
  have p1 : Aside0 (value_Piece.f 200 80 49 = some 80) := ⟨by decide +kernel⟩
  have p2 : Aside0 (value_Piece.f 200 80 40 = some 30) := ⟨by decide +kernel⟩
  have p3 : Aside0 (value_Piece.f 200 112 40 = some 80) := ⟨by decide +kernel⟩
  have p4 : Aside0 (value_Piece.f 200 110 82 = some 91) := ⟨by decide +kernel⟩
  have p5 : Aside0 (value_Piece.f 200 75 4 = some 0) := ⟨by decide +kernel⟩
  have m1 : Aside0 (value_Moved.f 200 0 80 40 49 112 = some (-80)) := ⟨by decide +kernel⟩
  unfold startV at v1
  have hB0 : Below w.heap.size w (w.alloc (.cells #[.string ⟨#[82, 78, 66, 65, 75, 65, 66, 78, 82, 46, 46, 46, 46, 46, 46, 46, 46, 46, 46, 67, 46, 46, 46, 46, 46, 67, 46, 80, 46, 80, 46, 80, 46, 80, 46, 80, 46, 46, 46, 46, 46, 46, 46, 46, 46, 46, 46, 46, 46, 46, 46, 46, 46, 46, 112, 46, 112, 46, 112, 46, 112, 46, 112, 46, 99, 46, 46, 46, 46, 46, 99, 46, 46, 46, 46, 46, 46, 46, 46, 46, 46, 114, 110, 98, 97, 107, 97, 98, 110, 114]⟩, .int .i64 0, .int .i64 0, .int .i64 1] 29)) := (Below.refl _ w).alloc (Nat.le_refl _) _
  go_enter Try.func36, Try.ntmps36
  go_wp2_with (first
    | (go_at_call 37; (with_reducible refine (value_Of.calls _ _ _ _ 0 _ v1.out).mono ?_); rintro e w1 ⟨rfl, hb⟩; have hB1 := hB0.trans (hb.mono hB0.size); clear hb)
    | (go_at_call 32; (with_reducible refine (value_Kind.calls 114 200 _ k1.out).mono ?_); rintro e w2 ⟨rfl, hb⟩; have hB2 := hB1.trans (hb.mono hB1.size); clear hb)
    | (go_at_call 32; (with_reducible refine (value_Kind.calls 46 0 _ k2.out).mono ?_); rintro e w3 ⟨rfl, hb⟩; have hB3 := hB2.trans (hb.mono hB2.size); clear hb)
    | (go_at_call 34; (with_reducible refine (value_Piece.calls 200 80 49 80 _ p1.out).mono ?_); rintro e w4 ⟨rfl, hb⟩; have hB4 := hB3.trans (hb.mono hB3.size); clear hb)
    | (go_at_call 34; (with_reducible refine (value_Piece.calls 200 80 40 30 _ p2.out).mono ?_); rintro e w5 ⟨rfl, hb⟩; have hB5 := hB4.trans (hb.mono hB4.size); clear hb)
    | (go_at_call 34; (with_reducible refine (value_Piece.calls 200 112 40 80 _ p3.out).mono ?_); rintro e w6 ⟨rfl, hb⟩; have hB6 := hB5.trans (hb.mono hB5.size); clear hb)
    | (go_at_call 34; (with_reducible refine (value_Piece.calls 200 110 82 91 _ p4.out).mono ?_); rintro e w7 ⟨rfl, hb⟩; have hB7 := hB6.trans (hb.mono hB6.size); clear hb)
    | (go_at_call 34; (with_reducible refine (value_Piece.calls 200 75 4 0 _ p5.out).mono ?_); rintro e w8 ⟨rfl, hb⟩; have hB8 := hB7.trans (hb.mono hB7.size); clear hb)
    | (go_at_call 39; (with_reducible refine (value_Moved.calls 200 0 80 40 49 112 (-80) _ m1.out).mono ?_); rintro e w9 ⟨rfl, hb⟩; have hB9 := hB8.trans (hb.mono hB8.size); clear hb))
  go_ret
  exact ⟨rfl, hB9⟩

end Go.Proofs.Ytmfbgcimfmgobaa.Print

-- of YtmfbgcimfmgobaaPrint34
-- Written by a program of this session (wip/gprint/gprint.py) over the kit's print; the parts marked GIVEN by hand.
namespace Go.Proofs.Ytmfbgcimfmgobaa.Print
open Go.RowKit Go.Proofs.YtmfbgcimfmgobaaW.PrintWords Go.Proofs.YtmfbgcimfmgobaaW.PrintLast Go.Proofs.YtmfbgcimfmgobaaW.PrintMore
attribute [local go_sem] max2_int min2_int max_two min_two max_three min_three max_four min_four   -- for this text's walks alone
set_option linter.unusedVariables false
set_option linter.unusedSimpArgs false
/-! ### riverbankref14_Of: function 38 -/
def riverbankref14_Of.l0 : Nat → Int → Int → ByteArray → Int → Int → Int → Option (Int)
  | 0, _, _, _, _, _, _ => none
  | k + 1, x3, x4, x341000, x341001, x341002, x341003 => if x4 < 90 then (if 0 ≤ x4 then (if x4 < (x341000.size : Int) then ((riverbankref02_Side.f k (bt x341000 x4)).bind fun t342 => (if ((t342 == 0) == (x341001 == 0)) = true then ((riverbankref14_Piece.f k (bt x341000 x4) x4).bind fun t343 => (riverbankref14_Of.l0 k (wrap64 (x3 + t343)) (wrap64 (x4 + 1)) x341000 x341001 x341002 x341003)) else ((riverbankref14_Piece.f k (bt x341000 x4) x4).bind fun t344 => (riverbankref14_Of.l0 k (wrap64 (x3 - t344)) (wrap64 (x4 + 1)) x341000 x341001 x341002 x341003)))) else (none)) else (none)) else (some x3)
def riverbankref14_Of.f (k : Nat) (a0_0 : ByteArray) (a0_1 : Int) (a0_2 : Int) (a0_3 : Int) : Option (Int) := (riverbankref02_Is.f k a0_0).bind fun t341 => (if t341 = true then (riverbankref14_Of.l0 k 0 0 a0_0 a0_1 a0_2 a0_3) else (some 0))
theorem riverbankref14_Of.mono_l : ∀ k, (∀ y0 y1 y2 y3 y4 y5, LeO (riverbankref14_Of.l0 k y0 y1 y2 y3 y4 y5) (riverbankref14_Of.l0 (k + 1) y0 y1 y2 y3 y4 y5))
  | 0 => fun _ _ _ _ _ _ r h => by simp [riverbankref14_Of.l0] at h
  | k + 1 => by
    have ih0 := riverbankref14_Of.mono_l k
    · intro y0 y1 y2 y3 y4 y5
      unfold riverbankref14_Of.l0
      repeat' first
      | (with_reducible exact ih0 _ _ _ _ _ _)
      | (with_reducible exact riverbankref02_Is.mono _ _)
      | (with_reducible exact riverbankref02_Side.mono _ _)
      | (with_reducible exact riverbankref14_Piece.mono _ _ _)
      | (with_reducible exact LeO.refl _)
      | (with_reducible exact LeO.none _)
      | (with_reducible refine LeO.ite ?_ ?_)
      | (with_reducible refine LeO.bind ?_ (fun _ => ?_))
      | exact ih0 _ _ _ _ _ _
      | exact riverbankref02_Is.mono _ _
      | exact riverbankref02_Side.mono _ _
      | exact riverbankref14_Piece.mono _ _ _
      | exact LeO.none _
      | refine LeO.ite ?_ ?_
      | refine LeO.bind ?_ (fun _ => ?_)
theorem riverbankref14_Of.mono : ∀ a0 a1 a2 a3 k, LeO (riverbankref14_Of.f k a0 a1 a2 a3) (riverbankref14_Of.f (k + 1) a0 a1 a2 a3) := by
  intro a0 a1 a2 a3 k
  have ih0 := riverbankref14_Of.mono_l k
  unfold riverbankref14_Of.f
  repeat' first
      | (with_reducible exact ih0 _ _ _ _ _ _)
      | (with_reducible exact riverbankref02_Is.mono _ _)
      | (with_reducible exact riverbankref02_Side.mono _ _)
      | (with_reducible exact riverbankref14_Piece.mono _ _ _)
      | (with_reducible exact LeO.refl _)
      | (with_reducible exact LeO.none _)
      | (with_reducible refine LeO.ite ?_ ?_)
      | (with_reducible refine LeO.bind ?_ (fun _ => ?_))
      | exact ih0 _ _ _ _ _ _
      | exact riverbankref02_Is.mono _ _
      | exact riverbankref02_Side.mono _ _
      | exact riverbankref14_Piece.mono _ _ _
      | exact LeO.none _
      | refine LeO.ite ?_ ?_
      | refine LeO.bind ?_ (fun _ => ?_)
set_option maxHeartbeats 8000000 in
set_option maxRecDepth 100000 in
theorem riverbankref14_Of.calls (k : Nat) (a0_0 : ByteArray) (a0_1 : Int) (a0_2 : Int) (a0_3 : Int) (r : Int) (w : World) (h : riverbankref14_Of.f k a0_0 a0_1 a0_2 a0_3 = some r) :
    Calls Try.prog 38 #[.agg #[.string a0_0, .int .i64 a0_1, .int .i64 a0_2, .int .i64 a0_3]] w fun e w' => e = .returned (.int .i64 r) ∧ Below w.heap.size w w' := by
  have hu29 := Try.underlying29
  have HB := Aside0.mk (Below.refl w.heap.size w)
  have H : ((riverbankref02_Is.f k a0_0).bind fun t341 => (if t341 = true then (riverbankref14_Of.l0 k 0 0 a0_0 a0_1 a0_2 a0_3) else (some 0))) = some r := h
  clear h
  replace H := Option.bind_eq_some_iff.mp H
  obtain ⟨t341, A20, H⟩ := H
  replace H : (if t341 = true then (riverbankref14_Of.l0 k 0 0 a0_0 a0_1 a0_2 a0_3) else (some 0)) = some r := H
  have A2 := Aside0.mk A20
  clear A20
  by_cases c3 : t341 = true
  · subst c3
    have H1 : (riverbankref14_Of.l0 k 0 0 a0_0 a0_1 a0_2 a0_3) = some r := by rw [if_pos rfl] at H; exact H
    clear H
    have H := H1
    clear H1
    have H' := Aside0.mk H
    clear H
    go_enter Try.func38, Try.ntmps38
    go_wp2_with (first | ((with_reducible refine gate_dst (N := 1) rfl ?_); refine box_event ?hg (N := 1) ?hd (cs := #[.string a0_0, .int .i64 a0_1, .int .i64 a0_2, .int .i64 a0_3]) (t := 29) ?hr ?_; (case hd => rfl); (case hg => rfl); (case hr => first | (go_simp; done) | (go_simp; rfl)); intro gb340 hg w4 hbox hb; have n0_ := Aside0.mk (below_step (by repeat (first | (with_reducible first | exact HB.out | apply below_alloc | apply pw_below_drewN | apply below_drew1) | exact HB.out)) hb); have n1_ := Aside0.mk (hbox); have n2_ := Aside0.mk ((by rw [hg]; exact (below_size (by repeat (first | (with_reducible first | exact HB.out | apply below_alloc | apply pw_below_drewN | apply below_drew1) | exact HB.out))) : w.heap.size ≤ gb340)); have n3_ := Aside0.mk ((by rw [hg]; exact (below_size (by repeat (first | (with_reducible first | exact HB.out | apply below_alloc | apply pw_below_drewN | apply below_drew1) | exact HB.out))) : w.heap.size ≤ gb340)); clear HB; have HB := n0_; have BK340 := n1_; have GW340 := n2_; have GE340 := n3_; clear n0_ n1_ n2_ n3_; clear hb hbox hg; have hcz5_0 : w4.cell? ⟨gb340, 0, none⟩ = some (.string a0_0) := (blk_cell BK340.out 0).trans rfl; have hcz5_1 : w4.cell? ⟨gb340, 1, none⟩ = some (.int .i64 a0_1) := (blk_cell BK340.out 1).trans rfl; have hcz5_2 : w4.cell? ⟨gb340, 2, none⟩ = some (.int .i64 a0_2) := (blk_cell BK340.out 2).trans rfl; have hcz5_3 : w4.cell? ⟨gb340, 3, none⟩ = some (.int .i64 a0_3) := (blk_cell BK340.out 3).trans rfl; have hfz5_0 := blk_frozen BK340.out 0; have hfz5_1 := blk_frozen BK340.out 1; have hfz5_2 := blk_frozen BK340.out 2; have hfz5_3 := blk_frozen BK340.out 3) | (go_at_call 25; (with_reducible refine (riverbankref02_Is.calls k a0_0 true _ A2.out).mono ?_); rintro e w' ⟨rfl, ⟨nd, rfl⟩⟩; (try first | exact ⟨rfl, _, World.drewN_drewN _ _ _⟩ | exact ⟨rfl, _, Eq.trans (World.drewN_drewN _ _ _) (congrArg (World.drewN _) (Nat.add_assoc _ _ _))⟩)))
    repeat (go_quiet (first | ((with_reducible refine gate_dst (N := 1) rfl ?_); refine box_event ?hg (N := 1) ?hd (cs := #[.string a0_0, .int .i64 a0_1, .int .i64 a0_2, .int .i64 a0_3]) (t := 29) ?hr ?_; (case hd => rfl); (case hg => rfl); (case hr => first | (go_simp; done) | (go_simp; rfl)); intro gb340 hg w4 hbox hb; have n0_ := Aside0.mk (below_step (by repeat (first | (with_reducible first | exact HB.out | apply below_alloc | apply pw_below_drewN | apply below_drew1) | exact HB.out)) hb); have n1_ := Aside0.mk (hbox); have n2_ := Aside0.mk ((by rw [hg]; exact (below_size (by repeat (first | (with_reducible first | exact HB.out | apply below_alloc | apply pw_below_drewN | apply below_drew1) | exact HB.out))) : w.heap.size ≤ gb340)); have n3_ := Aside0.mk ((by rw [hg]; exact (below_size (by repeat (first | (with_reducible first | exact HB.out | apply below_alloc | apply pw_below_drewN | apply below_drew1) | exact HB.out))) : w.heap.size ≤ gb340)); clear HB; have HB := n0_; have BK340 := n1_; have GW340 := n2_; have GE340 := n3_; clear n0_ n1_ n2_ n3_; clear hb hbox hg; have hcz5_0 : w4.cell? ⟨gb340, 0, none⟩ = some (.string a0_0) := (blk_cell BK340.out 0).trans rfl; have hcz5_1 : w4.cell? ⟨gb340, 1, none⟩ = some (.int .i64 a0_1) := (blk_cell BK340.out 1).trans rfl; have hcz5_2 : w4.cell? ⟨gb340, 2, none⟩ = some (.int .i64 a0_2) := (blk_cell BK340.out 2).trans rfl; have hcz5_3 : w4.cell? ⟨gb340, 3, none⟩ = some (.int .i64 a0_3) := (blk_cell BK340.out 3).trans rfl; have hfz5_0 := blk_frozen BK340.out 0; have hfz5_1 := blk_frozen BK340.out 1; have hfz5_2 := blk_frozen BK340.out 2; have hfz5_3 := blk_frozen BK340.out 3) | (go_at_call 25; (with_reducible refine (riverbankref02_Is.calls k a0_0 true _ A2.out).mono ?_); rintro e w' ⟨rfl, ⟨nd, rfl⟩⟩; (try first | exact ⟨rfl, _, World.drewN_drewN _ _ _⟩ | exact ⟨rfl, _, Eq.trans (World.drewN_drewN _ _ _) (congrArg (World.drewN _) (Nat.add_assoc _ _ _))⟩))); try go_wp2_with (first | ((with_reducible refine gate_dst (N := 1) rfl ?_); refine box_event ?hg (N := 1) ?hd (cs := #[.string a0_0, .int .i64 a0_1, .int .i64 a0_2, .int .i64 a0_3]) (t := 29) ?hr ?_; (case hd => rfl); (case hg => rfl); (case hr => first | (go_simp; done) | (go_simp; rfl)); intro gb340 hg w4 hbox hb; have n0_ := Aside0.mk (below_step (by repeat (first | (with_reducible first | exact HB.out | apply below_alloc | apply pw_below_drewN | apply below_drew1) | exact HB.out)) hb); have n1_ := Aside0.mk (hbox); have n2_ := Aside0.mk ((by rw [hg]; exact (below_size (by repeat (first | (with_reducible first | exact HB.out | apply below_alloc | apply pw_below_drewN | apply below_drew1) | exact HB.out))) : w.heap.size ≤ gb340)); have n3_ := Aside0.mk ((by rw [hg]; exact (below_size (by repeat (first | (with_reducible first | exact HB.out | apply below_alloc | apply pw_below_drewN | apply below_drew1) | exact HB.out))) : w.heap.size ≤ gb340)); clear HB; have HB := n0_; have BK340 := n1_; have GW340 := n2_; have GE340 := n3_; clear n0_ n1_ n2_ n3_; clear hb hbox hg; have hcz5_0 : w4.cell? ⟨gb340, 0, none⟩ = some (.string a0_0) := (blk_cell BK340.out 0).trans rfl; have hcz5_1 : w4.cell? ⟨gb340, 1, none⟩ = some (.int .i64 a0_1) := (blk_cell BK340.out 1).trans rfl; have hcz5_2 : w4.cell? ⟨gb340, 2, none⟩ = some (.int .i64 a0_2) := (blk_cell BK340.out 2).trans rfl; have hcz5_3 : w4.cell? ⟨gb340, 3, none⟩ = some (.int .i64 a0_3) := (blk_cell BK340.out 3).trans rfl; have hfz5_0 := blk_frozen BK340.out 0; have hfz5_1 := blk_frozen BK340.out 1; have hfz5_2 := blk_frozen BK340.out 2; have hfz5_3 := blk_frozen BK340.out 3) | (go_at_call 25; (with_reducible refine (riverbankref02_Is.calls k a0_0 true _ A2.out).mono ?_); rintro e w' ⟨rfl, ⟨nd, rfl⟩⟩; (try first | exact ⟨rfl, _, World.drewN_drewN _ _ _⟩ | exact ⟨rfl, _, Eq.trans (World.drewN_drewN _ _ _) (congrArg (World.drewN _) (Nat.add_assoc _ _ _))⟩))))
    go_loopg [3, 4] k (fun kq v3 v4 w' => ∃ (x3_1 : Int) (x4_1 : Int), v3 = .int .i64 x3_1 ∧ v4 = .int .i64 x4_1 ∧ Aside0 (riverbankref14_Of.l0 kq x3_1 x4_1 a0_0 a0_1 a0_2 a0_3 = some r) ∧ Aside0 (kq ≤ k) ∧ Aside0 (w'.heap[gb340]? = some (.cells #[.string a0_0, .int .i64 a0_1, .int .i64 a0_2, .int .i64 a0_3] 29 (0, 0))) ∧ Aside0 (Below w.heap.size w w'))
    case atStart => exact ⟨(0), (0), (by first | rfl | (simp; done) | (simp [*]; done)), (by first | rfl | (simp; done) | (simp [*]; done)), H', ⟨Nat.le_refl _⟩, ⟨by (with_reducible repeat (first | refine blk_drewN ?_ _ | refine blk_drew ?_ | refine blk_alloc ?_ _)); exact BK340.out⟩, ⟨by repeat (first | (with_reducible first | exact HB.out | apply below_alloc | apply pw_below_drewN | apply below_drew1 | refine below_set ?_ GE340.out) | exact HB.out)⟩⟩
    case round =>
      clear H'
      try clear p2
      try clear c3
      try clear hcz5_0
      try clear hcz5_1
      try clear hcz5_2
      try clear hcz5_3
      try clear hfz5_0
      try clear hfz5_1
      try clear hfz5_2
      try clear hfz5_3
      obtain ⟨x3_1, x4_1, rfl, rfl, HA, HK1, BK340, HB⟩ := hrel
      cases gk with
      | zero => exact absurd HA.out (by simp [riverbankref14_Of.l0])
      | succ k1 =>
        have H := HA.out
        clear HA
        simp only [riverbankref14_Of.l0] at H
        by_cases c6 : x4_1 < 90
        · rw [if_pos c6] at H
          have c6b0 : decide (x4_1 < 90) = true := decide_eq_true c6
          clear c6
          by_cases c7 : 0 ≤ x4_1
          · rw [if_pos c7] at H
            have c7b0 : decide (0 ≤ x4_1) = true := decide_eq_true c7
            clear c7
            by_cases c8 : x4_1 < (a0_0.size : Int)
            · rw [if_pos c8] at H
              have c8b0 : decide (x4_1 < (a0_0.size : Int)) = true := decide_eq_true c8
              clear c8
              replace H := Option.bind_eq_some_iff.mp H
              obtain ⟨t342, A100, H⟩ := H
              replace H : (if ((t342 == 0) == (a0_1 == 0)) = true then ((riverbankref14_Piece.f k1 (bt a0_0 x4_1) x4_1).bind fun t343 => (riverbankref14_Of.l0 k1 (wrap64 (x3_1 + t343)) (wrap64 (x4_1 + 1)) a0_0 a0_1 a0_2 a0_3)) else ((riverbankref14_Piece.f k1 (bt a0_0 x4_1) x4_1).bind fun t344 => (riverbankref14_Of.l0 k1 (wrap64 (x3_1 - t344)) (wrap64 (x4_1 + 1)) a0_0 a0_1 a0_2 a0_3))) = some r := H
              have A10 := Aside0.mk A100
              clear A100
              by_cases c11 : ((t342 == 0) == (a0_1 == 0)) = true
              · rw [if_pos c11] at H
                have c11b0 : ((t342 == 0) == (a0_1 == 0)) = true := c11
                (try (have c11b1 : decide ((t342 == 0) = (a0_1 == 0)) = true := by simpa using c11))
                (try (have c11b2 : ((t342 == 0) == (a0_1 == 0)) = true := by simpa using c11))
                clear c11
                replace H := Option.bind_eq_some_iff.mp H
                obtain ⟨t343, A120, H⟩ := H
                replace H : (riverbankref14_Of.l0 k1 (wrap64 (x3_1 + t343)) (wrap64 (x4_1 + 1)) a0_0 a0_1 a0_2 a0_3) = some r := H
                have A12 := Aside0.mk A120
                clear A120
                have H' := Aside0.mk H
                clear H
                have hcz13_0 : wr.cell? ⟨gb340, 0, none⟩ = some (.string a0_0) := (blk_cell BK340.out 0).trans rfl
                have hcz13_1 : wr.cell? ⟨gb340, 1, none⟩ = some (.int .i64 a0_1) := (blk_cell BK340.out 1).trans rfl
                have hcz13_2 : wr.cell? ⟨gb340, 2, none⟩ = some (.int .i64 a0_2) := (blk_cell BK340.out 2).trans rfl
                have hcz13_3 : wr.cell? ⟨gb340, 3, none⟩ = some (.int .i64 a0_3) := (blk_cell BK340.out 3).trans rfl
                have hfz13_0 := blk_frozen BK340.out 0
                have hfz13_1 := blk_frozen BK340.out 1
                have hfz13_2 := blk_frozen BK340.out 2
                have hfz13_3 := blk_frozen BK340.out 3
                have p9 : 0 ≤ (x4_1 : Int) := of_decide_eq_true (by first | (with_reducible assumption) | assumption)
                have q9 : x4_1 < (a0_0.size : Int) := of_decide_eq_true (by first | (with_reducible assumption) | assumption)
                have hx9 := bt_at a0_0 x4_1
                replace p9 := eq_true p9
                replace q9 := eq_true q9
                go_wp2_with (first | (go_at_call 26; (with_reducible refine (riverbankref02_Side.calls k1 (bt a0_0 x4_1) t342 _ A10.out).mono ?_); rintro e w' ⟨rfl, ⟨nd, rfl⟩⟩; (try first | exact ⟨rfl, _, World.drewN_drewN _ _ _⟩ | exact ⟨rfl, _, Eq.trans (World.drewN_drewN _ _ _) (congrArg (World.drewN _) (Nat.add_assoc _ _ _))⟩)) | (go_at_call 35; (with_reducible refine (riverbankref14_Piece.calls k1 (bt a0_0 x4_1) x4_1 t343 _ A12.out).mono ?_); rintro e w14 ⟨rfl, hb⟩; have n0_ := Aside0.mk (blk_below (g := gb340) (o := .cells #[.string a0_0, .int .i64 a0_1, .int .i64 a0_2, .int .i64 a0_3] 29 (0, 0)) (by (with_reducible repeat (first | refine blk_drewN ?_ _ | refine blk_drew ?_ | refine blk_alloc ?_ _)); exact BK340.out) hb); have n1_ := Aside0.mk (below_step (by repeat (first | (with_reducible first | exact HB.out | apply below_alloc | apply pw_below_drewN | apply below_drew1 | refine below_set ?_ GE340.out) | exact HB.out)) hb); clear BK340; clear HB; have BK340 := n0_; have HB := n1_; clear n0_ n1_; (try clear hb); (try clear hb2); (try clear hk); (try clear hi)))
                repeat (go_quiet (first | (go_at_call 26; (with_reducible refine (riverbankref02_Side.calls k1 (bt a0_0 x4_1) t342 _ A10.out).mono ?_); rintro e w' ⟨rfl, ⟨nd, rfl⟩⟩; (try first | exact ⟨rfl, _, World.drewN_drewN _ _ _⟩ | exact ⟨rfl, _, Eq.trans (World.drewN_drewN _ _ _) (congrArg (World.drewN _) (Nat.add_assoc _ _ _))⟩)) | (go_at_call 35; (with_reducible refine (riverbankref14_Piece.calls k1 (bt a0_0 x4_1) x4_1 t343 _ A12.out).mono ?_); rintro e w14 ⟨rfl, hb⟩; have n0_ := Aside0.mk (blk_below (g := gb340) (o := .cells #[.string a0_0, .int .i64 a0_1, .int .i64 a0_2, .int .i64 a0_3] 29 (0, 0)) (by (with_reducible repeat (first | refine blk_drewN ?_ _ | refine blk_drew ?_ | refine blk_alloc ?_ _)); exact BK340.out) hb); have n1_ := Aside0.mk (below_step (by repeat (first | (with_reducible first | exact HB.out | apply below_alloc | apply pw_below_drewN | apply below_drew1 | refine below_set ?_ GE340.out) | exact HB.out)) hb); clear BK340; clear HB; have BK340 := n0_; have HB := n1_; clear n0_ n1_; (try clear hb); (try clear hb2); (try clear hk); (try clear hi))); try go_wp2_with (first | (go_at_call 26; (with_reducible refine (riverbankref02_Side.calls k1 (bt a0_0 x4_1) t342 _ A10.out).mono ?_); rintro e w' ⟨rfl, ⟨nd, rfl⟩⟩; (try first | exact ⟨rfl, _, World.drewN_drewN _ _ _⟩ | exact ⟨rfl, _, Eq.trans (World.drewN_drewN _ _ _) (congrArg (World.drewN _) (Nat.add_assoc _ _ _))⟩)) | (go_at_call 35; (with_reducible refine (riverbankref14_Piece.calls k1 (bt a0_0 x4_1) x4_1 t343 _ A12.out).mono ?_); rintro e w14 ⟨rfl, hb⟩; have n0_ := Aside0.mk (blk_below (g := gb340) (o := .cells #[.string a0_0, .int .i64 a0_1, .int .i64 a0_2, .int .i64 a0_3] 29 (0, 0)) (by (with_reducible repeat (first | refine blk_drewN ?_ _ | refine blk_drew ?_ | refine blk_alloc ?_ _)); exact BK340.out) hb); have n1_ := Aside0.mk (below_step (by repeat (first | (with_reducible first | exact HB.out | apply below_alloc | apply pw_below_drewN | apply below_drew1 | refine below_set ?_ GE340.out) | exact HB.out)) hb); clear BK340; clear HB; have BK340 := n0_; have HB := n1_; clear n0_ n1_; (try clear hb); (try clear hb2); (try clear hk); (try clear hi))))
                go_roundg k1
                case measure => have := HK1.out; omega
                case rel => exact ⟨(wrap64 (x3_1 + t343)), (wrap64 (x4_1 + 1)), (by first | rfl | (simp; done) | (simp [*]; done)), (by first | rfl | (simp; done) | (simp [*]; done)), H', ⟨by have := HK1.out; omega⟩, ⟨by (with_reducible repeat (first | refine blk_drewN ?_ _ | refine blk_drew ?_ | refine blk_alloc ?_ _)); exact BK340.out⟩, ⟨by repeat (first | (with_reducible first | exact HB.out | apply below_alloc | apply pw_below_drewN | apply below_drew1 | refine below_set ?_ GE340.out) | exact HB.out)⟩⟩
              · rw [if_neg c11] at H
                have c11b0 : ((t342 == 0) == (a0_1 == 0)) = false := by simpa using c11
                (try (have c11b1 : decide ((t342 == 0) = (a0_1 == 0)) = false := by simpa using c11))
                (try (have c11b2 : ((t342 == 0) == (a0_1 == 0)) = false := by simpa using c11))
                (try (have c11b3 : ¬ ((t342 == 0) = (a0_1 == 0)) := by simpa using c11))
                clear c11
                replace H := Option.bind_eq_some_iff.mp H
                obtain ⟨t344, A150, H⟩ := H
                replace H : (riverbankref14_Of.l0 k1 (wrap64 (x3_1 - t344)) (wrap64 (x4_1 + 1)) a0_0 a0_1 a0_2 a0_3) = some r := H
                have A15 := Aside0.mk A150
                clear A150
                have H' := Aside0.mk H
                clear H
                have hcz16_0 : wr.cell? ⟨gb340, 0, none⟩ = some (.string a0_0) := (blk_cell BK340.out 0).trans rfl
                have hcz16_1 : wr.cell? ⟨gb340, 1, none⟩ = some (.int .i64 a0_1) := (blk_cell BK340.out 1).trans rfl
                have hcz16_2 : wr.cell? ⟨gb340, 2, none⟩ = some (.int .i64 a0_2) := (blk_cell BK340.out 2).trans rfl
                have hcz16_3 : wr.cell? ⟨gb340, 3, none⟩ = some (.int .i64 a0_3) := (blk_cell BK340.out 3).trans rfl
                have hfz16_0 := blk_frozen BK340.out 0
                have hfz16_1 := blk_frozen BK340.out 1
                have hfz16_2 := blk_frozen BK340.out 2
                have hfz16_3 := blk_frozen BK340.out 3
                have p9 : 0 ≤ (x4_1 : Int) := of_decide_eq_true (by first | (with_reducible assumption) | assumption)
                have q9 : x4_1 < (a0_0.size : Int) := of_decide_eq_true (by first | (with_reducible assumption) | assumption)
                have hx9 := bt_at a0_0 x4_1
                replace p9 := eq_true p9
                replace q9 := eq_true q9
                go_wp2_with (first | (go_at_call 26; (with_reducible refine (riverbankref02_Side.calls k1 (bt a0_0 x4_1) t342 _ A10.out).mono ?_); rintro e w' ⟨rfl, ⟨nd, rfl⟩⟩; (try first | exact ⟨rfl, _, World.drewN_drewN _ _ _⟩ | exact ⟨rfl, _, Eq.trans (World.drewN_drewN _ _ _) (congrArg (World.drewN _) (Nat.add_assoc _ _ _))⟩)) | (go_at_call 35; (with_reducible refine (riverbankref14_Piece.calls k1 (bt a0_0 x4_1) x4_1 t344 _ A15.out).mono ?_); rintro e w17 ⟨rfl, hb⟩; have n0_ := Aside0.mk (blk_below (g := gb340) (o := .cells #[.string a0_0, .int .i64 a0_1, .int .i64 a0_2, .int .i64 a0_3] 29 (0, 0)) (by (with_reducible repeat (first | refine blk_drewN ?_ _ | refine blk_drew ?_ | refine blk_alloc ?_ _)); exact BK340.out) hb); have n1_ := Aside0.mk (below_step (by repeat (first | (with_reducible first | exact HB.out | apply below_alloc | apply pw_below_drewN | apply below_drew1 | refine below_set ?_ GE340.out) | exact HB.out)) hb); clear BK340; clear HB; have BK340 := n0_; have HB := n1_; clear n0_ n1_; (try clear hb); (try clear hb2); (try clear hk); (try clear hi)))
                repeat (go_quiet (first | (go_at_call 26; (with_reducible refine (riverbankref02_Side.calls k1 (bt a0_0 x4_1) t342 _ A10.out).mono ?_); rintro e w' ⟨rfl, ⟨nd, rfl⟩⟩; (try first | exact ⟨rfl, _, World.drewN_drewN _ _ _⟩ | exact ⟨rfl, _, Eq.trans (World.drewN_drewN _ _ _) (congrArg (World.drewN _) (Nat.add_assoc _ _ _))⟩)) | (go_at_call 35; (with_reducible refine (riverbankref14_Piece.calls k1 (bt a0_0 x4_1) x4_1 t344 _ A15.out).mono ?_); rintro e w17 ⟨rfl, hb⟩; have n0_ := Aside0.mk (blk_below (g := gb340) (o := .cells #[.string a0_0, .int .i64 a0_1, .int .i64 a0_2, .int .i64 a0_3] 29 (0, 0)) (by (with_reducible repeat (first | refine blk_drewN ?_ _ | refine blk_drew ?_ | refine blk_alloc ?_ _)); exact BK340.out) hb); have n1_ := Aside0.mk (below_step (by repeat (first | (with_reducible first | exact HB.out | apply below_alloc | apply pw_below_drewN | apply below_drew1 | refine below_set ?_ GE340.out) | exact HB.out)) hb); clear BK340; clear HB; have BK340 := n0_; have HB := n1_; clear n0_ n1_; (try clear hb); (try clear hb2); (try clear hk); (try clear hi))); try go_wp2_with (first | (go_at_call 26; (with_reducible refine (riverbankref02_Side.calls k1 (bt a0_0 x4_1) t342 _ A10.out).mono ?_); rintro e w' ⟨rfl, ⟨nd, rfl⟩⟩; (try first | exact ⟨rfl, _, World.drewN_drewN _ _ _⟩ | exact ⟨rfl, _, Eq.trans (World.drewN_drewN _ _ _) (congrArg (World.drewN _) (Nat.add_assoc _ _ _))⟩)) | (go_at_call 35; (with_reducible refine (riverbankref14_Piece.calls k1 (bt a0_0 x4_1) x4_1 t344 _ A15.out).mono ?_); rintro e w17 ⟨rfl, hb⟩; have n0_ := Aside0.mk (blk_below (g := gb340) (o := .cells #[.string a0_0, .int .i64 a0_1, .int .i64 a0_2, .int .i64 a0_3] 29 (0, 0)) (by (with_reducible repeat (first | refine blk_drewN ?_ _ | refine blk_drew ?_ | refine blk_alloc ?_ _)); exact BK340.out) hb); have n1_ := Aside0.mk (below_step (by repeat (first | (with_reducible first | exact HB.out | apply below_alloc | apply pw_below_drewN | apply below_drew1 | refine below_set ?_ GE340.out) | exact HB.out)) hb); clear BK340; clear HB; have BK340 := n0_; have HB := n1_; clear n0_ n1_; (try clear hb); (try clear hb2); (try clear hk); (try clear hi))))
                go_roundg k1
                case measure => have := HK1.out; omega
                case rel => exact ⟨(wrap64 (x3_1 - t344)), (wrap64 (x4_1 + 1)), (by first | rfl | (simp; done) | (simp [*]; done)), (by first | rfl | (simp; done) | (simp [*]; done)), H', ⟨by have := HK1.out; omega⟩, ⟨by (with_reducible repeat (first | refine blk_drewN ?_ _ | refine blk_drew ?_ | refine blk_alloc ?_ _)); exact BK340.out⟩, ⟨by repeat (first | (with_reducible first | exact HB.out | apply below_alloc | apply pw_below_drewN | apply below_drew1 | refine below_set ?_ GE340.out) | exact HB.out)⟩⟩
            · rw [if_neg c8] at H
              exact absurd H (by simp)
          · rw [if_neg c7] at H
            exact absurd H (by simp)
        · rw [if_neg c6] at H
          have c6b0 : decide (x4_1 < 90) = false := decide_eq_false c6
          clear c6
          obtain rfl := Option.some.inj H
          go_wp2
          repeat (go_quiet (fail); try go_wp2)
          go_ret
          exact ⟨by first | rfl | (simp [errW_none, errW_some] <;> rfl) | (simp [*, errW_none, errW_some] <;> rfl), by repeat (first | (with_reducible first | exact HB.out | apply below_alloc | apply pw_below_drewN | apply below_drew1 | refine below_set ?_ GE340.out) | exact HB.out)⟩
  · replace c3 := Bool.eq_false_iff.mpr c3
    subst c3
    have H1 : (some 0) = some r := by rw [if_neg (show ¬ (false = true) by decide)] at H; exact H
    clear H
    have H := H1
    clear H1
    obtain rfl := Option.some.inj H
    go_enter Try.func38, Try.ntmps38
    go_wp2_with (first | ((with_reducible refine gate_dst (N := 1) rfl ?_); refine box_event ?hg (N := 1) ?hd (cs := #[.string a0_0, .int .i64 a0_1, .int .i64 a0_2, .int .i64 a0_3]) (t := 29) ?hr ?_; (case hd => rfl); (case hg => rfl); (case hr => first | (go_simp; done) | (go_simp; rfl)); intro gb340 hg w18 hbox hb; have n0_ := Aside0.mk (below_step (by repeat (first | (with_reducible first | exact HB.out | apply below_alloc | apply pw_below_drewN | apply below_drew1) | exact HB.out)) hb); have n1_ := Aside0.mk (hbox); have n2_ := Aside0.mk ((by rw [hg]; exact (below_size (by repeat (first | (with_reducible first | exact HB.out | apply below_alloc | apply pw_below_drewN | apply below_drew1) | exact HB.out))) : w.heap.size ≤ gb340)); have n3_ := Aside0.mk ((by rw [hg]; exact (below_size (by repeat (first | (with_reducible first | exact HB.out | apply below_alloc | apply pw_below_drewN | apply below_drew1) | exact HB.out))) : w.heap.size ≤ gb340)); clear HB; have HB := n0_; have BK340 := n1_; have GW340 := n2_; have GE340 := n3_; clear n0_ n1_ n2_ n3_; clear hb hbox hg; have hcz19_0 : w18.cell? ⟨gb340, 0, none⟩ = some (.string a0_0) := (blk_cell BK340.out 0).trans rfl; have hcz19_1 : w18.cell? ⟨gb340, 1, none⟩ = some (.int .i64 a0_1) := (blk_cell BK340.out 1).trans rfl; have hcz19_2 : w18.cell? ⟨gb340, 2, none⟩ = some (.int .i64 a0_2) := (blk_cell BK340.out 2).trans rfl; have hcz19_3 : w18.cell? ⟨gb340, 3, none⟩ = some (.int .i64 a0_3) := (blk_cell BK340.out 3).trans rfl; have hfz19_0 := blk_frozen BK340.out 0; have hfz19_1 := blk_frozen BK340.out 1; have hfz19_2 := blk_frozen BK340.out 2; have hfz19_3 := blk_frozen BK340.out 3) | (go_at_call 25; (with_reducible refine (riverbankref02_Is.calls k a0_0 false _ A2.out).mono ?_); rintro e w' ⟨rfl, ⟨nd, rfl⟩⟩; (try first | exact ⟨rfl, _, World.drewN_drewN _ _ _⟩ | exact ⟨rfl, _, Eq.trans (World.drewN_drewN _ _ _) (congrArg (World.drewN _) (Nat.add_assoc _ _ _))⟩)))
    repeat (go_quiet (first | ((with_reducible refine gate_dst (N := 1) rfl ?_); refine box_event ?hg (N := 1) ?hd (cs := #[.string a0_0, .int .i64 a0_1, .int .i64 a0_2, .int .i64 a0_3]) (t := 29) ?hr ?_; (case hd => rfl); (case hg => rfl); (case hr => first | (go_simp; done) | (go_simp; rfl)); intro gb340 hg w18 hbox hb; have n0_ := Aside0.mk (below_step (by repeat (first | (with_reducible first | exact HB.out | apply below_alloc | apply pw_below_drewN | apply below_drew1) | exact HB.out)) hb); have n1_ := Aside0.mk (hbox); have n2_ := Aside0.mk ((by rw [hg]; exact (below_size (by repeat (first | (with_reducible first | exact HB.out | apply below_alloc | apply pw_below_drewN | apply below_drew1) | exact HB.out))) : w.heap.size ≤ gb340)); have n3_ := Aside0.mk ((by rw [hg]; exact (below_size (by repeat (first | (with_reducible first | exact HB.out | apply below_alloc | apply pw_below_drewN | apply below_drew1) | exact HB.out))) : w.heap.size ≤ gb340)); clear HB; have HB := n0_; have BK340 := n1_; have GW340 := n2_; have GE340 := n3_; clear n0_ n1_ n2_ n3_; clear hb hbox hg; have hcz19_0 : w18.cell? ⟨gb340, 0, none⟩ = some (.string a0_0) := (blk_cell BK340.out 0).trans rfl; have hcz19_1 : w18.cell? ⟨gb340, 1, none⟩ = some (.int .i64 a0_1) := (blk_cell BK340.out 1).trans rfl; have hcz19_2 : w18.cell? ⟨gb340, 2, none⟩ = some (.int .i64 a0_2) := (blk_cell BK340.out 2).trans rfl; have hcz19_3 : w18.cell? ⟨gb340, 3, none⟩ = some (.int .i64 a0_3) := (blk_cell BK340.out 3).trans rfl; have hfz19_0 := blk_frozen BK340.out 0; have hfz19_1 := blk_frozen BK340.out 1; have hfz19_2 := blk_frozen BK340.out 2; have hfz19_3 := blk_frozen BK340.out 3) | (go_at_call 25; (with_reducible refine (riverbankref02_Is.calls k a0_0 false _ A2.out).mono ?_); rintro e w' ⟨rfl, ⟨nd, rfl⟩⟩; (try first | exact ⟨rfl, _, World.drewN_drewN _ _ _⟩ | exact ⟨rfl, _, Eq.trans (World.drewN_drewN _ _ _) (congrArg (World.drewN _) (Nat.add_assoc _ _ _))⟩))); try go_wp2_with (first | ((with_reducible refine gate_dst (N := 1) rfl ?_); refine box_event ?hg (N := 1) ?hd (cs := #[.string a0_0, .int .i64 a0_1, .int .i64 a0_2, .int .i64 a0_3]) (t := 29) ?hr ?_; (case hd => rfl); (case hg => rfl); (case hr => first | (go_simp; done) | (go_simp; rfl)); intro gb340 hg w18 hbox hb; have n0_ := Aside0.mk (below_step (by repeat (first | (with_reducible first | exact HB.out | apply below_alloc | apply pw_below_drewN | apply below_drew1) | exact HB.out)) hb); have n1_ := Aside0.mk (hbox); have n2_ := Aside0.mk ((by rw [hg]; exact (below_size (by repeat (first | (with_reducible first | exact HB.out | apply below_alloc | apply pw_below_drewN | apply below_drew1) | exact HB.out))) : w.heap.size ≤ gb340)); have n3_ := Aside0.mk ((by rw [hg]; exact (below_size (by repeat (first | (with_reducible first | exact HB.out | apply below_alloc | apply pw_below_drewN | apply below_drew1) | exact HB.out))) : w.heap.size ≤ gb340)); clear HB; have HB := n0_; have BK340 := n1_; have GW340 := n2_; have GE340 := n3_; clear n0_ n1_ n2_ n3_; clear hb hbox hg; have hcz19_0 : w18.cell? ⟨gb340, 0, none⟩ = some (.string a0_0) := (blk_cell BK340.out 0).trans rfl; have hcz19_1 : w18.cell? ⟨gb340, 1, none⟩ = some (.int .i64 a0_1) := (blk_cell BK340.out 1).trans rfl; have hcz19_2 : w18.cell? ⟨gb340, 2, none⟩ = some (.int .i64 a0_2) := (blk_cell BK340.out 2).trans rfl; have hcz19_3 : w18.cell? ⟨gb340, 3, none⟩ = some (.int .i64 a0_3) := (blk_cell BK340.out 3).trans rfl; have hfz19_0 := blk_frozen BK340.out 0; have hfz19_1 := blk_frozen BK340.out 1; have hfz19_2 := blk_frozen BK340.out 2; have hfz19_3 := blk_frozen BK340.out 3) | (go_at_call 25; (with_reducible refine (riverbankref02_Is.calls k a0_0 false _ A2.out).mono ?_); rintro e w' ⟨rfl, ⟨nd, rfl⟩⟩; (try first | exact ⟨rfl, _, World.drewN_drewN _ _ _⟩ | exact ⟨rfl, _, Eq.trans (World.drewN_drewN _ _ _) (congrArg (World.drewN _) (Nat.add_assoc _ _ _))⟩))))
    go_ret
    exact ⟨by first | rfl | (simp [errW_none, errW_some] <;> rfl) | (simp [*, errW_none, errW_some] <;> rfl), by repeat (first | (with_reducible first | exact HB.out | apply below_alloc | apply pw_below_drewN | apply below_drew1 | refine below_set ?_ GE340.out) | exact HB.out)⟩

/-! ### riverbankref14_Moved: function 40 -/
def riverbankref14_Moved.f (k : Nat) (a0 : Int) (a1 : Int) (a2_0 : Int) (a2_1 : Int) (a3 : Int) : Option (Int) := (riverbankref14_Piece.f k a1 a2_0).bind fun t346 => ((riverbankref14_Piece.f k a1 a2_1).bind fun t347 => ((riverbankref14_Piece.f k a3 a2_1).bind fun t348 => (some (wrap64 (-(wrap64 ((wrap64 ((wrap64 (a0 - t346)) + t347)) + t348)))))))
theorem riverbankref14_Moved.mono : ∀ a0 a1 a2 a3 a4 k, LeO (riverbankref14_Moved.f k a0 a1 a2 a3 a4) (riverbankref14_Moved.f (k + 1) a0 a1 a2 a3 a4) := by
  intro a0 a1 a2 a3 a4 k
  unfold riverbankref14_Moved.f
  repeat' first
      | (with_reducible exact riverbankref14_Piece.mono _ _ _)
      | (with_reducible exact LeO.refl _)
      | (with_reducible exact LeO.none _)
      | (with_reducible refine LeO.ite ?_ ?_)
      | (with_reducible refine LeO.bind ?_ (fun _ => ?_))
      | exact riverbankref14_Piece.mono _ _ _
      | exact LeO.none _
      | refine LeO.ite ?_ ?_
      | refine LeO.bind ?_ (fun _ => ?_)
def riverbankref14_Moved.T1 : Bool × List (List Nat × List Nat) := (true, [([], []), ([], []), ([], []), ([2], [2]), ([1, 3], [1, 3]), ([0, 4], [0, 4]), ([], []), ([], []), ([7], [7]), ([6, 8, 4], [6, 8]), ([5, 9], [5, 9]), ([], []), ([], []), ([12], [12]), ([11, 13, 9], [11, 13]), ([10, 14], [10, 14]), ([15], [15]), ([16, 14, 0, 1, 2, 3, 4, 5, 6, 7, 8, 9, 10, 11, 12, 13, 14, 15, 16], [16])])
def riverbankref14_Moved.B1 : List Nat := [0, 0, 0, 4, 14, 31, 0, 0, 128, 478, 1023, 0, 0, 4096, 15326, 32767, 65535, 131071]
theorem riverbankref14_Moved.tab1 : rtab .any (opsOf Try.f40 1) = riverbankref14_Moved.T1 := by kernel_rfl
theorem riverbankref14_Moved.bits1 : waitsOk riverbankref14_Moved.T1.2 riverbankref14_Moved.B1 = true := by kernel_rfl
set_option maxHeartbeats 8000000 in
set_option maxRecDepth 100000 in
theorem riverbankref14_Moved.calls (k : Nat) (a0 : Int) (a1 : Int) (a2_0 : Int) (a2_1 : Int) (a3 : Int) (r : Int) (w : World) (h : riverbankref14_Moved.f k a0 a1 a2_0 a2_1 a3 = some r) :
    Calls Try.prog 40 #[.int .i64 a0, .int .u8 a1, .agg #[.int .i64 a2_0, .int .i64 a2_1], .int .u8 a3] w fun e w' => e = .returned (.int .i64 r) ∧ Below w.heap.size w w' := by
  have hu41 := Try.underlying41
  have HB := Aside0.mk (Below.refl w.heap.size w)
  have H : ((riverbankref14_Piece.f k a1 a2_0).bind fun t346 => ((riverbankref14_Piece.f k a1 a2_1).bind fun t347 => ((riverbankref14_Piece.f k a3 a2_1).bind fun t348 => (some (wrap64 (-(wrap64 ((wrap64 ((wrap64 (a0 - t346)) + t347)) + t348)))))))) = some r := h
  clear h
  replace H := Option.bind_eq_some_iff.mp H
  obtain ⟨t346, A50, H⟩ := H
  replace H : ((riverbankref14_Piece.f k a1 a2_1).bind fun t347 => ((riverbankref14_Piece.f k a3 a2_1).bind fun t348 => (some (wrap64 (-(wrap64 ((wrap64 ((wrap64 (a0 - t346)) + t347)) + t348))))))) = some r := H
  have A5 := Aside0.mk A50
  clear A50
  replace H := Option.bind_eq_some_iff.mp H
  obtain ⟨t347, A60, H⟩ := H
  replace H : ((riverbankref14_Piece.f k a3 a2_1).bind fun t348 => (some (wrap64 (-(wrap64 ((wrap64 ((wrap64 (a0 - t346)) + t347)) + t348)))))) = some r := H
  have A6 := Aside0.mk A60
  clear A60
  replace H := Option.bind_eq_some_iff.mp H
  obtain ⟨t348, A70, H⟩ := H
  replace H : (some (wrap64 (-(wrap64 ((wrap64 ((wrap64 (a0 - t346)) + t347)) + t348))))) = some r := H
  have A7 := Aside0.mk A70
  clear A70
  obtain rfl := Option.some.inj H
  go_enter Try.func40, Try.ntmps40
  try go_wp2_with (first | ((with_reducible refine gate_dst (N := 6) rfl ?_); refine box_event ?hg (N := 6) ?hd (cs := #[.int .i64 a2_0, .int .i64 a2_1]) (t := 41) ?hr ?_; (case hd => rfl); (case hg => rfl); (case hr => first | (go_simp; done) | (go_simp; rfl)); intro gb345 hg w8 hbox hb; have n0_ := Aside0.mk (below_step (by repeat (first | (with_reducible first | exact HB.out | apply below_alloc | apply pw_below_drewN | apply below_drew1) | exact HB.out)) hb); have n1_ := Aside0.mk (hbox); have n2_ := Aside0.mk ((by rw [hg]; exact (below_size (by repeat (first | (with_reducible first | exact HB.out | apply below_alloc | apply pw_below_drewN | apply below_drew1) | exact HB.out))) : w.heap.size ≤ gb345)); have n3_ := Aside0.mk ((by rw [hg]; exact (below_size (by repeat (first | (with_reducible first | exact HB.out | apply below_alloc | apply pw_below_drewN | apply below_drew1) | exact HB.out))) : w.heap.size ≤ gb345)); clear HB; have HB := n0_; have BK345 := n1_; have GW345 := n2_; have GE345 := n3_; clear n0_ n1_ n2_ n3_; clear hb hbox hg))
  have n0_ := Aside0.mk (blk_drew BK345.out)
  have n1_ := Aside0.mk (below_drew1 HB.out)
  clear BK345
  clear HB
  have BK345 := n0_
  have HB := n1_
  clear n0_ n1_
  refine start_ (n := 18) (S := fun w' => w'.cell? ⟨gb345, 0, none⟩ = some (.int .i64 a2_0) ∧ w'.cell? ⟨gb345, 1, none⟩ = some (.int .i64 a2_1)) (ds := []) #[false, false, false, false, false, false, false, false, false, false, false, false, false, false, false, false, false, false] (by kernel_rfl) rfl rfl ⟨(blk_cell BK345.out 0).trans rfl, (blk_cell BK345.out 1).trans rfl⟩ (fun hHeld => ?_); refine with_tabW riverbankref14_Moved.tab1 riverbankref14_Moved.bits1 (fun HT_ HW_ => ?_)
  generalize w8.drew = w9 at BK345 HB hHeld ⊢
  refine pure_ (i := 0) (N := some 9) (v := ?_) (a' := ?_) #[true, false, false, false, false, false, false, false, false, false, false, false, false, false, false, false, false, false] rfl rfl (any_of HT_.out (by kernel_rfl)) (fun _ _ _ h => h) (Or.inl ⟨by rfl, ?_⟩) ?_ ?_
  rotate_left
  · intro w'
    go_simp
    with_reducible rfl
  rotate_left
  · simp only [Act.put, List.setIfInBounds_toArray, List.set_cons_zero, List.set_cons_succ, i64_w, i32_w]
    rfl
  refine pure_ (i := 1) (N := some 10) (v := ?_) (a' := ?_) #[true, true, false, false, false, false, false, false, false, false, false, false, false, false, false, false, false, false] rfl rfl (any_of HT_.out (by kernel_rfl)) (fun _ _ _ h => h) (Or.inl ⟨by rfl, ?_⟩) ?_ ?_
  rotate_left
  · intro w'
    go_simp
    with_reducible rfl
  rotate_left
  · simp only [Act.put, List.setIfInBounds_toArray, List.set_cons_zero, List.set_cons_succ, i64_w, i32_w]
    rfl
  refine pure_ (i := 2) (N := some 11) (v := ?_) (a' := ?_) #[true, true, true, false, false, false, false, false, false, false, false, false, false, false, false, false, false, false] rfl rfl (any_of HT_.out (by kernel_rfl)) (fun _ _ _ h => h) (Or.inl ⟨by rfl, ?_⟩) ?_ ?_
  rotate_left
  · intro w'
    go_simp
    with_reducible rfl
  rotate_left
  · simp only [Act.put, List.setIfInBounds_toArray, List.set_cons_zero, List.set_cons_succ, i64_w, i32_w]
    rfl
  refine pure_ (i := 6) (N := some 15) (v := ?_) (a' := ?_) #[true, true, true, false, false, false, true, false, false, false, false, false, false, false, false, false, false, false] rfl rfl (any_of HT_.out (by kernel_rfl)) (fun _ _ _ h => h) (Or.inl ⟨by rfl, ?_⟩) ?_ ?_
  rotate_left
  · intro w'
    go_simp
    with_reducible rfl
  rotate_left
  · simp only [Act.put, List.setIfInBounds_toArray, List.set_cons_zero, List.set_cons_succ, i64_w, i32_w]
    rfl
  refine pure_ (i := 7) (N := some 16) (v := ?_) (a' := ?_) #[true, true, true, false, false, false, true, true, false, false, false, false, false, false, false, false, false, false] rfl rfl (any_of HT_.out (by kernel_rfl)) (fun _ _ _ h => h) (Or.inl ⟨by rfl, ?_⟩) ?_ ?_
  rotate_left
  · intro w'
    go_simp
    with_reducible rfl
  rotate_left
  · simp only [Act.put, List.setIfInBounds_toArray, List.set_cons_zero, List.set_cons_succ, i64_w, i32_w]
    rfl
  refine pure_ (i := 11) (N := some 20) (v := ?_) (a' := ?_) #[true, true, true, false, false, false, true, true, false, false, false, true, false, false, false, false, false, false] rfl rfl (any_of HT_.out (by kernel_rfl)) (fun _ _ _ h => h) (Or.inl ⟨by rfl, ?_⟩) ?_ ?_
  rotate_left
  · intro w'
    go_simp
    with_reducible rfl
  rotate_left
  · simp only [Act.put, List.setIfInBounds_toArray, List.set_cons_zero, List.set_cons_succ, i64_w, i32_w]
    rfl
  refine pure_ (i := 12) (N := some 21) (v := ?_) (a' := ?_) #[true, true, true, false, false, false, true, true, false, false, false, true, true, false, false, false, false, false] rfl rfl (any_of HT_.out (by kernel_rfl)) (fun _ _ _ h => h) (Or.inl ⟨by rfl, ?_⟩) ?_ ?_
  rotate_left
  · intro w'
    go_simp
    with_reducible rfl
  rotate_left
  · simp only [Act.put, List.setIfInBounds_toArray, List.set_cons_zero, List.set_cons_succ, i64_w, i32_w]
    rfl
  refine take_ (i := 3) (N := some 12) (v := ?_) (a' := ?_) #[true, true, true, true, false, false, true, true, false, false, false, true, true, false, false, false, false, false] rfl rfl (take_ofW HT_.out HW_.out (by kernel_rfl)) (fun _ _ _ h => h) (Or.inl ⟨by rfl, ?_⟩) hHeld ?_ ?_
  rotate_left
  · rintro w' ⟨s0, s1⟩
    go_simp
    with_reducible rfl
  rotate_left
  · simp only [Act.put, List.setIfInBounds_toArray, List.set_cons_zero, List.set_cons_succ, i64_w, i32_w]
    rfl
  refine take_ (i := 8) (N := some 17) (v := ?_) (a' := ?_) #[true, true, true, true, false, false, true, true, true, false, false, true, true, false, false, false, false, false] rfl rfl (take_ofW HT_.out HW_.out (by kernel_rfl)) (fun _ _ _ h => h) (Or.inl ⟨by rfl, ?_⟩) hHeld ?_ ?_
  rotate_left
  · rintro w' ⟨s0, s1⟩
    go_simp
    with_reducible rfl
  rotate_left
  · simp only [Act.put, List.setIfInBounds_toArray, List.set_cons_zero, List.set_cons_succ, i64_w, i32_w]
    rfl
  refine take_ (i := 13) (N := some 22) (v := ?_) (a' := ?_) #[true, true, true, true, false, false, true, true, true, false, false, true, true, true, false, false, false, false] rfl rfl (take_ofW HT_.out HW_.out (by kernel_rfl)) (fun _ _ _ h => h) (Or.inl ⟨by rfl, ?_⟩) hHeld ?_ ?_
  rotate_left
  · rintro w' ⟨s0, s1⟩
    go_simp
    with_reducible rfl
  rotate_left
  · simp only [Act.put, List.setIfInBounds_toArray, List.set_cons_zero, List.set_cons_succ, i64_w, i32_w]
    rfl
  refine one_ (i := 4) (N := some 13) #[true, true, true, true, true, false, true, true, true, false, false, true, true, true, false, false, false, false] rfl rfl (one_of HT_.out (by kernel_rfl)) (by decide) (fun K hK => ?_)
  refine goes_ Try.func35 (by kernel_rfl) rfl #[.int .u8 a1, .int .i64 a2_0] (by rfl) rfl rfl (by (try simp only [List.map_toArray, List.map_cons, List.map_nil]); first | done | rfl | (simp only [List.length_drop, List.length_take]; rfl)) ?_
  with_reducible refine (riverbankref14_Piece.calls k a1 a2_0 t346 _ A5.out).mono ?_
  rintro e w10 ⟨rfl, hb⟩
  refine ⟨_, rfl, ?_⟩
  have n0_ := Aside0.mk (blk_below (g := gb345) (o := .cells #[.int .i64 a2_0, .int .i64 a2_1] 41 (0, 0)) (by (with_reducible repeat (first | refine blk_drewN ?_ _ | refine blk_drew ?_ | refine blk_alloc ?_ _)); exact BK345.out) hb)
  have n1_ := Aside0.mk (below_step (by repeat (first | (with_reducible first | exact HB.out | apply below_alloc | apply pw_below_drewN | apply below_drew1 | refine below_set ?_ GE345.out) | exact HB.out)) hb)
  clear BK345
  clear HB
  have BK345 := n0_
  have HB := n1_
  clear n0_ n1_
  (try clear hb)
  (try clear hb2)
  (try clear hk)
  (try clear hi)
  refine hK.out _ _ ⟨(blk_cell BK345.out 0).trans rfl, (blk_cell BK345.out 1).trans rfl⟩ (fun hHeld => ?_)
  clear hK K
  refine norm_ (a' := ?_) ?_ ?_
  rotate_left
  · show Act.put _ (some 13) _ = _
    simp only [Act.put, List.setIfInBounds_toArray, List.set_cons_zero, List.set_cons_succ, i64_w, i32_w]
    rfl
  refine pure_ (i := 5) (N := some 14) (v := ?_) (a' := ?_) #[true, true, true, true, true, true, true, true, true, false, false, true, true, true, false, false, false, false] rfl rfl (any_of HT_.out (by kernel_rfl)) (fun _ _ _ h => h) (Or.inl ⟨by rfl, ?_⟩) ?_ ?_
  rotate_left
  · intro w'
    go_simp
    with_reducible rfl
  rotate_left
  · simp only [Act.put, List.setIfInBounds_toArray, List.set_cons_zero, List.set_cons_succ, i64_w, i32_w]
    rfl
  refine one_ (i := 9) (N := some 18) #[true, true, true, true, true, true, true, true, true, true, false, true, true, true, false, false, false, false] rfl rfl (one_of HT_.out (by kernel_rfl)) (by decide) (fun K hK => ?_)
  refine goes_ Try.func35 (by kernel_rfl) rfl #[.int .u8 a1, .int .i64 a2_1] (by rfl) rfl rfl (by (try simp only [List.map_toArray, List.map_cons, List.map_nil]); first | done | rfl | (simp only [List.length_drop, List.length_take]; rfl)) ?_
  with_reducible refine (riverbankref14_Piece.calls k a1 a2_1 t347 _ A6.out).mono ?_
  rintro e w11 ⟨rfl, hb⟩
  refine ⟨_, rfl, ?_⟩
  have n0_ := Aside0.mk (blk_below (g := gb345) (o := .cells #[.int .i64 a2_0, .int .i64 a2_1] 41 (0, 0)) (by (with_reducible repeat (first | refine blk_drewN ?_ _ | refine blk_drew ?_ | refine blk_alloc ?_ _)); exact BK345.out) hb)
  have n1_ := Aside0.mk (below_step (by repeat (first | (with_reducible first | exact HB.out | apply below_alloc | apply pw_below_drewN | apply below_drew1 | refine below_set ?_ GE345.out) | exact HB.out)) hb)
  clear BK345
  clear HB
  have BK345 := n0_
  have HB := n1_
  clear n0_ n1_
  (try clear hb)
  (try clear hb2)
  (try clear hk)
  (try clear hi)
  refine hK.out _ _ ⟨(blk_cell BK345.out 0).trans rfl, (blk_cell BK345.out 1).trans rfl⟩ (fun hHeld => ?_)
  clear hK K
  refine norm_ (a' := ?_) ?_ ?_
  rotate_left
  · show Act.put _ (some 18) _ = _
    simp only [Act.put, List.setIfInBounds_toArray, List.set_cons_zero, List.set_cons_succ, i64_w, i32_w]
    rfl
  refine pure_ (i := 10) (N := some 19) (v := ?_) (a' := ?_) #[true, true, true, true, true, true, true, true, true, true, true, true, true, true, false, false, false, false] rfl rfl (any_of HT_.out (by kernel_rfl)) (fun _ _ _ h => h) (Or.inl ⟨by rfl, ?_⟩) ?_ ?_
  rotate_left
  · intro w'
    go_simp
    with_reducible rfl
  rotate_left
  · simp only [Act.put, List.setIfInBounds_toArray, List.set_cons_zero, List.set_cons_succ, i64_w, i32_w]
    rfl
  refine one_ (i := 14) (N := some 23) #[true, true, true, true, true, true, true, true, true, true, true, true, true, true, true, false, false, false] rfl rfl (one_of HT_.out (by kernel_rfl)) (by decide) (fun K hK => ?_)
  refine goes_ Try.func35 (by kernel_rfl) rfl #[.int .u8 a3, .int .i64 a2_1] (by rfl) rfl rfl (by (try simp only [List.map_toArray, List.map_cons, List.map_nil]); first | done | rfl | (simp only [List.length_drop, List.length_take]; rfl)) ?_
  with_reducible refine (riverbankref14_Piece.calls k a3 a2_1 t348 _ A7.out).mono ?_
  rintro e w12 ⟨rfl, hb⟩
  refine ⟨_, rfl, ?_⟩
  have n0_ := Aside0.mk (blk_below (g := gb345) (o := .cells #[.int .i64 a2_0, .int .i64 a2_1] 41 (0, 0)) (by (with_reducible repeat (first | refine blk_drewN ?_ _ | refine blk_drew ?_ | refine blk_alloc ?_ _)); exact BK345.out) hb)
  have n1_ := Aside0.mk (below_step (by repeat (first | (with_reducible first | exact HB.out | apply below_alloc | apply pw_below_drewN | apply below_drew1 | refine below_set ?_ GE345.out) | exact HB.out)) hb)
  clear BK345
  clear HB
  have BK345 := n0_
  have HB := n1_
  clear n0_ n1_
  (try clear hb)
  (try clear hb2)
  (try clear hk)
  (try clear hi)
  refine hK.out _ _ ⟨(blk_cell BK345.out 0).trans rfl, (blk_cell BK345.out 1).trans rfl⟩ (fun hHeld => ?_)
  clear hK K
  refine norm_ (a' := ?_) ?_ ?_
  rotate_left
  · show Act.put _ (some 23) _ = _
    simp only [Act.put, List.setIfInBounds_toArray, List.set_cons_zero, List.set_cons_succ, i64_w, i32_w]
    rfl
  refine pure_ (i := 15) (N := some 24) (v := ?_) (a' := ?_) #[true, true, true, true, true, true, true, true, true, true, true, true, true, true, true, true, false, false] rfl rfl (any_of HT_.out (by kernel_rfl)) (fun _ _ _ h => h) (Or.inl ⟨by rfl, ?_⟩) ?_ ?_
  rotate_left
  · intro w'
    go_simp
    with_reducible rfl
  rotate_left
  · simp only [Act.put, List.setIfInBounds_toArray, List.set_cons_zero, List.set_cons_succ, i64_w, i32_w]
    rfl
  refine pure_ (i := 16) (N := some 25) (v := ?_) (a' := ?_) #[true, true, true, true, true, true, true, true, true, true, true, true, true, true, true, true, true, false] rfl rfl (any_of HT_.out (by kernel_rfl)) (fun _ _ _ h => h) (Or.inl ⟨by rfl, ?_⟩) ?_ ?_
  rotate_left
  · intro w'
    go_simp
    with_reducible rfl
  rotate_left
  · simp only [Act.put, List.setIfInBounds_toArray, List.set_cons_zero, List.set_cons_succ, i64_w, i32_w]
    rfl
  refine pure_ (i := 17) (N := some 8) (v := ?_) (a' := ?_) #[true, true, true, true, true, true, true, true, true, true, true, true, true, true, true, true, true, true] rfl rfl (any_of HT_.out (by kernel_rfl)) (fun _ _ _ h => h) (Or.inl ⟨by rfl, ?_⟩) ?_ ?_
  rotate_left
  · intro w'
    go_simp
    with_reducible rfl
  rotate_left
  · simp only [Act.put, List.setIfInBounds_toArray, List.set_cons_zero, List.set_cons_succ, i64_w, i32_w]
    rfl
  refine done_ (done_of HT_.out (by kernel_rfl)) ?_
  try go_wp2
  go_ret
  exact ⟨by first | rfl | (simp [errW_none, errW_some] <;> rfl) | (simp [*, errW_none, errW_some] <;> rfl), by repeat (first | (with_reducible first | exact HB.out | apply below_alloc | apply pw_below_drewN | apply below_drew1 | refine below_set ?_ GE345.out) | exact HB.out)⟩

end Go.Proofs.Ytmfbgcimfmgobaa.Print
