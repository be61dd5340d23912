/- Merged by a program of this session (wip/gprint/merge.py): what this claim needs of this session's texts, each part as it was. -/
import Derived.Test.YtkbimiimgcklaaaDoorAllPlaceTurn7
import Derived.Test.YtkbimiimgcklaaaDoorAllPlaceTurn17
import Derived.Test.YtkbimiimgcklaaaDoorAllPlaceTurn19
import Derived.Test.YtkbimiimgcklaaaDoorAllPlaceTurn37
import Derived.Test.YtkbimiimgcklaaaDoorAllPlaceTurn38
import Derived.WalkSpells
import Derived.RegionTactic
import Derived.BigRegion
import Derived.Lib.SlBytesConst
namespace Go.Proofs.YtkbimiimgcklaaaDoor.Print
end Go.Proofs.YtkbimiimgcklaaaDoor.Print

-- of YtkbimiimgcklaaaDoorPrint45
-- Written by a program of this session (wip/gprint/gprint.py) over the kit's print; the parts marked GIVEN by hand.
namespace Go.Proofs.YtkbimiimgcklaaaDoor.Print
open Go.RowKit Go.Proofs.YtkbimiimgcklaaaDoorW.PrintWords Go.Proofs.YtkbimiimgcklaaaDoorW.PrintLast Go.Proofs.YtkbimiimgcklaaaDoorW.PrintMore
attribute [local go_sem] max2_int min2_int max_two min_two max_three min_three max_four min_four   -- for this text's walks alone
set_option linter.unusedVariables false
set_option linter.unusedSimpArgs false

/-! GIVEN place_Check -/
-- GIVEN riverbank/place.Check
-- MAKES yes
-- ROUNDS yes
-- NEEDS riverbank/board.Is
-- NEEDS riverbank/board.Kind
-- NEEDS riverbank/place.May
-- NEEDS riverbank/place.Most
-- IMPORT Derived.WalkSpells
-- IMPORT Derived.RegionTactic
-- IMPORT Derived.BigRegion
-- IMPORT Derived.Lib.SlBytesConst
/-- How many of the first n squares bear a byte. -/
def cntB (s : ByteArray) (c : Int) : Nat → Int
  | 0 => 0
  | n + 1 => cntB s c n + if bt s n = c then 1 else 0
/-- May whatever stands on the first n squares stand there? -/
def rightB (k : Nat) (s : ByteArray) : Nat → Option Bool
  | 0 => some true
  | n + 1 => (rightB k s n).bind fun b => if b = true then (if bt s n = 46 then some true else place_May.f k (bt s n) n) else some false
/-- Is a number of pieces wrong? -/
def wrongB (s : ByteArray) : List Int → Option Bool
  | [] => some false
  | c :: l => (place_Most.f c).bind fun m => if cntB s c 90 > m then some true else (board_Kind.f c).bind fun d => if d = 75 then (if cntB s c 90 = 1 then wrongB s l else some true) else wrongB s l
def letters : List Int := [75, 65, 66, 78, 82, 67, 80, 107, 97, 98, 110, 114, 99, 112]
def place_Check.f (k : Nat) (a0_0 : ByteArray) (a0_1 : Int) (a0_2 : Int) (a0_3 : Int) : Option (Int) := (board_Is.f a0_0).bind fun t =>
  if t = false ∨ (a0_1 ≠ 0 ∧ a0_1 ≠ 1) ∨ a0_2 < 0 ∨ a0_2 > 120 ∨ a0_3 < 1 ∨ a0_3 > 9999 then some 1 else
    (rightB k a0_0 90).bind fun right => (wrongB a0_0 letters).bind fun b => if b = true then some 3 else some (if right = true then 0 else 2)
theorem rightB_mono (s : ByteArray) : ∀ n k, LeO (rightB k s n) (rightB (k + 1) s n)
  | 0, _ => LeO.refl _
  | n + 1, k => LeO.bind (rightB_mono s n k) (fun _ => LeO.ite (LeO.ite (LeO.refl _) (place_May.mono _ _ _)) (LeO.refl _))
theorem rightB_le (k : Nat) (s : ByteArray) (n : Nat) : ∀ d r, rightB k s (n + d) = some r → ∃ b, rightB k s n = some b
  | 0, r, h => ⟨r, h⟩
  | d + 1, r, h => by
    obtain ⟨b, hb, _⟩ := Option.bind_eq_some_iff.mp (show ((rightB k s (n + d)).bind _) = some r from h)
    exact rightB_le k s n d b hb
theorem place_Check.mono : ∀ a0_0 a0_1 a0_2 a0_3 k, LeO (place_Check.f k a0_0 a0_1 a0_2 a0_3) (place_Check.f (k + 1) a0_0 a0_1 a0_2 a0_3) := by
  intro a0 a1 a2 a3 k
  unfold place_Check.f
  exact LeO.bind (LeO.refl _) (fun _ => LeO.ite (LeO.refl _) (LeO.bind (rightB_mono _ _ _) (fun _ => LeO.refl _)))
theorem cntB_bound (s : ByteArray) (c : Int) : ∀ n : Nat, 0 ≤ cntB s c n ∧ cntB s c n ≤ n
  | 0 => ⟨Int.le_refl _, Int.le_refl _⟩
  | n + 1 => by
    have := cntB_bound s c n
    unfold cntB; split <;> omega
/-- The counts in memory: how many of the first n squares bear each byte. -/
structure Counts (W : World) (B : Nat) (s : ByteArray) (n : Nat) : Prop where
  cell : ∀ c : Nat, c < 256 → W.cell? ⟨B, c, none⟩ = some (.int .i64 (cntB s c n))
  free : ∀ c : Nat, c < 256 → W.frozen? ⟨B, c, none⟩ = false
theorem Counts.step {W : World} {B : Nat} {s : ByteArray} {n : Nat} (h : Counts W B s n) (x : Nat) (hx : x < 256) (hb : bt s n = x) (v : Int) (hv : v = cntB s x n + 1) : Counts (W.setCell ⟨B, x, none⟩ (.int .i64 v)) B s (n + 1) := by
  refine ⟨fun c hc => ?_, fun c hc => ?_⟩
  · by_cases e : x = c
    · subst e
      rw [World.cell?_setCell_same' _ _ _ (by rw [h.cell x hx]; rfl), hv]
      unfold cntB; rw [if_pos hb]; cases n <;> rfl
    · rw [World.cell?_setCell_other W ⟨B, x, none⟩ ⟨B, c, none⟩ _ (by intro g; injection g; omega), h.cell c hc]
      congr 2
      show cntB s c n = cntB s c n + if bt s n = c then 1 else 0
      rw [hb, if_neg (by omega)]; omega
  · rw [World.frozen?_setCell]; exact h.free c hc
theorem Counts.below {W W' : World} {B : Nat} {s : ByteArray} {n : Nat} (h : Counts W B s n) (hb : Below W.heap.size W W') : Counts W' B s n := by
  have hB : B < W.heap.size := World.block_lt_of_cell? W _ (h.cell 0 (by omega))
  refine ⟨fun c hc => (hb.cell (p := ⟨B, c, none⟩) hB).trans (h.cell c hc), fun c hc => ?_⟩
  have e := hb.block B hB
  have := h.free c hc
  simp only [World.frozen?] at this ⊢
  rw [e]; exact this
/-- A position in memory. -/
structure PosAt (W : World) (B : Nat) (s : ByteArray) (a1 a2 a3 : Int) : Prop where
  p0 : W.cell? ⟨B, 0, none⟩ = some (.string s)
  p1 : W.cell? ⟨B, 1, none⟩ = some (.int .i64 a1)
  p2 : W.cell? ⟨B, 2, none⟩ = some (.int .i64 a2)
  p3 : W.cell? ⟨B, 3, none⟩ = some (.int .i64 a3)
theorem PosAt.new (W : World) (s : ByteArray) (a1 a2 a3 : Int) (t : TypeId) : PosAt (W.alloc (.cells #[.string s, .int .i64 a1, .int .i64 a2, .int .i64 a3] t)) W.heap.size s a1 a2 a3 := by
  constructor <;> simp
theorem PosAt.below {W W' : World} {B : Nat} {s : ByteArray} {a1 a2 a3 : Int} (h : PosAt W B s a1 a2 a3) (hb : Below W.heap.size W W') : PosAt W' B s a1 a2 a3 := by
  have hB : B < W.heap.size := World.block_lt_of_cell? W _ h.p0
  exact ⟨(hb.cell (p := ⟨B, 0, none⟩) hB).trans h.p0, (hb.cell (p := ⟨B, 1, none⟩) hB).trans h.p1, (hb.cell (p := ⟨B, 2, none⟩) hB).trans h.p2, (hb.cell (p := ⟨B, 3, none⟩) hB).trans h.p3⟩
theorem PosAt.set {W : World} {B : Nat} {s : ByteArray} {a1 a2 a3 : Int} (h : PosAt W B s a1 a2 a3) (C i : Nat) (v : Value) (hne : C ≠ B) : PosAt (W.setCell ⟨C, i, none⟩ v) B s a1 a2 a3 := by
  constructor
  · exact (World.cell?_setCell_other W ⟨C, i, none⟩ ⟨B, 0, none⟩ v (by intro e; injection e; omega)).trans h.p0
  · exact (World.cell?_setCell_other W ⟨C, i, none⟩ ⟨B, 1, none⟩ v (by intro e; injection e; omega)).trans h.p1
  · exact (World.cell?_setCell_other W ⟨C, i, none⟩ ⟨B, 2, none⟩ v (by intro e; injection e; omega)).trans h.p2
  · exact (World.cell?_setCell_other W ⟨C, i, none⟩ ⟨B, 3, none⟩ v (by intro e; injection e; omega)).trans h.p3
theorem zero105 : Tryd.zeroCells105 = Array.replicate 256 (.int .i64 0) := by kernel_rfl
theorem Counts.new (W : World) (s : ByteArray) (t : TypeId) : Counts (W.alloc (.cells Tryd.zeroCells105 t)) W.heap.size s 0 := by
  have h := World.alloc_heap_new W (.cells Tryd.zeroCells105 t)
  rw [zero105] at h ⊢
  obtain ⟨W2, hW2⟩ : ∃ W2, W2 = W.alloc (.cells (Array.replicate 256 (.int .i64 0)) t) := ⟨_, rfl⟩
  rw [← hW2] at h ⊢
  refine ⟨fun c hc => ?_, fun c hc => ?_⟩
  · simp only [World.cell?, h]
    simp [hc]; rfl
  · simp only [World.frozen?, h]
    simp [hc]
def letterCells : Array Value := #[.int .u8 75, .int .u8 65, .int .u8 66, .int .u8 78, .int .u8 82, .int .u8 67, .int .u8 80, .int .u8 107, .int .u8 97, .int .u8 98, .int .u8 110, .int .u8 114, .int .u8 99, .int .u8 112]
/-- The letters in memory. -/
structure LettersAt (W : World) (B : Nat) : Prop where
  cell : ∀ j : Nat, j < 14 → W.cell? ⟨B, j, none⟩ = some (.int .u8 (letters.getD j 0))
theorem LettersAt.new (W : World) (t : TypeId) (fr : Nat × Nat) : LettersAt (W.alloc (.cells letterCells t fr)) W.heap.size := by
  refine ⟨fun j hj => ?_⟩
  match j, hj with
  | 0, _ => exact (World.cell?_alloc_mark W _ t fr 0).trans rfl
  | 1, _ => exact (World.cell?_alloc_mark W _ t fr 1).trans rfl
  | 2, _ => exact (World.cell?_alloc_mark W _ t fr 2).trans rfl
  | 3, _ => exact (World.cell?_alloc_mark W _ t fr 3).trans rfl
  | 4, _ => exact (World.cell?_alloc_mark W _ t fr 4).trans rfl
  | 5, _ => exact (World.cell?_alloc_mark W _ t fr 5).trans rfl
  | 6, _ => exact (World.cell?_alloc_mark W _ t fr 6).trans rfl
  | 7, _ => exact (World.cell?_alloc_mark W _ t fr 7).trans rfl
  | 8, _ => exact (World.cell?_alloc_mark W _ t fr 8).trans rfl
  | 9, _ => exact (World.cell?_alloc_mark W _ t fr 9).trans rfl
  | 10, _ => exact (World.cell?_alloc_mark W _ t fr 10).trans rfl
  | 11, _ => exact (World.cell?_alloc_mark W _ t fr 11).trans rfl
  | 12, _ => exact (World.cell?_alloc_mark W _ t fr 12).trans rfl
  | 13, _ => exact (World.cell?_alloc_mark W _ t fr 13).trans rfl
  | n + 14, h => omega
theorem letter_in : ∀ j : Fin 14, 0 ≤ letters.getD j.val 0 ∧ letters.getD j.val 0 < 256 ∧ letters.drop j.val = letters.getD j.val 0 :: letters.drop (j.val + 1) := by decide
set_option maxRecDepth 100000 in
set_option maxHeartbeats 2000000 in
theorem check_no (a0 : ByteArray) (a1 : Int) (a2 a3 : Int) (w : World) (hI : board_Is.f a0 = some false) :
    Calls Tryd.prog 82 #[.agg #[.string a0, .int .i64 a1, .int .i64 a2, .int .i64 a3]] w fun e w' => e = .returned (.int .i64 1) ∧ Below w.heap.size w w' := by
  have HI := Aside0.mk hI
  have HP := Aside0.mk (PosAt.new w a0 a1 a2 a3 74)
  have HB := Aside0.mk ((Below.refl w.heap.size w).alloc (Nat.le_refl _) (.cells #[.string a0, .int .i64 a1, .int .i64 a2, .int .i64 a3] 74))
  clear hI
  go_enter Tryd.func82, Tryd.ntmps82
  go_wp2_with (go_at_call 50; (with_reducible refine (board_Is.calls _ false _ HI.out).mono ?_); rintro e w1 ⟨rfl, hb1⟩; have HB1 := Aside0.mk (below_step HB.out hb1); have c1 := (HP.out.below hb1).p1; have c2 := (HP.out.below hb1).p2; have c3 := (HP.out.below hb1).p3; clear hb1 HP HB)
  go_ret
  exact ⟨rfl, HB1.out⟩
set_option maxRecDepth 100000 in
set_option maxHeartbeats 2000000 in
theorem check_side (a0 : ByteArray) (a1 : Int) (a2 a3 : Int) (w : World) (hI : board_Is.f a0 = some true) (h1 : (a1 != 0) = true) (h2 : (a1 != 1) = true) :
    Calls Tryd.prog 82 #[.agg #[.string a0, .int .i64 a1, .int .i64 a2, .int .i64 a3]] w fun e w' => e = .returned (.int .i64 1) ∧ Below w.heap.size w w' := by
  have HI := Aside0.mk hI
  have HP := Aside0.mk (PosAt.new w a0 a1 a2 a3 74)
  have HB := Aside0.mk ((Below.refl w.heap.size w).alloc (Nat.le_refl _) (.cells #[.string a0, .int .i64 a1, .int .i64 a2, .int .i64 a3] 74))
  clear hI
  go_enter Tryd.func82, Tryd.ntmps82
  go_wp2_with (go_at_call 50; (with_reducible refine (board_Is.calls _ true _ HI.out).mono ?_); rintro e w1 ⟨rfl, hb1⟩; have HB1 := Aside0.mk (below_step HB.out hb1); have c1 := (HP.out.below hb1).p1; have c2 := (HP.out.below hb1).p2; have c3 := (HP.out.below hb1).p3; clear hb1 HP HB)
  go_ret
  exact ⟨rfl, HB1.out⟩
set_option maxRecDepth 100000 in
set_option maxHeartbeats 2000000 in
theorem check_clock0_0 (a0 : ByteArray) (a2 a3 : Int) (w : World) (hI : board_Is.f a0 = some true) (h3 : decide (a2 < 0) = true) :
    Calls Tryd.prog 82 #[.agg #[.string a0, .int .i64 0, .int .i64 a2, .int .i64 a3]] w fun e w' => e = .returned (.int .i64 1) ∧ Below w.heap.size w w' := by
  have HI := Aside0.mk hI
  have HP := Aside0.mk (PosAt.new w a0 0 a2 a3 74)
  have HB := Aside0.mk ((Below.refl w.heap.size w).alloc (Nat.le_refl _) (.cells #[.string a0, .int .i64 0, .int .i64 a2, .int .i64 a3] 74))
  clear hI
  go_enter Tryd.func82, Tryd.ntmps82
  go_wp2_with (go_at_call 50; (with_reducible refine (board_Is.calls _ true _ HI.out).mono ?_); rintro e w1 ⟨rfl, hb1⟩; have HB1 := Aside0.mk (below_step HB.out hb1); have c1 := (HP.out.below hb1).p1; have c2 := (HP.out.below hb1).p2; have c3 := (HP.out.below hb1).p3; clear hb1 HP HB)
  go_ret
  exact ⟨rfl, HB1.out⟩
set_option maxRecDepth 100000 in
set_option maxHeartbeats 2000000 in
theorem check_clock1_0 (a0 : ByteArray) (a2 a3 : Int) (w : World) (hI : board_Is.f a0 = some true) (h3 : decide (a2 < 0) = false) (h4 : decide (120 < a2) = true) :
    Calls Tryd.prog 82 #[.agg #[.string a0, .int .i64 0, .int .i64 a2, .int .i64 a3]] w fun e w' => e = .returned (.int .i64 1) ∧ Below w.heap.size w w' := by
  have HI := Aside0.mk hI
  have HP := Aside0.mk (PosAt.new w a0 0 a2 a3 74)
  have HB := Aside0.mk ((Below.refl w.heap.size w).alloc (Nat.le_refl _) (.cells #[.string a0, .int .i64 0, .int .i64 a2, .int .i64 a3] 74))
  clear hI
  go_enter Tryd.func82, Tryd.ntmps82
  go_wp2_with (go_at_call 50; (with_reducible refine (board_Is.calls _ true _ HI.out).mono ?_); rintro e w1 ⟨rfl, hb1⟩; have HB1 := Aside0.mk (below_step HB.out hb1); have c1 := (HP.out.below hb1).p1; have c2 := (HP.out.below hb1).p2; have c3 := (HP.out.below hb1).p3; clear hb1 HP HB)
  go_ret
  exact ⟨rfl, HB1.out⟩
set_option maxRecDepth 100000 in
set_option maxHeartbeats 2000000 in
theorem check_full0_0 (a0 : ByteArray) (a2 a3 : Int) (w : World) (hI : board_Is.f a0 = some true) (h3 : decide (a2 < 0) = false) (h4 : decide (120 < a2) = false) (h5 : decide (a3 < 1) = true) :
    Calls Tryd.prog 82 #[.agg #[.string a0, .int .i64 0, .int .i64 a2, .int .i64 a3]] w fun e w' => e = .returned (.int .i64 1) ∧ Below w.heap.size w w' := by
  have HI := Aside0.mk hI
  have HP := Aside0.mk (PosAt.new w a0 0 a2 a3 74)
  have HB := Aside0.mk ((Below.refl w.heap.size w).alloc (Nat.le_refl _) (.cells #[.string a0, .int .i64 0, .int .i64 a2, .int .i64 a3] 74))
  clear hI
  go_enter Tryd.func82, Tryd.ntmps82
  go_wp2_with (go_at_call 50; (with_reducible refine (board_Is.calls _ true _ HI.out).mono ?_); rintro e w1 ⟨rfl, hb1⟩; have HB1 := Aside0.mk (below_step HB.out hb1); have c1 := (HP.out.below hb1).p1; have c2 := (HP.out.below hb1).p2; have c3 := (HP.out.below hb1).p3; clear hb1 HP HB)
  go_ret
  exact ⟨rfl, HB1.out⟩
set_option maxRecDepth 100000 in
set_option maxHeartbeats 2000000 in
theorem check_full1_0 (a0 : ByteArray) (a2 a3 : Int) (w : World) (hI : board_Is.f a0 = some true) (h3 : decide (a2 < 0) = false) (h4 : decide (120 < a2) = false) (h5 : decide (a3 < 1) = false) (h6 : decide (9999 < a3) = true) :
    Calls Tryd.prog 82 #[.agg #[.string a0, .int .i64 0, .int .i64 a2, .int .i64 a3]] w fun e w' => e = .returned (.int .i64 1) ∧ Below w.heap.size w w' := by
  have HI := Aside0.mk hI
  have HP := Aside0.mk (PosAt.new w a0 0 a2 a3 74)
  have HB := Aside0.mk ((Below.refl w.heap.size w).alloc (Nat.le_refl _) (.cells #[.string a0, .int .i64 0, .int .i64 a2, .int .i64 a3] 74))
  clear hI
  go_enter Tryd.func82, Tryd.ntmps82
  go_wp2_with (go_at_call 50; (with_reducible refine (board_Is.calls _ true _ HI.out).mono ?_); rintro e w1 ⟨rfl, hb1⟩; have HB1 := Aside0.mk (below_step HB.out hb1); have c1 := (HP.out.below hb1).p1; have c2 := (HP.out.below hb1).p2; have c3 := (HP.out.below hb1).p3; clear hb1 HP HB)
  go_ret
  exact ⟨rfl, HB1.out⟩
set_option maxRecDepth 100000 in
set_option maxHeartbeats 2000000 in
theorem check_clock0_1 (a0 : ByteArray) (a2 a3 : Int) (w : World) (hI : board_Is.f a0 = some true) (h3 : decide (a2 < 0) = true) :
    Calls Tryd.prog 82 #[.agg #[.string a0, .int .i64 1, .int .i64 a2, .int .i64 a3]] w fun e w' => e = .returned (.int .i64 1) ∧ Below w.heap.size w w' := by
  have HI := Aside0.mk hI
  have HP := Aside0.mk (PosAt.new w a0 1 a2 a3 74)
  have HB := Aside0.mk ((Below.refl w.heap.size w).alloc (Nat.le_refl _) (.cells #[.string a0, .int .i64 1, .int .i64 a2, .int .i64 a3] 74))
  clear hI
  go_enter Tryd.func82, Tryd.ntmps82
  go_wp2_with (go_at_call 50; (with_reducible refine (board_Is.calls _ true _ HI.out).mono ?_); rintro e w1 ⟨rfl, hb1⟩; have HB1 := Aside0.mk (below_step HB.out hb1); have c1 := (HP.out.below hb1).p1; have c2 := (HP.out.below hb1).p2; have c3 := (HP.out.below hb1).p3; clear hb1 HP HB)
  go_ret
  exact ⟨rfl, HB1.out⟩
set_option maxRecDepth 100000 in
set_option maxHeartbeats 2000000 in
theorem check_clock1_1 (a0 : ByteArray) (a2 a3 : Int) (w : World) (hI : board_Is.f a0 = some true) (h3 : decide (a2 < 0) = false) (h4 : decide (120 < a2) = true) :
    Calls Tryd.prog 82 #[.agg #[.string a0, .int .i64 1, .int .i64 a2, .int .i64 a3]] w fun e w' => e = .returned (.int .i64 1) ∧ Below w.heap.size w w' := by
  have HI := Aside0.mk hI
  have HP := Aside0.mk (PosAt.new w a0 1 a2 a3 74)
  have HB := Aside0.mk ((Below.refl w.heap.size w).alloc (Nat.le_refl _) (.cells #[.string a0, .int .i64 1, .int .i64 a2, .int .i64 a3] 74))
  clear hI
  go_enter Tryd.func82, Tryd.ntmps82
  go_wp2_with (go_at_call 50; (with_reducible refine (board_Is.calls _ true _ HI.out).mono ?_); rintro e w1 ⟨rfl, hb1⟩; have HB1 := Aside0.mk (below_step HB.out hb1); have c1 := (HP.out.below hb1).p1; have c2 := (HP.out.below hb1).p2; have c3 := (HP.out.below hb1).p3; clear hb1 HP HB)
  go_ret
  exact ⟨rfl, HB1.out⟩
set_option maxRecDepth 100000 in
set_option maxHeartbeats 2000000 in
theorem check_full0_1 (a0 : ByteArray) (a2 a3 : Int) (w : World) (hI : board_Is.f a0 = some true) (h3 : decide (a2 < 0) = false) (h4 : decide (120 < a2) = false) (h5 : decide (a3 < 1) = true) :
    Calls Tryd.prog 82 #[.agg #[.string a0, .int .i64 1, .int .i64 a2, .int .i64 a3]] w fun e w' => e = .returned (.int .i64 1) ∧ Below w.heap.size w w' := by
  have HI := Aside0.mk hI
  have HP := Aside0.mk (PosAt.new w a0 1 a2 a3 74)
  have HB := Aside0.mk ((Below.refl w.heap.size w).alloc (Nat.le_refl _) (.cells #[.string a0, .int .i64 1, .int .i64 a2, .int .i64 a3] 74))
  clear hI
  go_enter Tryd.func82, Tryd.ntmps82
  go_wp2_with (go_at_call 50; (with_reducible refine (board_Is.calls _ true _ HI.out).mono ?_); rintro e w1 ⟨rfl, hb1⟩; have HB1 := Aside0.mk (below_step HB.out hb1); have c1 := (HP.out.below hb1).p1; have c2 := (HP.out.below hb1).p2; have c3 := (HP.out.below hb1).p3; clear hb1 HP HB)
  go_ret
  exact ⟨rfl, HB1.out⟩
set_option maxRecDepth 100000 in
set_option maxHeartbeats 2000000 in
theorem check_full1_1 (a0 : ByteArray) (a2 a3 : Int) (w : World) (hI : board_Is.f a0 = some true) (h3 : decide (a2 < 0) = false) (h4 : decide (120 < a2) = false) (h5 : decide (a3 < 1) = false) (h6 : decide (9999 < a3) = true) :
    Calls Tryd.prog 82 #[.agg #[.string a0, .int .i64 1, .int .i64 a2, .int .i64 a3]] w fun e w' => e = .returned (.int .i64 1) ∧ Below w.heap.size w w' := by
  have HI := Aside0.mk hI
  have HP := Aside0.mk (PosAt.new w a0 1 a2 a3 74)
  have HB := Aside0.mk ((Below.refl w.heap.size w).alloc (Nat.le_refl _) (.cells #[.string a0, .int .i64 1, .int .i64 a2, .int .i64 a3] 74))
  clear hI
  go_enter Tryd.func82, Tryd.ntmps82
  go_wp2_with (go_at_call 50; (with_reducible refine (board_Is.calls _ true _ HI.out).mono ?_); rintro e w1 ⟨rfl, hb1⟩; have HB1 := Aside0.mk (below_step HB.out hb1); have c1 := (HP.out.below hb1).p1; have c2 := (HP.out.below hb1).p2; have c3 := (HP.out.below hb1).p3; clear hb1 HP HB)
  go_ret
  exact ⟨rfl, HB1.out⟩
set_option maxRecDepth 100000 in
set_option maxHeartbeats 4000000 in
theorem check_main0 (k : Nat) (a0 : ByteArray) (a2 a3 : Int) (rt wb : Bool) (r : Int) (w : World) (hI : board_Is.f a0 = some true) (h3 : decide (a2 < 0) = false) (h4 : decide (120 < a2) = false) (h5 : decide (a3 < 1) = false) (h6 : decide (9999 < a3) = false) (hR : rightB k a0 90 = some rt) (hW : wrongB a0 letters = some wb) (hr : r = if wb = true then 3 else if rt = true then 0 else 2) :
    Calls Tryd.prog 82 #[.agg #[.string a0, .int .i64 0, .int .i64 a2, .int .i64 a3]] w fun e w' => e = .returned (.int .i64 r) ∧ Below w.heap.size w w' := by
  have hsz : a0.size = 90 := by
    unfold board_Is.f at hI; have := Option.some.inj hI; simp at this; exact this.1
  have hs1 : a0.size ≤ 90 := by omega
  have hs2 : 90 ≤ a0.size := by omega
  have HI := Aside0.mk hI
  have HRT := Aside0.mk hR
  have HWR := Aside0.mk hW
  have HR := Aside0.mk hr
  have HP := Aside0.mk (PosAt.new w a0 0 a2 a3 74)
  have HB := Aside0.mk ((Below.refl w.heap.size w).alloc (Nat.le_refl _) (.cells #[.string a0, .int .i64 0, .int .i64 a2, .int .i64 a3] 74))
  clear hI hsz hR hW hr
  go_enter Tryd.func82, Tryd.ntmps82
  go_wp2_with (go_at_call 50; (with_reducible refine (board_Is.calls _ true _ HI.out).mono ?_); rintro e w1 ⟨rfl, hb1⟩; have HB1 := Aside0.mk (below_step HB.out hb1); have HP1 := Aside0.mk (HP.out.below hb1); have c2 := HP1.out.p2; have c1 := HP1.out.p1; have c3 := HP1.out.p3; have HZ := Aside0.mk hb1.size; clear hb1 HP HB)
  have hz := HB1.out.size
  have hz1 : w.heap.size + 1 ≤ w1.heap.size := by simpa using HZ.out
  have hne : w1.heap.size ≠ w.heap.size := by omega
  clear c1 c2 c3 hz HZ
  go_loopw [4, 43] (fun b i wr => ∃ (j : Nat) (bb : Bool), b = .bool bb ∧ i = .int .i64 j ∧ j ≤ 90 ∧ rightB k a0 j = some bb ∧ PosAt wr w.heap.size a0 0 a2 a3 ∧ Counts wr w1.heap.size a0 j ∧ Below w.heap.size w wr) (fun _ i _ => 90 - (intOf i).toNat)
  case atStart =>
    exact ⟨0, true, rfl, rfl, by omega, rfl, HP1.out.below ((Below.refl _ _).alloc (Nat.le_refl _) _), Counts.new w1 a0 _, HB1.out.alloc HB1.out.size _⟩
  case round =>
    clear HP1 HB1
    obtain ⟨j, bb, rfl, rfl, hj, hb, hP, hC, hB⟩ := hrel
    by_cases hlt : j < 90
    · have hk' : j < a0.size := by omega
      have ex : ((a0[j]'hk').toNat : Int) = bt a0 j := by simp [bt, hk']
      have hx : (a0[j]'hk').toNat < 256 := (a0[j]'hk').toNat_lt
      have hxi : ((a0[j]'hk').toNat : Int) < 256 := by omega
      have hx0 : (0 : Int) ≤ ((a0[j]'hk').toNat : Int) := by omega
      have hcb := cntB_bound a0 ((a0[j]'hk').toNat : Int) j
      have gC := hC.cell (a0[j]'hk').toNat hx
      have gF := hC.free (a0[j]'hk').toNat hx
      obtain ⟨n, hn⟩ : ∃ n, n = cntB a0 ((a0[j]'hk').toNat : Int) j := ⟨_, rfl⟩
      rw [← hn] at hcb gC
      have f0 := hP.p0
      have hb' := hb
      have HC2 := Aside0.mk (hC.step (a0[j]'hk').toNat hx ex.symm (n + 1) (by rw [hn]))
      have HP2 := Aside0.mk (hP.set w1.heap.size (a0[j]'hk').toNat (.int .i64 (n + 1)) hne)
      have HB2 := Aside0.mk (hB.setCell (p := ⟨w1.heap.size, (a0[j]'hk').toNat, none⟩) (by show w.heap.size ≤ w1.heap.size; omega) (.int .i64 (n + 1)))
      obtain ⟨b2, hb2⟩ := rightB_le k a0 (j + 1) (90 - (j + 1)) rt (by rw [show j + 1 + (90 - (j + 1)) = 90 by omega]; exact HRT.out)
      have hb3 := hb2
      rw [show rightB k a0 (j + 1) = ((rightB k a0 j).bind fun b => if b = true then (if bt a0 j = 46 then some true else place_May.f k (bt a0 j) j) else some false) from rfl, hb, Option.bind_some, ← ex] at hb3
      have HRJ := Aside0.mk hb2
      clear hb hb' hb2 hP hC hB hn ex
      cases bb with
      | false =>
        rw [if_neg (by decide)] at hb3
        obtain rfl := Option.some.inj hb3
        clear hb3
        go_wp2
        go_roundw
        case rel => exact ⟨j + 1, false, rfl, by go_num, by omega, HRJ.out, HP2.out, HC2.out, HB2.out⟩
        case measure => simp [intOf]; omega
      | true =>
        rw [if_pos rfl] at hb3
        by_cases e46 : ((a0[j]'hk').toNat : Int) = 46
        · rw [if_pos e46] at hb3
          obtain rfl := Option.some.inj hb3
          have b46 : (((a0[j]'hk').toNat : Int) == 46) = true := by rw [e46]; rfl
          clear hb3 e46
          go_wp2
          go_roundw
          case rel => exact ⟨j + 1, true, rfl, by go_num, by omega, HRJ.out, HP2.out, HC2.out, HB2.out⟩
          case measure => simp [intOf]; omega
        · rw [if_neg e46] at hb3
          have b46 : (((a0[j]'hk').toNat : Int) == 46) = false := by simpa using e46
          have HM := Aside0.mk hb3
          clear hb3 e46
          go_wp2_with (go_at_call 71; (with_reducible refine (place_May.calls k _ _ b2 _ HM.out).mono ?_); rintro e w2 ⟨rfl, hb4⟩; have HP3 := Aside0.mk (HP2.out.below hb4); have HC3 := Aside0.mk (HC2.out.below hb4); have HB3 := Aside0.mk (below_step HB2.out hb4); clear hb4)
          go_roundw
          case rel => exact ⟨j + 1, b2, rfl, by go_num, by omega, HRJ.out, HP3.out, HC3.out, HB3.out⟩
          case measure => simp [intOf]; omega
    · obtain rfl : j = 90 := by omega
      obtain rfl : bb = rt := Option.some.inj (hb.symm.trans HRT.out)
      have HP := Aside0.mk hP
      have HC := Aside0.mk hC
      have HB := Aside0.mk hB
      clear hb hP hC hB hlt hj
      have hcv := Lib.run_convert_bytes_const (P := Tryd.prog) wr 93 5 letterCells 14 14 Tryd.underlying93 Tryd.underlying5
      unfold letterCells at hcv
      have HL0 := Aside0.mk (LettersAt.new wr 5 (14, 15))
      have HC0 := Aside0.mk (HC.out.below ((Below.refl wr.heap.size wr).alloc (Nat.le_refl _) (.cells letterCells 5 (14, 15))))
      have HB0 := Aside0.mk (HB.out.alloc HB.out.size (.cells letterCells 5 (14, 15)))
      clear HP HC HB
      go_wp2
      go_loopw [69] (fun i w2 => ∃ j : Nat, i = .int .i64 j ∧ j ≤ 14 ∧ wrongB a0 (letters.drop j) = some wb ∧ LettersAt w2 wr.heap.size ∧ Counts w2 w1.heap.size a0 90 ∧ Below w.heap.size w w2) (fun i _ => 14 - (intOf i).toNat)
      case atStart => exact ⟨0, rfl, by omega, HWR.out, HL0.out, HC0.out, HB0.out⟩
      case round =>
        clear hcv HL0 HC0 HB0
        obtain ⟨j, rfl, hj, hw, hL, hC, hB⟩ := hrel
        by_cases hlt : j < 14
        · have gL := hL.cell j hlt
          obtain ⟨c0, c256, hdr⟩ := letter_in ⟨j, hlt⟩
          have hdr' : letters.drop j = letters.getD j 0 :: letters.drop (j + 1) := hdr
          rw [hdr'] at hw
          clear hdr hdr'
          have gC := hC.cell (letters.getD j 0).toNat (by have : letters.getD j 0 < 256 := c256; omega)
          have e0 : ((letters.getD j 0).toNat : Int) = letters.getD j 0 := Int.toNat_of_nonneg c0
          rw [e0] at gC
          have c0' : 0 ≤ letters.getD j 0 := c0
          have c256' : letters.getD j 0 < 256 := c256
          obtain ⟨c, hc⟩ : ∃ c, c = letters.getD j 0 := ⟨_, rfl⟩
          rw [← hc] at gL gC hw c0' c256'
          have HL := Aside0.mk hL
          have HC := Aside0.mk hC
          have HB := Aside0.mk hB
          clear c0 c256 e0 hL hC hB hc
          obtain ⟨n, hn⟩ : ∃ n, n = cntB a0 c 90 := ⟨_, rfl⟩
          obtain ⟨m, hm, hw⟩ := Option.bind_eq_some_iff.mp (show ((place_Most.f c).bind fun m => if cntB a0 c 90 > m then some true else (board_Kind.f c).bind fun d => if d = 75 then (if cntB a0 c 90 = 1 then wrongB a0 (letters.drop (j + 1)) else some true) else wrongB a0 (letters.drop (j + 1))) = some wb from hw)
          rw [← hn] at hw gC
          clear hn
          have quietM : ∀ q : Nat, Calls Tryd.prog 75 #[.int .u8 c] (wr.drewN q) fun e w'' => e = .returned (.int .i64 m) ∧ ∃ q, w'' = wr.drewN q := fun q =>
            Calls.quiet_of ((place_Most.calls c m _ hm).mono fun e w' ⟨he, hd⟩ => ⟨he, hd.out⟩)
          by_cases g1 : n > m
          · rw [if_pos g1] at hw
            obtain rfl := Option.some.inj hw
            have d1 : decide (m < n) = true := decide_eq_true g1
            clear hw g1 hm
            go_wp2
            go_quiet (first | (go_at_call 75; exact quietM _))
            go_wp2
            go_ret
            exact ⟨by rw [HR.out]; rfl, pw_below_drewN HB.out _⟩
          · rw [if_neg g1] at hw
            have d1 : decide (m < n) = false := decide_eq_false g1
            obtain ⟨d, hd, hw⟩ := Option.bind_eq_some_iff.mp hw
            have quietK : ∀ q : Nat, Calls Tryd.prog 63 #[.int .u8 c] (wr.drewN q) fun e w'' => e = .returned (.int .u8 d) ∧ ∃ q, w'' = wr.drewN q := fun q =>
              Calls.quiet_of ((board_Kind.calls c d _ hd).mono fun e w' ⟨he, hd⟩ => ⟨he, hd.out⟩)
            by_cases g2 : d = 75
            · rw [if_pos g2] at hw
              have d2 : (d == 75) = true := by rw [g2]; rfl
              by_cases g3 : n = 1
              · rw [if_pos g3] at hw
                have d3 : (n != 1) = false := by rw [g3]; rfl
                have HW := Aside0.mk hw
                clear hw g1 g2 g3 hm hd
                go_wp2
                go_quiet (first | (go_at_call 75; exact quietM _) | (go_at_call 63; exact quietK _))
                go_wp2
                go_roundw
                case rel => exact ⟨j + 1, by go_num, by omega, HW.out, ⟨HL.out.cell⟩, ⟨HC.out.cell, HC.out.free⟩, pw_below_drewN HB.out _⟩
                case measure => simp [intOf]; omega
              · rw [if_neg g3] at hw
                obtain rfl := Option.some.inj hw
                have d3 : (n != 1) = true := by simpa using g3
                clear hw g1 g2 g3 hm hd
                go_wp2
                go_quiet (first | (go_at_call 75; exact quietM _) | (go_at_call 63; exact quietK _))
                go_wp2
                go_ret
                exact ⟨by rw [HR.out]; rfl, pw_below_drewN HB.out _⟩
            · rw [if_neg g2] at hw
              have d2 : (d == 75) = false := by simpa using g2
              have HW := Aside0.mk hw
              clear hw g1 g2 hm hd
              go_wp2
              go_quiet (first | (go_at_call 75; exact quietM _) | (go_at_call 63; exact quietK _))
              go_wp2
              go_roundw
              case rel => exact ⟨j + 1, by go_num, by omega, HW.out, ⟨HL.out.cell⟩, ⟨HC.out.cell, HC.out.free⟩, pw_below_drewN HB.out _⟩
              case measure => simp [intOf]; omega
        · obtain rfl : j = 14 := by omega
          obtain rfl : false = wb := Option.some.inj hw
          have HB := Aside0.mk hB
          clear hw hL hC hB hlt hj
          cases bb with
          | true =>
            go_wp2
            go_ret
            exact ⟨by rw [HR.out]; rfl, HB.out⟩
          | false =>
            go_wp2
            go_ret
            exact ⟨by rw [HR.out]; rfl, HB.out⟩
set_option maxRecDepth 100000 in
set_option maxHeartbeats 4000000 in
theorem check_main1 (k : Nat) (a0 : ByteArray) (a2 a3 : Int) (rt wb : Bool) (r : Int) (w : World) (hI : board_Is.f a0 = some true) (h3 : decide (a2 < 0) = false) (h4 : decide (120 < a2) = false) (h5 : decide (a3 < 1) = false) (h6 : decide (9999 < a3) = false) (hR : rightB k a0 90 = some rt) (hW : wrongB a0 letters = some wb) (hr : r = if wb = true then 3 else if rt = true then 0 else 2) :
    Calls Tryd.prog 82 #[.agg #[.string a0, .int .i64 1, .int .i64 a2, .int .i64 a3]] w fun e w' => e = .returned (.int .i64 r) ∧ Below w.heap.size w w' := by
  have hsz : a0.size = 90 := by
    unfold board_Is.f at hI; have := Option.some.inj hI; simp at this; exact this.1
  have hs1 : a0.size ≤ 90 := by omega
  have hs2 : 90 ≤ a0.size := by omega
  have HI := Aside0.mk hI
  have HRT := Aside0.mk hR
  have HWR := Aside0.mk hW
  have HR := Aside0.mk hr
  have HP := Aside0.mk (PosAt.new w a0 1 a2 a3 74)
  have HB := Aside0.mk ((Below.refl w.heap.size w).alloc (Nat.le_refl _) (.cells #[.string a0, .int .i64 1, .int .i64 a2, .int .i64 a3] 74))
  clear hI hsz hR hW hr
  go_enter Tryd.func82, Tryd.ntmps82
  go_wp2_with (go_at_call 50; (with_reducible refine (board_Is.calls _ true _ HI.out).mono ?_); rintro e w1 ⟨rfl, hb1⟩; have HB1 := Aside0.mk (below_step HB.out hb1); have HP1 := Aside0.mk (HP.out.below hb1); have c2 := HP1.out.p2; have c1 := HP1.out.p1; have c3 := HP1.out.p3; have HZ := Aside0.mk hb1.size; clear hb1 HP HB)
  have hz := HB1.out.size
  have hz1 : w.heap.size + 1 ≤ w1.heap.size := by simpa using HZ.out
  have hne : w1.heap.size ≠ w.heap.size := by omega
  clear c1 c2 c3 hz HZ
  go_loopw [4, 43] (fun b i wr => ∃ (j : Nat) (bb : Bool), b = .bool bb ∧ i = .int .i64 j ∧ j ≤ 90 ∧ rightB k a0 j = some bb ∧ PosAt wr w.heap.size a0 1 a2 a3 ∧ Counts wr w1.heap.size a0 j ∧ Below w.heap.size w wr) (fun _ i _ => 90 - (intOf i).toNat)
  case atStart =>
    exact ⟨0, true, rfl, rfl, by omega, rfl, HP1.out.below ((Below.refl _ _).alloc (Nat.le_refl _) _), Counts.new w1 a0 _, HB1.out.alloc HB1.out.size _⟩
  case round =>
    clear HP1 HB1
    obtain ⟨j, bb, rfl, rfl, hj, hb, hP, hC, hB⟩ := hrel
    by_cases hlt : j < 90
    · have hk' : j < a0.size := by omega
      have ex : ((a0[j]'hk').toNat : Int) = bt a0 j := by simp [bt, hk']
      have hx : (a0[j]'hk').toNat < 256 := (a0[j]'hk').toNat_lt
      have hxi : ((a0[j]'hk').toNat : Int) < 256 := by omega
      have hx0 : (0 : Int) ≤ ((a0[j]'hk').toNat : Int) := by omega
      have hcb := cntB_bound a0 ((a0[j]'hk').toNat : Int) j
      have gC := hC.cell (a0[j]'hk').toNat hx
      have gF := hC.free (a0[j]'hk').toNat hx
      obtain ⟨n, hn⟩ : ∃ n, n = cntB a0 ((a0[j]'hk').toNat : Int) j := ⟨_, rfl⟩
      rw [← hn] at hcb gC
      have f0 := hP.p0
      have hb' := hb
      have HC2 := Aside0.mk (hC.step (a0[j]'hk').toNat hx ex.symm (n + 1) (by rw [hn]))
      have HP2 := Aside0.mk (hP.set w1.heap.size (a0[j]'hk').toNat (.int .i64 (n + 1)) hne)
      have HB2 := Aside0.mk (hB.setCell (p := ⟨w1.heap.size, (a0[j]'hk').toNat, none⟩) (by show w.heap.size ≤ w1.heap.size; omega) (.int .i64 (n + 1)))
      obtain ⟨b2, hb2⟩ := rightB_le k a0 (j + 1) (90 - (j + 1)) rt (by rw [show j + 1 + (90 - (j + 1)) = 90 by omega]; exact HRT.out)
      have hb3 := hb2
      rw [show rightB k a0 (j + 1) = ((rightB k a0 j).bind fun b => if b = true then (if bt a0 j = 46 then some true else place_May.f k (bt a0 j) j) else some false) from rfl, hb, Option.bind_some, ← ex] at hb3
      have HRJ := Aside0.mk hb2
      clear hb hb' hb2 hP hC hB hn ex
      cases bb with
      | false =>
        rw [if_neg (by decide)] at hb3
        obtain rfl := Option.some.inj hb3
        clear hb3
        go_wp2
        go_roundw
        case rel => exact ⟨j + 1, false, rfl, by go_num, by omega, HRJ.out, HP2.out, HC2.out, HB2.out⟩
        case measure => simp [intOf]; omega
      | true =>
        rw [if_pos rfl] at hb3
        by_cases e46 : ((a0[j]'hk').toNat : Int) = 46
        · rw [if_pos e46] at hb3
          obtain rfl := Option.some.inj hb3
          have b46 : (((a0[j]'hk').toNat : Int) == 46) = true := by rw [e46]; rfl
          clear hb3 e46
          go_wp2
          go_roundw
          case rel => exact ⟨j + 1, true, rfl, by go_num, by omega, HRJ.out, HP2.out, HC2.out, HB2.out⟩
          case measure => simp [intOf]; omega
        · rw [if_neg e46] at hb3
          have b46 : (((a0[j]'hk').toNat : Int) == 46) = false := by simpa using e46
          have HM := Aside0.mk hb3
          clear hb3 e46
          go_wp2_with (go_at_call 71; (with_reducible refine (place_May.calls k _ _ b2 _ HM.out).mono ?_); rintro e w2 ⟨rfl, hb4⟩; have HP3 := Aside0.mk (HP2.out.below hb4); have HC3 := Aside0.mk (HC2.out.below hb4); have HB3 := Aside0.mk (below_step HB2.out hb4); clear hb4)
          go_roundw
          case rel => exact ⟨j + 1, b2, rfl, by go_num, by omega, HRJ.out, HP3.out, HC3.out, HB3.out⟩
          case measure => simp [intOf]; omega
    · obtain rfl : j = 90 := by omega
      obtain rfl : bb = rt := Option.some.inj (hb.symm.trans HRT.out)
      have HP := Aside0.mk hP
      have HC := Aside0.mk hC
      have HB := Aside0.mk hB
      clear hb hP hC hB hlt hj
      have hcv := Lib.run_convert_bytes_const (P := Tryd.prog) wr 93 5 letterCells 14 14 Tryd.underlying93 Tryd.underlying5
      unfold letterCells at hcv
      have HL0 := Aside0.mk (LettersAt.new wr 5 (14, 15))
      have HC0 := Aside0.mk (HC.out.below ((Below.refl wr.heap.size wr).alloc (Nat.le_refl _) (.cells letterCells 5 (14, 15))))
      have HB0 := Aside0.mk (HB.out.alloc HB.out.size (.cells letterCells 5 (14, 15)))
      clear HP HC HB
      go_wp2
      go_loopw [69] (fun i w2 => ∃ j : Nat, i = .int .i64 j ∧ j ≤ 14 ∧ wrongB a0 (letters.drop j) = some wb ∧ LettersAt w2 wr.heap.size ∧ Counts w2 w1.heap.size a0 90 ∧ Below w.heap.size w w2) (fun i _ => 14 - (intOf i).toNat)
      case atStart => exact ⟨0, rfl, by omega, HWR.out, HL0.out, HC0.out, HB0.out⟩
      case round =>
        clear hcv HL0 HC0 HB0
        obtain ⟨j, rfl, hj, hw, hL, hC, hB⟩ := hrel
        by_cases hlt : j < 14
        · have gL := hL.cell j hlt
          obtain ⟨c0, c256, hdr⟩ := letter_in ⟨j, hlt⟩
          have hdr' : letters.drop j = letters.getD j 0 :: letters.drop (j + 1) := hdr
          rw [hdr'] at hw
          clear hdr hdr'
          have gC := hC.cell (letters.getD j 0).toNat (by have : letters.getD j 0 < 256 := c256; omega)
          have e0 : ((letters.getD j 0).toNat : Int) = letters.getD j 0 := Int.toNat_of_nonneg c0
          rw [e0] at gC
          have c0' : 0 ≤ letters.getD j 0 := c0
          have c256' : letters.getD j 0 < 256 := c256
          obtain ⟨c, hc⟩ : ∃ c, c = letters.getD j 0 := ⟨_, rfl⟩
          rw [← hc] at gL gC hw c0' c256'
          have HL := Aside0.mk hL
          have HC := Aside0.mk hC
          have HB := Aside0.mk hB
          clear c0 c256 e0 hL hC hB hc
          obtain ⟨n, hn⟩ : ∃ n, n = cntB a0 c 90 := ⟨_, rfl⟩
          obtain ⟨m, hm, hw⟩ := Option.bind_eq_some_iff.mp (show ((place_Most.f c).bind fun m => if cntB a0 c 90 > m then some true else (board_Kind.f c).bind fun d => if d = 75 then (if cntB a0 c 90 = 1 then wrongB a0 (letters.drop (j + 1)) else some true) else wrongB a0 (letters.drop (j + 1))) = some wb from hw)
          rw [← hn] at hw gC
          clear hn
          have quietM : ∀ q : Nat, Calls Tryd.prog 75 #[.int .u8 c] (wr.drewN q) fun e w'' => e = .returned (.int .i64 m) ∧ ∃ q, w'' = wr.drewN q := fun q =>
            Calls.quiet_of ((place_Most.calls c m _ hm).mono fun e w' ⟨he, hd⟩ => ⟨he, hd.out⟩)
          by_cases g1 : n > m
          · rw [if_pos g1] at hw
            obtain rfl := Option.some.inj hw
            have d1 : decide (m < n) = true := decide_eq_true g1
            clear hw g1 hm
            go_wp2
            go_quiet (first | (go_at_call 75; exact quietM _))
            go_wp2
            go_ret
            exact ⟨by rw [HR.out]; rfl, pw_below_drewN HB.out _⟩
          · rw [if_neg g1] at hw
            have d1 : decide (m < n) = false := decide_eq_false g1
            obtain ⟨d, hd, hw⟩ := Option.bind_eq_some_iff.mp hw
            have quietK : ∀ q : Nat, Calls Tryd.prog 63 #[.int .u8 c] (wr.drewN q) fun e w'' => e = .returned (.int .u8 d) ∧ ∃ q, w'' = wr.drewN q := fun q =>
              Calls.quiet_of ((board_Kind.calls c d _ hd).mono fun e w' ⟨he, hd⟩ => ⟨he, hd.out⟩)
            by_cases g2 : d = 75
            · rw [if_pos g2] at hw
              have d2 : (d == 75) = true := by rw [g2]; rfl
              by_cases g3 : n = 1
              · rw [if_pos g3] at hw
                have d3 : (n != 1) = false := by rw [g3]; rfl
                have HW := Aside0.mk hw
                clear hw g1 g2 g3 hm hd
                go_wp2
                go_quiet (first | (go_at_call 75; exact quietM _) | (go_at_call 63; exact quietK _))
                go_wp2
                go_roundw
                case rel => exact ⟨j + 1, by go_num, by omega, HW.out, ⟨HL.out.cell⟩, ⟨HC.out.cell, HC.out.free⟩, pw_below_drewN HB.out _⟩
                case measure => simp [intOf]; omega
              · rw [if_neg g3] at hw
                obtain rfl := Option.some.inj hw
                have d3 : (n != 1) = true := by simpa using g3
                clear hw g1 g2 g3 hm hd
                go_wp2
                go_quiet (first | (go_at_call 75; exact quietM _) | (go_at_call 63; exact quietK _))
                go_wp2
                go_ret
                exact ⟨by rw [HR.out]; rfl, pw_below_drewN HB.out _⟩
            · rw [if_neg g2] at hw
              have d2 : (d == 75) = false := by simpa using g2
              have HW := Aside0.mk hw
              clear hw g1 g2 hm hd
              go_wp2
              go_quiet (first | (go_at_call 75; exact quietM _) | (go_at_call 63; exact quietK _))
              go_wp2
              go_roundw
              case rel => exact ⟨j + 1, by go_num, by omega, HW.out, ⟨HL.out.cell⟩, ⟨HC.out.cell, HC.out.free⟩, pw_below_drewN HB.out _⟩
              case measure => simp [intOf]; omega
        · obtain rfl : j = 14 := by omega
          obtain rfl : false = wb := Option.some.inj hw
          have HB := Aside0.mk hB
          clear hw hL hC hB hlt hj
          cases bb with
          | true =>
            go_wp2
            go_ret
            exact ⟨by rw [HR.out]; rfl, HB.out⟩
          | false =>
            go_wp2
            go_ret
            exact ⟨by rw [HR.out]; rfl, HB.out⟩
theorem place_Check.calls (k : Nat) (a0_0 : ByteArray) (a0_1 : Int) (a0_2 : Int) (a0_3 : Int) (r : Int) (w : World) (h : place_Check.f k a0_0 a0_1 a0_2 a0_3 = some r) :
    Calls Tryd.prog 82 #[.agg #[.string a0_0, .int .i64 a0_1, .int .i64 a0_2, .int .i64 a0_3]] w fun e w' => e = .returned (.int .i64 r) ∧ Below w.heap.size w w' := by
  unfold place_Check.f at h
  obtain ⟨t, ht, h⟩ := Option.bind_eq_some_iff.mp h
  cases t with
  | false =>
    rw [if_pos (Or.inl rfl)] at h
    obtain rfl := Option.some.inj h
    exact check_no a0_0 a0_1 a0_2 a0_3 w ht
  | true =>
    by_cases s0 : a0_1 = 0 ∨ a0_1 = 1
    case neg =>
      rw [if_pos (by omega)] at h
      obtain rfl := Option.some.inj h
      exact check_side a0_0 a0_1 a0_2 a0_3 w ht (by simp; omega) (by simp; omega)
    by_cases g3 : a0_2 < 0
    · rw [if_pos (by omega)] at h
      obtain rfl := Option.some.inj h
      rcases s0 with rfl | rfl
      · exact check_clock0_0 a0_0 a0_2 a0_3 w ht (decide_eq_true g3)
      · exact check_clock0_1 a0_0 a0_2 a0_3 w ht (decide_eq_true g3)
    have h3 := decide_eq_false g3
    by_cases g4 : 120 < a0_2
    · rw [if_pos (by omega)] at h
      obtain rfl := Option.some.inj h
      rcases s0 with rfl | rfl
      · exact check_clock1_0 a0_0 a0_2 a0_3 w ht h3 (decide_eq_true g4)
      · exact check_clock1_1 a0_0 a0_2 a0_3 w ht h3 (decide_eq_true g4)
    have h4 := decide_eq_false g4
    by_cases g5 : a0_3 < 1
    · rw [if_pos (by omega)] at h
      obtain rfl := Option.some.inj h
      rcases s0 with rfl | rfl
      · exact check_full0_0 a0_0 a0_2 a0_3 w ht h3 h4 (decide_eq_true g5)
      · exact check_full0_1 a0_0 a0_2 a0_3 w ht h3 h4 (decide_eq_true g5)
    have h5 := decide_eq_false g5
    by_cases g6 : 9999 < a0_3
    · rw [if_pos (by omega)] at h
      obtain rfl := Option.some.inj h
      rcases s0 with rfl | rfl
      · exact check_full1_0 a0_0 a0_2 a0_3 w ht h3 h4 h5 (decide_eq_true g6)
      · exact check_full1_1 a0_0 a0_2 a0_3 w ht h3 h4 h5 (decide_eq_true g6)
    have h6 := decide_eq_false g6
    rw [if_neg (by simp; omega)] at h
    obtain ⟨rt, hR, h⟩ := Option.bind_eq_some_iff.mp h
    obtain ⟨wr, hW, h⟩ := Option.bind_eq_some_iff.mp h
    have hr : r = if wr = true then 3 else if rt = true then 0 else 2 := by
      cases wr with
      | true => rw [if_pos rfl] at h; exact (Option.some.inj h).symm
      | false => rw [if_neg (by decide)] at h; exact (Option.some.inj h).symm
    rcases s0 with rfl | rfl
    · exact check_main0 k a0_0 a0_2 a0_3 rt wr r w ht h3 h4 h5 h6 hR hW hr
    · exact check_main1 k a0_0 a0_2 a0_3 rt wr r w ht h3 h4 h5 h6 hR hW hr

end Go.Proofs.YtkbimiimgcklaaaDoor.Print
