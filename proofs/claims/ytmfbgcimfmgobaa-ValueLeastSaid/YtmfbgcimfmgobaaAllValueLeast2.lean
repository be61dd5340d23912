/- Merged by a program of this session (wip/gprint/merge.py): what this claim needs of this session's texts, each part as it was. -/
import Derived.Test.YtmfbgcimfmgobaaAllValueLeast1

-- of YtmfbgcimfmgobaaPrint32
-- Written by a program of this session (wip/gprint/gprint.py) over the kit's print; the parts marked GIVEN by hand.
namespace Go.Proofs.Ytmfbgcimfmgobaa.Print
open Go.RowKit Go.Proofs.YtmfbgcimfmgobaaW.PrintWords Go.Proofs.YtmfbgcimfmgobaaW.PrintLast Go.Proofs.YtmfbgcimfmgobaaW.PrintMore
attribute [local go_sem] max2_int min2_int max_two min_two max_three min_three max_four min_four   -- for this text's walks alone
set_option linter.unusedVariables false
set_option linter.unusedSimpArgs false
/-! ### value_Moved: function 39 -/
def value_Moved.f (k : Nat) (a0 : Int) (a1 : Int) (a2_0 : Int) (a2_1 : Int) (a3 : Int) : Option (Int) := (value_Piece.f k a1 a2_0).bind fun t332 => ((value_Piece.f k a1 a2_1).bind fun t333 => ((value_Piece.f k a3 a2_1).bind fun t334 => (some (wrap64 ((wrap64 ((wrap64 (t332 - t333)) - t334)) - a0)))))
theorem value_Moved.mono : ∀ a0 a1 a2 a3 a4 k, LeO (value_Moved.f k a0 a1 a2 a3 a4) (value_Moved.f (k + 1) a0 a1 a2 a3 a4) := by
  intro a0 a1 a2 a3 a4 k
  unfold value_Moved.f
  repeat' first
      | (with_reducible exact value_Piece.mono _ _ _)
      | (with_reducible exact LeO.refl _)
      | (with_reducible exact LeO.none _)
      | (with_reducible refine LeO.ite ?_ ?_)
      | (with_reducible refine LeO.bind ?_ (fun _ => ?_))
      | exact value_Piece.mono _ _ _
      | exact LeO.none _
      | refine LeO.ite ?_ ?_
      | refine LeO.bind ?_ (fun _ => ?_)
def value_Moved.T1 : Bool × List (List Nat × List Nat) := (true, [([], []), ([], []), ([1], [1]), ([0, 2], [0, 2]), ([], []), ([], []), ([5], [5]), ([4, 6, 3], [4, 6]), ([3, 7], [3, 7]), ([], []), ([], []), ([10], [10]), ([9, 11, 7], [9, 11]), ([8, 12], [8, 12]), ([], []), ([13, 14], [13, 14]), ([15, 12, 0, 1, 2, 3, 4, 5, 6, 7, 8, 9, 10, 11, 12, 13, 14, 15], [15])])
def value_Moved.B1 : List Nat := [0, 0, 2, 7, 0, 0, 32, 127, 255, 0, 0, 1024, 3839, 8191, 0, 32767, 65535]
theorem value_Moved.tab1 : rtab .any (opsOf Try.f39 1) = value_Moved.T1 := by kernel_rfl
theorem value_Moved.bits1 : waitsOk value_Moved.T1.2 value_Moved.B1 = true := by kernel_rfl
set_option maxHeartbeats 8000000 in
set_option maxRecDepth 100000 in
theorem value_Moved.calls (k : Nat) (a0 : Int) (a1 : Int) (a2_0 : Int) (a2_1 : Int) (a3 : Int) (r : Int) (w : World) (h : value_Moved.f k a0 a1 a2_0 a2_1 a3 = some r) :
    Calls Try.prog 39 #[.int .i64 a0, .int .u8 a1, .agg #[.int .i64 a2_0, .int .i64 a2_1], .int .u8 a3] w fun e w' => e = .returned (.int .i64 r) ∧ Below w.heap.size w w' := by
  have hu41 := Try.underlying41
  have HB := Aside0.mk (Below.refl w.heap.size w)
  have H : ((value_Piece.f k a1 a2_0).bind fun t332 => ((value_Piece.f k a1 a2_1).bind fun t333 => ((value_Piece.f k a3 a2_1).bind fun t334 => (some (wrap64 ((wrap64 ((wrap64 (t332 - t333)) - t334)) - a0)))))) = some r := h
  clear h
  replace H := Option.bind_eq_some_iff.mp H
  obtain ⟨t332, A50, H⟩ := H
  replace H : ((value_Piece.f k a1 a2_1).bind fun t333 => ((value_Piece.f k a3 a2_1).bind fun t334 => (some (wrap64 ((wrap64 ((wrap64 (t332 - t333)) - t334)) - a0))))) = some r := H
  have A5 := Aside0.mk A50
  clear A50
  replace H := Option.bind_eq_some_iff.mp H
  obtain ⟨t333, A60, H⟩ := H
  replace H : ((value_Piece.f k a3 a2_1).bind fun t334 => (some (wrap64 ((wrap64 ((wrap64 (t332 - t333)) - t334)) - a0)))) = some r := H
  have A6 := Aside0.mk A60
  clear A60
  replace H := Option.bind_eq_some_iff.mp H
  obtain ⟨t334, A70, H⟩ := H
  replace H : (some (wrap64 ((wrap64 ((wrap64 (t332 - t333)) - t334)) - a0))) = some r := H
  have A7 := Aside0.mk A70
  clear A70
  obtain rfl := Option.some.inj H
  go_enter Try.func39, Try.ntmps39
  try go_wp2_with (first | ((with_reducible refine gate_dst (N := 6) rfl ?_); refine box_event ?hg (N := 6) ?hd (cs := #[.int .i64 a2_0, .int .i64 a2_1]) (t := 41) ?hr ?_; (case hd => rfl); (case hg => rfl); (case hr => first | (go_simp; done) | (go_simp; rfl)); intro gb331 hg w8 hbox hb; have n0_ := Aside0.mk (below_step (by repeat (first | (with_reducible first | exact HB.out | apply below_alloc | apply pw_below_drewN | apply below_drew1) | exact HB.out)) hb); have n1_ := Aside0.mk (hbox); have n2_ := Aside0.mk ((by rw [hg]; exact (below_size (by repeat (first | (with_reducible first | exact HB.out | apply below_alloc | apply pw_below_drewN | apply below_drew1) | exact HB.out))) : w.heap.size ≤ gb331)); have n3_ := Aside0.mk ((by rw [hg]; exact (below_size (by repeat (first | (with_reducible first | exact HB.out | apply below_alloc | apply pw_below_drewN | apply below_drew1) | exact HB.out))) : w.heap.size ≤ gb331)); clear HB; have HB := n0_; have BK331 := n1_; have GW331 := n2_; have GE331 := n3_; clear n0_ n1_ n2_ n3_; clear hb hbox hg))
  have n0_ := Aside0.mk (blk_drew BK331.out)
  have n1_ := Aside0.mk (below_drew1 HB.out)
  clear BK331
  clear HB
  have BK331 := n0_
  have HB := n1_
  clear n0_ n1_
  refine start_ (n := 17) (S := fun w' => w'.cell? ⟨gb331, 0, none⟩ = some (.int .i64 a2_0) ∧ w'.cell? ⟨gb331, 1, none⟩ = some (.int .i64 a2_1)) (ds := []) #[false, false, false, false, false, false, false, false, false, false, false, false, false, false, false, false, false] (by kernel_rfl) rfl rfl ⟨(blk_cell BK331.out 0).trans rfl, (blk_cell BK331.out 1).trans rfl⟩ (fun hHeld => ?_); refine with_tabW value_Moved.tab1 value_Moved.bits1 (fun HT_ HW_ => ?_)
  generalize w8.drew = w9 at BK331 HB hHeld ⊢
  refine pure_ (i := 0) (N := some 9) (v := ?_) (a' := ?_) #[true, false, false, false, false, false, false, false, false, false, false, false, false, false, false, false, false] rfl rfl (any_of HT_.out (by kernel_rfl)) (fun _ _ _ h => h) (Or.inl ⟨by rfl, ?_⟩) ?_ ?_
  rotate_left
  · intro w'
    go_simp
    with_reducible rfl
  rotate_left
  · simp only [Act.put, List.setIfInBounds_toArray, List.set_cons_zero, List.set_cons_succ, i64_w, i32_w]
    rfl
  refine pure_ (i := 1) (N := some 10) (v := ?_) (a' := ?_) #[true, true, false, false, false, false, false, false, false, false, false, false, false, false, false, false, false] rfl rfl (any_of HT_.out (by kernel_rfl)) (fun _ _ _ h => h) (Or.inl ⟨by rfl, ?_⟩) ?_ ?_
  rotate_left
  · intro w'
    go_simp
    with_reducible rfl
  rotate_left
  · simp only [Act.put, List.setIfInBounds_toArray, List.set_cons_zero, List.set_cons_succ, i64_w, i32_w]
    rfl
  refine pure_ (i := 4) (N := some 13) (v := ?_) (a' := ?_) #[true, true, false, false, true, false, false, false, false, false, false, false, false, false, false, false, false] rfl rfl (any_of HT_.out (by kernel_rfl)) (fun _ _ _ h => h) (Or.inl ⟨by rfl, ?_⟩) ?_ ?_
  rotate_left
  · intro w'
    go_simp
    with_reducible rfl
  rotate_left
  · simp only [Act.put, List.setIfInBounds_toArray, List.set_cons_zero, List.set_cons_succ, i64_w, i32_w]
    rfl
  refine pure_ (i := 5) (N := some 14) (v := ?_) (a' := ?_) #[true, true, false, false, true, true, false, false, false, false, false, false, false, false, false, false, false] rfl rfl (any_of HT_.out (by kernel_rfl)) (fun _ _ _ h => h) (Or.inl ⟨by rfl, ?_⟩) ?_ ?_
  rotate_left
  · intro w'
    go_simp
    with_reducible rfl
  rotate_left
  · simp only [Act.put, List.setIfInBounds_toArray, List.set_cons_zero, List.set_cons_succ, i64_w, i32_w]
    rfl
  refine pure_ (i := 9) (N := some 18) (v := ?_) (a' := ?_) #[true, true, false, false, true, true, false, false, false, true, false, false, false, false, false, false, false] rfl rfl (any_of HT_.out (by kernel_rfl)) (fun _ _ _ h => h) (Or.inl ⟨by rfl, ?_⟩) ?_ ?_
  rotate_left
  · intro w'
    go_simp
    with_reducible rfl
  rotate_left
  · simp only [Act.put, List.setIfInBounds_toArray, List.set_cons_zero, List.set_cons_succ, i64_w, i32_w]
    rfl
  refine pure_ (i := 10) (N := some 19) (v := ?_) (a' := ?_) #[true, true, false, false, true, true, false, false, false, true, true, false, false, false, false, false, false] rfl rfl (any_of HT_.out (by kernel_rfl)) (fun _ _ _ h => h) (Or.inl ⟨by rfl, ?_⟩) ?_ ?_
  rotate_left
  · intro w'
    go_simp
    with_reducible rfl
  rotate_left
  · simp only [Act.put, List.setIfInBounds_toArray, List.set_cons_zero, List.set_cons_succ, i64_w, i32_w]
    rfl
  refine pure_ (i := 14) (N := some 23) (v := ?_) (a' := ?_) #[true, true, false, false, true, true, false, false, false, true, true, false, false, false, true, false, false] rfl rfl (any_of HT_.out (by kernel_rfl)) (fun _ _ _ h => h) (Or.inl ⟨by rfl, ?_⟩) ?_ ?_
  rotate_left
  · intro w'
    go_simp
    with_reducible rfl
  rotate_left
  · simp only [Act.put, List.setIfInBounds_toArray, List.set_cons_zero, List.set_cons_succ, i64_w, i32_w]
    rfl
  refine take_ (i := 2) (N := some 11) (v := ?_) (a' := ?_) #[true, true, true, false, true, true, false, false, false, true, true, false, false, false, true, false, false] rfl rfl (take_ofW HT_.out HW_.out (by kernel_rfl)) (fun _ _ _ h => h) (Or.inl ⟨by rfl, ?_⟩) hHeld ?_ ?_
  rotate_left
  · rintro w' ⟨s0, s1⟩
    go_simp
    with_reducible rfl
  rotate_left
  · simp only [Act.put, List.setIfInBounds_toArray, List.set_cons_zero, List.set_cons_succ, i64_w, i32_w]
    rfl
  refine take_ (i := 6) (N := some 15) (v := ?_) (a' := ?_) #[true, true, true, false, true, true, true, false, false, true, true, false, false, false, true, false, false] rfl rfl (take_ofW HT_.out HW_.out (by kernel_rfl)) (fun _ _ _ h => h) (Or.inl ⟨by rfl, ?_⟩) hHeld ?_ ?_
  rotate_left
  · rintro w' ⟨s0, s1⟩
    go_simp
    with_reducible rfl
  rotate_left
  · simp only [Act.put, List.setIfInBounds_toArray, List.set_cons_zero, List.set_cons_succ, i64_w, i32_w]
    rfl
  refine take_ (i := 11) (N := some 20) (v := ?_) (a' := ?_) #[true, true, true, false, true, true, true, false, false, true, true, true, false, false, true, false, false] rfl rfl (take_ofW HT_.out HW_.out (by kernel_rfl)) (fun _ _ _ h => h) (Or.inl ⟨by rfl, ?_⟩) hHeld ?_ ?_
  rotate_left
  · rintro w' ⟨s0, s1⟩
    go_simp
    with_reducible rfl
  rotate_left
  · simp only [Act.put, List.setIfInBounds_toArray, List.set_cons_zero, List.set_cons_succ, i64_w, i32_w]
    rfl
  refine one_ (i := 3) (N := some 12) #[true, true, true, true, true, true, true, false, false, true, true, true, false, false, true, false, false] rfl rfl (one_of HT_.out (by kernel_rfl)) (by decide) (fun K hK => ?_)
  refine goes_ Try.func34 (by kernel_rfl) rfl #[.int .u8 a1, .int .i64 a2_0] (by rfl) rfl rfl (by (try simp only [List.map_toArray, List.map_cons, List.map_nil]); first | done | rfl | (simp only [List.length_drop, List.length_take]; rfl)) ?_
  with_reducible refine (value_Piece.calls k a1 a2_0 t332 _ A5.out).mono ?_
  rintro e w10 ⟨rfl, hb⟩
  refine ⟨_, rfl, ?_⟩
  have n0_ := Aside0.mk (blk_below (g := gb331) (o := .cells #[.int .i64 a2_0, .int .i64 a2_1] 41 (0, 0)) (by (with_reducible repeat (first | refine blk_drewN ?_ _ | refine blk_drew ?_ | refine blk_alloc ?_ _)); exact BK331.out) hb)
  have n1_ := Aside0.mk (below_step (by repeat (first | (with_reducible first | exact HB.out | apply below_alloc | apply pw_below_drewN | apply below_drew1 | refine below_set ?_ GE331.out) | exact HB.out)) hb)
  clear BK331
  clear HB
  have BK331 := n0_
  have HB := n1_
  clear n0_ n1_
  (try clear hb)
  (try clear hb2)
  (try clear hk)
  (try clear hi)
  refine hK.out _ _ ⟨(blk_cell BK331.out 0).trans rfl, (blk_cell BK331.out 1).trans rfl⟩ (fun hHeld => ?_)
  clear hK K
  refine norm_ (a' := ?_) ?_ ?_
  rotate_left
  · show Act.put _ (some 12) _ = _
    simp only [Act.put, List.setIfInBounds_toArray, List.set_cons_zero, List.set_cons_succ, i64_w, i32_w]
    rfl
  refine one_ (i := 7) (N := some 16) #[true, true, true, true, true, true, true, true, false, true, true, true, false, false, true, false, false] rfl rfl (one_of HT_.out (by kernel_rfl)) (by decide) (fun K hK => ?_)
  refine goes_ Try.func34 (by kernel_rfl) rfl #[.int .u8 a1, .int .i64 a2_1] (by rfl) rfl rfl (by (try simp only [List.map_toArray, List.map_cons, List.map_nil]); first | done | rfl | (simp only [List.length_drop, List.length_take]; rfl)) ?_
  with_reducible refine (value_Piece.calls k a1 a2_1 t333 _ A6.out).mono ?_
  rintro e w11 ⟨rfl, hb⟩
  refine ⟨_, rfl, ?_⟩
  have n0_ := Aside0.mk (blk_below (g := gb331) (o := .cells #[.int .i64 a2_0, .int .i64 a2_1] 41 (0, 0)) (by (with_reducible repeat (first | refine blk_drewN ?_ _ | refine blk_drew ?_ | refine blk_alloc ?_ _)); exact BK331.out) hb)
  have n1_ := Aside0.mk (below_step (by repeat (first | (with_reducible first | exact HB.out | apply below_alloc | apply pw_below_drewN | apply below_drew1 | refine below_set ?_ GE331.out) | exact HB.out)) hb)
  clear BK331
  clear HB
  have BK331 := n0_
  have HB := n1_
  clear n0_ n1_
  (try clear hb)
  (try clear hb2)
  (try clear hk)
  (try clear hi)
  refine hK.out _ _ ⟨(blk_cell BK331.out 0).trans rfl, (blk_cell BK331.out 1).trans rfl⟩ (fun hHeld => ?_)
  clear hK K
  refine norm_ (a' := ?_) ?_ ?_
  rotate_left
  · show Act.put _ (some 16) _ = _
    simp only [Act.put, List.setIfInBounds_toArray, List.set_cons_zero, List.set_cons_succ, i64_w, i32_w]
    rfl
  refine pure_ (i := 8) (N := some 17) (v := ?_) (a' := ?_) #[true, true, true, true, true, true, true, true, true, true, true, true, false, false, true, false, false] rfl rfl (any_of HT_.out (by kernel_rfl)) (fun _ _ _ h => h) (Or.inl ⟨by rfl, ?_⟩) ?_ ?_
  rotate_left
  · intro w'
    go_simp
    with_reducible rfl
  rotate_left
  · simp only [Act.put, List.setIfInBounds_toArray, List.set_cons_zero, List.set_cons_succ, i64_w, i32_w]
    rfl
  refine one_ (i := 12) (N := some 21) #[true, true, true, true, true, true, true, true, true, true, true, true, true, false, true, false, false] rfl rfl (one_of HT_.out (by kernel_rfl)) (by decide) (fun K hK => ?_)
  refine goes_ Try.func34 (by kernel_rfl) rfl #[.int .u8 a3, .int .i64 a2_1] (by rfl) rfl rfl (by (try simp only [List.map_toArray, List.map_cons, List.map_nil]); first | done | rfl | (simp only [List.length_drop, List.length_take]; rfl)) ?_
  with_reducible refine (value_Piece.calls k a3 a2_1 t334 _ A7.out).mono ?_
  rintro e w12 ⟨rfl, hb⟩
  refine ⟨_, rfl, ?_⟩
  have n0_ := Aside0.mk (blk_below (g := gb331) (o := .cells #[.int .i64 a2_0, .int .i64 a2_1] 41 (0, 0)) (by (with_reducible repeat (first | refine blk_drewN ?_ _ | refine blk_drew ?_ | refine blk_alloc ?_ _)); exact BK331.out) hb)
  have n1_ := Aside0.mk (below_step (by repeat (first | (with_reducible first | exact HB.out | apply below_alloc | apply pw_below_drewN | apply below_drew1 | refine below_set ?_ GE331.out) | exact HB.out)) hb)
  clear BK331
  clear HB
  have BK331 := n0_
  have HB := n1_
  clear n0_ n1_
  (try clear hb)
  (try clear hb2)
  (try clear hk)
  (try clear hi)
  refine hK.out _ _ ⟨(blk_cell BK331.out 0).trans rfl, (blk_cell BK331.out 1).trans rfl⟩ (fun hHeld => ?_)
  clear hK K
  refine norm_ (a' := ?_) ?_ ?_
  rotate_left
  · show Act.put _ (some 21) _ = _
    simp only [Act.put, List.setIfInBounds_toArray, List.set_cons_zero, List.set_cons_succ, i64_w, i32_w]
    rfl
  refine pure_ (i := 13) (N := some 22) (v := ?_) (a' := ?_) #[true, true, true, true, true, true, true, true, true, true, true, true, true, true, true, false, false] rfl rfl (any_of HT_.out (by kernel_rfl)) (fun _ _ _ h => h) (Or.inl ⟨by rfl, ?_⟩) ?_ ?_
  rotate_left
  · intro w'
    go_simp
    with_reducible rfl
  rotate_left
  · simp only [Act.put, List.setIfInBounds_toArray, List.set_cons_zero, List.set_cons_succ, i64_w, i32_w]
    rfl
  refine pure_ (i := 15) (N := some 24) (v := ?_) (a' := ?_) #[true, true, true, true, true, true, true, true, true, true, true, true, true, true, true, true, false] rfl rfl (any_of HT_.out (by kernel_rfl)) (fun _ _ _ h => h) (Or.inl ⟨by rfl, ?_⟩) ?_ ?_
  rotate_left
  · intro w'
    go_simp
    with_reducible rfl
  rotate_left
  · simp only [Act.put, List.setIfInBounds_toArray, List.set_cons_zero, List.set_cons_succ, i64_w, i32_w]
    rfl
  refine pure_ (i := 16) (N := some 8) (v := ?_) (a' := ?_) #[true, true, true, true, true, true, true, true, true, true, true, true, true, true, true, true, true] rfl rfl (any_of HT_.out (by kernel_rfl)) (fun _ _ _ h => h) (Or.inl ⟨by rfl, ?_⟩) ?_ ?_
  rotate_left
  · intro w'
    go_simp
    with_reducible rfl
  rotate_left
  · simp only [Act.put, List.setIfInBounds_toArray, List.set_cons_zero, List.set_cons_succ, i64_w, i32_w]
    rfl
  refine done_ (done_of HT_.out (by kernel_rfl)) ?_
  try go_wp2
  go_ret
  exact ⟨by first | rfl | (simp [errW_none, errW_some] <;> rfl) | (simp [*, errW_none, errW_some] <;> rfl), by repeat (first | (with_reducible first | exact HB.out | apply below_alloc | apply pw_below_drewN | apply below_drew1 | refine below_set ?_ GE331.out) | exact HB.out)⟩

end Go.Proofs.Ytmfbgcimfmgobaa.Print

-- of YtmfbgcimfmgobaaPrint33
-- Written by a program of this session (wip/gprint/gprint.py) over the kit's print; the parts marked GIVEN by hand.
namespace Go.Proofs.Ytmfbgcimfmgobaa.Print
open Go.RowKit Go.Proofs.YtmfbgcimfmgobaaW.PrintWords Go.Proofs.YtmfbgcimfmgobaaW.PrintLast Go.Proofs.YtmfbgcimfmgobaaW.PrintMore
attribute [local go_sem] max2_int min2_int max_two min_two max_three min_three max_four min_four   -- for this text's walks alone
set_option linter.unusedVariables false
set_option linter.unusedSimpArgs false
/-! GIVEN riverbanklaw14_live -/
-- GIVEN riverbank/riverbanklaw14.live
-- MAKES yes
def riverbanklaw14_live.f : Option (Bool) := some true
def startV : ByteArray := ⟨#[82, 78, 66, 65, 75, 65, 66, 78, 82, 46, 46, 46, 46, 46, 46, 46, 46, 46, 46, 67, 46, 46, 46, 46, 46, 67, 46, 80, 46, 80, 46, 80, 46, 80, 46, 80, 46, 46, 46, 46, 46, 46, 46, 46, 46, 46, 46, 46, 46, 46, 46, 46, 46, 46, 112, 46, 112, 46, 112, 46, 112, 46, 112, 46, 99, 46, 46, 46, 46, 46, 99, 46, 46, 46, 46, 46, 46, 46, 46, 46, 46, 114, 110, 98, 97, 107, 97, 98, 110, 114]⟩
set_option maxRecDepth 100000 in
set_option maxHeartbeats 2000000 in
theorem riverbanklaw14_live.calls (r : Bool) (w : World) (h : riverbanklaw14_live.f = some r) :
    Calls Try.prog 36 #[] w fun e w' => e = .returned (.bool r) ∧ Below w.heap.size w w' := by
  obtain rfl := Option.some.inj h
  clear h
  have v1 : Aside0 (value_Of.f startV 0 0 1 = some 0) := ⟨by decide +kernel⟩
  have k1 : Aside0 (value_Kind.f 114 = some 200) := ⟨by decide +kernel⟩
  have k2 : Aside0 (value_Kind.f 46 = some 0) := ⟨by decide +kernel⟩
  have p1 : Aside0 (value_Piece.f 200 80 49 = some 80) := ⟨by decide +kernel⟩
  have p2 : Aside0 (value_Piece.f 200 80 40 = some 30) := ⟨by decide +kernel⟩
  have p3 : Aside0 (value_Piece.f 200 112 40 = some 80) := ⟨by decide +kernel⟩
  have p4 : Aside0 (value_Piece.f 200 110 82 = some 91) := ⟨by decide +kernel⟩
  have p5 : Aside0 (value_Piece.f 200 75 4 = some 0) := ⟨by decide +kernel⟩
  have m1 : Aside0 (value_Moved.f 200 0 80 40 49 112 = some (-80)) := ⟨by decide +kernel⟩
  unfold startV at v1
  have hB0 : Below w.heap.size w (w.alloc (.cells #[.string ⟨#[82, 78, 66, 65, 75, 65, 66, 78, 82, 46, 46, 46, 46, 46, 46, 46, 46, 46, 46, 67, 46, 46, 46, 46, 46, 67, 46, 80, 46, 80, 46, 80, 46, 80, 46, 80, 46, 46, 46, 46, 46, 46, 46, 46, 46, 46, 46, 46, 46, 46, 46, 46, 46, 46, 112, 46, 112, 46, 112, 46, 112, 46, 112, 46, 99, 46, 46, 46, 46, 46, 99, 46, 46, 46, 46, 46, 46, 46, 46, 46, 46, 114, 110, 98, 97, 107, 97, 98, 110, 114]⟩, .int .i64 0, .int .i64 0, .int .i64 1] 29)) := (Below.refl _ w).alloc (Nat.le_refl _) _
  go_enter Try.func36, Try.ntmps36
  go_wp2_with (first
    | (go_at_call 37; (with_reducible refine (value_Of.calls _ _ _ _ 0 _ v1.out).mono ?_); rintro e w1 ⟨rfl, hb⟩; have hB1 := hB0.trans (hb.mono hB0.size); clear hb)
    | (go_at_call 32; (with_reducible refine (value_Kind.calls 114 200 _ k1.out).mono ?_); rintro e w2 ⟨rfl, hb⟩; have hB2 := hB1.trans (hb.mono hB1.size); clear hb)
    | (go_at_call 32; (with_reducible refine (value_Kind.calls 46 0 _ k2.out).mono ?_); rintro e w3 ⟨rfl, hb⟩; have hB3 := hB2.trans (hb.mono hB2.size); clear hb)
    | (go_at_call 34; (with_reducible refine (value_Piece.calls 200 80 49 80 _ p1.out).mono ?_); rintro e w4 ⟨rfl, hb⟩; have hB4 := hB3.trans (hb.mono hB3.size); clear hb)
    | (go_at_call 34; (with_reducible refine (value_Piece.calls 200 80 40 30 _ p2.out).mono ?_); rintro e w5 ⟨rfl, hb⟩; have hB5 := hB4.trans (hb.mono hB4.size); clear hb)
    | (go_at_call 34; (with_reducible refine (value_Piece.calls 200 112 40 80 _ p3.out).mono ?_); rintro e w6 ⟨rfl, hb⟩; have hB6 := hB5.trans (hb.mono hB5.size); clear hb)
    | (go_at_call 34; (with_reducible refine (value_Piece.calls 200 110 82 91 _ p4.out).mono ?_); rintro e w7 ⟨rfl, hb⟩; have hB7 := hB6.trans (hb.mono hB6.size); clear hb)
    | (go_at_call 34; (with_reducible refine (value_Piece.calls 200 75 4 0 _ p5.out).mono ?_); rintro e w8 ⟨rfl, hb⟩; have hB8 := hB7.trans (hb.mono hB7.size); clear hb)
    | (go_at_call 39; (with_reducible refine (value_Moved.calls 200 0 80 40 49 112 (-80) _ m1.out).mono ?_); rintro e w9 ⟨rfl, hb⟩; have hB9 := hB8.trans (hb.mono hB8.size); clear hb))
  go_ret
  exact ⟨rfl, hB9⟩

end Go.Proofs.Ytmfbgcimfmgobaa.Print

-- of YtmfbgcimfmgobaaPrint38
-- Written by a program of this session (wip/gprint/gprint.py) over the kit's print; the parts marked GIVEN by hand.
namespace Go.Proofs.Ytmfbgcimfmgobaa.Print
open Go.RowKit Go.Proofs.YtmfbgcimfmgobaaW.PrintWords Go.Proofs.YtmfbgcimfmgobaaW.PrintLast Go.Proofs.YtmfbgcimfmgobaaW.PrintMore
attribute [local go_sem] max2_int min2_int max_two min_two max_three min_three max_four min_four   -- for this text's walks alone
set_option linter.unusedVariables false
set_option linter.unusedSimpArgs false
/-! ### riverbanklaw14_ValueLeast: function 14 -/
def riverbanklaw14_ValueLeast.j0 : Nat → Int → Int → Int → Bool → Option (Bool)
  | 0, _, _, _, _ => none
  | k + 1, x0, x5, x6, x22 => if x22 = true then (if x5 = 0 then ((riverbanklaw14_live.f).bind fun t396 => (some t396)) else (some false)) else (if x5 ≥ x6 then (if x5 ≤ (wrap64 (x6 + 50)) then ((board_Kind.f x0).bind fun t397 => (if t397 = 75 then (if x5 = 0 then ((riverbanklaw14_live.f).bind fun t398 => (some t398)) else (some false)) else ((riverbanklaw14_live.f).bind fun t399 => (some t399)))) else (some false)) else (some false))
def riverbanklaw14_ValueLeast.f (k : Nat) (a0 : Int) (a1 : Int) : Option (Bool) := (value_Piece.f k a0 a1).bind fun t393 => ((value_Kind.f a0).bind fun t394 => ((board_Side.f a0).bind fun t395 => (if t395 < 0 then (riverbanklaw14_ValueLeast.j0 k a0 t393 t394 true) else (if a1 < 0 then (riverbanklaw14_ValueLeast.j0 k a0 t393 t394 true) else (riverbanklaw14_ValueLeast.j0 k a0 t393 t394 (decide (a1 > 89)))))))
theorem riverbanklaw14_ValueLeast.mono_l : ∀ k, (∀ y0 y1 y2 y3, LeO (riverbanklaw14_ValueLeast.j0 k y0 y1 y2 y3) (riverbanklaw14_ValueLeast.j0 (k + 1) y0 y1 y2 y3))
  | 0 => fun _ _ _ _ r h => by simp [riverbanklaw14_ValueLeast.j0] at h
  | k + 1 => by
    have ih0 := riverbanklaw14_ValueLeast.mono_l k
    · intro y0 y1 y2 y3
      unfold riverbanklaw14_ValueLeast.j0
      repeat' first
      | (with_reducible exact ih0 _ _ _ _)
      | (with_reducible exact value_Piece.mono _ _ _)
      | (with_reducible exact LeO.refl _)
      | (with_reducible exact LeO.none _)
      | (with_reducible refine LeO.ite ?_ ?_)
      | (with_reducible refine LeO.bind ?_ (fun _ => ?_))
      | exact ih0 _ _ _ _
      | exact value_Piece.mono _ _ _
      | exact LeO.none _
      | refine LeO.ite ?_ ?_
      | refine LeO.bind ?_ (fun _ => ?_)
theorem riverbanklaw14_ValueLeast.mono : ∀ a0 a1 k, LeO (riverbanklaw14_ValueLeast.f k a0 a1) (riverbanklaw14_ValueLeast.f (k + 1) a0 a1) := by
  intro a0 a1 k
  have ih0 := riverbanklaw14_ValueLeast.mono_l k
  unfold riverbanklaw14_ValueLeast.f
  repeat' first
      | (with_reducible exact ih0 _ _ _ _)
      | (with_reducible exact value_Piece.mono _ _ _)
      | (with_reducible exact LeO.refl _)
      | (with_reducible exact LeO.none _)
      | (with_reducible refine LeO.ite ?_ ?_)
      | (with_reducible refine LeO.bind ?_ (fun _ => ?_))
      | exact ih0 _ _ _ _
      | exact value_Piece.mono _ _ _
      | exact LeO.none _
      | refine LeO.ite ?_ ?_
      | refine LeO.bind ?_ (fun _ => ?_)
set_option maxHeartbeats 8000000 in
set_option maxRecDepth 100000 in
theorem riverbanklaw14_ValueLeast.calls (k : Nat) (a0 : Int) (a1 : Int) (r : Bool) (w : World) (h : riverbanklaw14_ValueLeast.f k a0 a1 = some r) :
    Calls Try.prog 14 #[.int .u8 a0, .int .i64 a1] w fun e w' => e = .returned (.bool r) ∧ Below w.heap.size w w' := by
  have HB := Aside0.mk (Below.refl w.heap.size w)
  have H : ((value_Piece.f k a0 a1).bind fun t393 => ((value_Kind.f a0).bind fun t394 => ((board_Side.f a0).bind fun t395 => (if t395 < 0 then (riverbanklaw14_ValueLeast.j0 k a0 t393 t394 true) else (if a1 < 0 then (riverbanklaw14_ValueLeast.j0 k a0 t393 t394 true) else (riverbanklaw14_ValueLeast.j0 k a0 t393 t394 (decide (a1 > 89)))))))) = some r := h
  clear h
  replace H := Option.bind_eq_some_iff.mp H
  obtain ⟨t393, A30, H⟩ := H
  replace H : ((value_Kind.f a0).bind fun t394 => ((board_Side.f a0).bind fun t395 => (if t395 < 0 then (riverbanklaw14_ValueLeast.j0 k a0 t393 t394 true) else (if a1 < 0 then (riverbanklaw14_ValueLeast.j0 k a0 t393 t394 true) else (riverbanklaw14_ValueLeast.j0 k a0 t393 t394 (decide (a1 > 89))))))) = some r := H
  have A3 := Aside0.mk A30
  clear A30
  replace H := Option.bind_eq_some_iff.mp H
  obtain ⟨t394, A40, H⟩ := H
  replace H : ((board_Side.f a0).bind fun t395 => (if t395 < 0 then (riverbanklaw14_ValueLeast.j0 k a0 t393 t394 true) else (if a1 < 0 then (riverbanklaw14_ValueLeast.j0 k a0 t393 t394 true) else (riverbanklaw14_ValueLeast.j0 k a0 t393 t394 (decide (a1 > 89)))))) = some r := H
  have A4 := Aside0.mk A40
  clear A40
  have HC5 := Aside0.mk H
  clear H
  go_enter Try.func14, Try.ntmps14
  go_upto_region 3 with (first | ((with_reducible refine gate_callee (f := 34) rfl ?_); refine goesL_ (some 9) rfl rfl Try.func34 (by kernel_rfl) rfl #[.int .u8 a0, .int .i64 a1] rfl (by (try simp only [List.map_toArray, List.map_cons, List.map_nil]); first | done | rfl | (simp only [List.length_drop, List.length_take]; rfl)) ?_; (with_reducible refine (value_Piece.calls k a0 a1 t393 _ A3.out).mono ?_); rintro e w6 ⟨rfl, hb⟩; refine ⟨_, rfl, ?_⟩; have n0_ := Aside0.mk (below_step (by repeat (first | (with_reducible first | exact HB.out | apply below_alloc | apply pw_below_drewN | apply below_drew1) | exact HB.out)) hb); clear HB; have HB := n0_; clear n0_; (try clear hb); (try clear hb2); (try clear hk); (try clear hi)) | ((with_reducible refine gate_callee (f := 32) rfl ?_); refine goesL_ (some 11) rfl rfl Try.func32 (by kernel_rfl) rfl #[.int .u8 a0] rfl (by (try simp only [List.map_toArray, List.map_cons, List.map_nil]); first | done | rfl | (simp only [List.length_drop, List.length_take]; rfl)) ?_; (with_reducible refine (value_Kind.calls a0 t394 _ A4.out).mono ?_); rintro e w7 ⟨rfl, hb⟩; refine ⟨_, rfl, ?_⟩; have n0_ := Aside0.mk (below_step (by repeat (first | (with_reducible first | exact HB.out | apply below_alloc | apply pw_below_drewN | apply below_drew1) | exact HB.out)) hb); clear HB; have HB := n0_; clear n0_; (try clear hb); (try clear hb2); (try clear hk); (try clear hi)))
  (try simp only [Act.put, List.setIfInBounds_toArray, List.set_cons_zero, List.set_cons_succ])
  go_cut [22] (fun v22 wc => ∃ (kq : Nat) (x22_4 : Bool), v22 = .bool x22_4 ∧ Aside0 (riverbanklaw14_ValueLeast.j0 kq a0 t393 t394 x22_4 = some r) ∧ Aside0 (kq ≤ k) ∧ Aside0 (Below w.heap.size w wc))
  case first =>
    have H := HC5.out
    clear HC5
    replace H := Option.bind_eq_some_iff.mp H
    obtain ⟨t395, A80, H⟩ := H
    replace H : (if t395 < 0 then (riverbanklaw14_ValueLeast.j0 k a0 t393 t394 true) else (if a1 < 0 then (riverbanklaw14_ValueLeast.j0 k a0 t393 t394 true) else (riverbanklaw14_ValueLeast.j0 k a0 t393 t394 (decide (a1 > 89))))) = some r := H
    have A8 := Aside0.mk A80
    clear A80
    by_cases c9 : t395 < 0
    · rw [if_pos c9] at H
      have c9b0 : decide (t395 < 0) = true := decide_eq_true c9
      clear c9
      (first | rw [c9b0] | (simp only [i64_w, i32_w]; rw [c9b0]) | skip)
      have H' := Aside0.mk H
      clear H
      go_wp2_with (first | ((with_reducible refine gate_callee (f := 43) rfl ?_); refine goesL_ (some 13) rfl rfl Try.func43 (by kernel_rfl) rfl #[.int .u8 a0] rfl (by (try simp only [List.map_toArray, List.map_cons, List.map_nil]); first | done | rfl | (simp only [List.length_drop, List.length_take]; rfl)) ?_; (with_reducible refine (board_Side.calls a0 t395 _ A8.out).mono ?_); rintro e w' ⟨rfl, ⟨nd, rfl⟩⟩; refine ⟨_, rfl, ?_⟩))
      go_meet
      case rel => exact ⟨_, (true), (by first | rfl | (simp; done) | (simp [*]; done)), H', ⟨by first | omega | exact Nat.le_refl _⟩, ⟨by repeat (first | (with_reducible first | exact HB.out | apply below_alloc | apply pw_below_drewN | apply below_drew1) | exact HB.out)⟩⟩
    · rw [if_neg c9] at H
      have c9b0 : decide (t395 < 0) = false := decide_eq_false c9
      clear c9
      (first | rw [c9b0] | (simp only [i64_w, i32_w]; rw [c9b0]) | skip)
      by_cases c10 : a1 < 0
      · rw [if_pos c10] at H
        have c10b0 : decide (a1 < 0) = true := decide_eq_true c10
        clear c10
        have H' := Aside0.mk H
        clear H
        go_wp2_with (first | ((with_reducible refine gate_callee (f := 43) rfl ?_); refine goesL_ (some 13) rfl rfl Try.func43 (by kernel_rfl) rfl #[.int .u8 a0] rfl (by (try simp only [List.map_toArray, List.map_cons, List.map_nil]); first | done | rfl | (simp only [List.length_drop, List.length_take]; rfl)) ?_; (with_reducible refine (board_Side.calls a0 t395 _ A8.out).mono ?_); rintro e w' ⟨rfl, ⟨nd, rfl⟩⟩; refine ⟨_, rfl, ?_⟩))
        go_meet
        case rel => exact ⟨_, (true), (by first | rfl | (simp; done) | (simp [*]; done)), H', ⟨by first | omega | exact Nat.le_refl _⟩, ⟨by repeat (first | (with_reducible first | exact HB.out | apply below_alloc | apply pw_below_drewN | apply below_drew1) | exact HB.out)⟩⟩
      · rw [if_neg c10] at H
        have c10b0 : decide (a1 < 0) = false := decide_eq_false c10
        clear c10
        have H' := Aside0.mk H
        clear H
        go_wp2_with (first | ((with_reducible refine gate_callee (f := 43) rfl ?_); refine goesL_ (some 13) rfl rfl Try.func43 (by kernel_rfl) rfl #[.int .u8 a0] rfl (by (try simp only [List.map_toArray, List.map_cons, List.map_nil]); first | done | rfl | (simp only [List.length_drop, List.length_take]; rfl)) ?_; (with_reducible refine (board_Side.calls a0 t395 _ A8.out).mono ?_); rintro e w' ⟨rfl, ⟨nd, rfl⟩⟩; refine ⟨_, rfl, ?_⟩))
        go_meet
        case rel => exact ⟨_, (decide (a1 > 89)), (by first | rfl | (simp; done) | (simp [*]; done)), H', ⟨by first | omega | exact Nat.le_refl _⟩, ⟨by repeat (first | (with_reducible first | exact HB.out | apply below_alloc | apply pw_below_drewN | apply below_drew1) | exact HB.out)⟩⟩
  case rest =>
    clear HC5
    try clear c1
    try clear p2
    try clear c3
    try clear c4
    try clear c9
    try clear c9b0
    try clear c10
    try clear c10b0
    obtain ⟨kq, x22_4, rfl, HA, HJ4, HB⟩ := hcut
    cases kq with
    | zero => exact absurd HA.out (by simp [riverbanklaw14_ValueLeast.j0])
    | succ kj4 =>
      have H := HA.out
      clear HA
      simp only [riverbanklaw14_ValueLeast.j0] at H
      by_cases c11 : x22_4 = true
      · subst c11
        have H1 : (if t393 = 0 then ((riverbanklaw14_live.f).bind fun t396 => (some t396)) else (some false)) = some r := by rw [if_pos rfl] at H; exact H
        clear H
        have H := H1
        clear H1
        by_cases c12 : t393 = 0
        · rw [if_pos c12] at H
          have c12b0 : (t393 == 0) = true := beq_iff_eq.mpr c12
          have c12b1 : (t393 != 0) = false := bne_eq_false_iff_eq.mpr c12
          clear c12
          replace H := Option.bind_eq_some_iff.mp H
          obtain ⟨t396, A130, H⟩ := H
          replace H : (some t396) = some r := H
          have A13 := Aside0.mk A130
          clear A130
          obtain rfl := Option.some.inj H
          go_wp2_with (first | (go_at_call 36; (with_reducible refine (riverbanklaw14_live.calls  t396 _ A13.out).mono ?_); rintro e w14 ⟨rfl, hb⟩; have n0_ := Aside0.mk (below_step (by repeat (first | (with_reducible first | exact HB.out | apply below_alloc | apply pw_below_drewN | apply below_drew1) | exact HB.out)) hb); clear HB; have HB := n0_; clear n0_; (try clear hb); (try clear hb2); (try clear hk); (try clear hi)))
          go_ret
          exact ⟨by first | rfl | (simp [errW_none, errW_some] <;> rfl) | (simp [*, errW_none, errW_some] <;> rfl), by repeat (first | (with_reducible first | exact HB.out | apply below_alloc | apply pw_below_drewN | apply below_drew1) | exact HB.out)⟩
        · rw [if_neg c12] at H
          have c12b0 : (t393 == 0) = false := beq_eq_false_iff_ne.mpr c12
          have c12b1 : (t393 != 0) = true := bne_iff_ne.mpr c12
          obtain rfl := Option.some.inj H
          go_wp2
          go_ret
          exact ⟨by first | rfl | (simp [errW_none, errW_some] <;> rfl) | (simp [*, errW_none, errW_some] <;> rfl), by repeat (first | (with_reducible first | exact HB.out | apply below_alloc | apply pw_below_drewN | apply below_drew1) | exact HB.out)⟩
      · replace c11 := Bool.eq_false_iff.mpr c11
        subst c11
        have H1 : (if t393 ≥ t394 then (if t393 ≤ (wrap64 (t394 + 50)) then ((board_Kind.f a0).bind fun t397 => (if t397 = 75 then (if t393 = 0 then ((riverbanklaw14_live.f).bind fun t398 => (some t398)) else (some false)) else ((riverbanklaw14_live.f).bind fun t399 => (some t399)))) else (some false)) else (some false)) = some r := by rw [if_neg (show ¬ (false = true) by decide)] at H; exact H
        clear H
        have H := H1
        clear H1
        by_cases c15 : t393 ≥ t394
        · rw [if_pos c15] at H
          have c15b0 : decide (t394 ≤ t393) = true := decide_eq_true c15
          clear c15
          by_cases c16 : t393 ≤ (wrap64 (t394 + 50))
          · rw [if_pos c16] at H
            have c16b0 : decide (t393 ≤ (wrap64 (t394 + 50))) = true := decide_eq_true c16
            clear c16
            replace H := Option.bind_eq_some_iff.mp H
            obtain ⟨t397, A170, H⟩ := H
            replace H : (if t397 = 75 then (if t393 = 0 then ((riverbanklaw14_live.f).bind fun t398 => (some t398)) else (some false)) else ((riverbanklaw14_live.f).bind fun t399 => (some t399))) = some r := H
            have A17 := Aside0.mk A170
            clear A170
            by_cases c18 : t397 = 75
            · rw [if_pos c18] at H
              have c18b0 : (t397 == 75) = true := beq_iff_eq.mpr c18
              have c18b1 : (t397 != 75) = false := bne_eq_false_iff_eq.mpr c18
              clear c18
              by_cases c19 : t393 = 0
              · rw [if_pos c19] at H
                have c19b0 : (t393 == 0) = true := beq_iff_eq.mpr c19
                have c19b1 : (t393 != 0) = false := bne_eq_false_iff_eq.mpr c19
                clear c19
                replace H := Option.bind_eq_some_iff.mp H
                obtain ⟨t398, A200, H⟩ := H
                replace H : (some t398) = some r := H
                have A20 := Aside0.mk A200
                clear A200
                obtain rfl := Option.some.inj H
                go_wp2_with (first | (go_at_call 44; (with_reducible refine (board_Kind.calls a0 t397 _ A17.out).mono ?_); rintro e w' ⟨rfl, ⟨nd, rfl⟩⟩) | (go_at_call 36; (with_reducible refine (riverbanklaw14_live.calls  t398 _ A20.out).mono ?_); rintro e w21 ⟨rfl, hb⟩; have n0_ := Aside0.mk (below_step (by repeat (first | (with_reducible first | exact HB.out | apply below_alloc | apply pw_below_drewN | apply below_drew1) | exact HB.out)) hb); clear HB; have HB := n0_; clear n0_; (try clear hb); (try clear hb2); (try clear hk); (try clear hi)))
                go_ret
                exact ⟨by first | rfl | (simp [errW_none, errW_some] <;> rfl) | (simp [*, errW_none, errW_some] <;> rfl), by repeat (first | (with_reducible first | exact HB.out | apply below_alloc | apply pw_below_drewN | apply below_drew1) | exact HB.out)⟩
              · rw [if_neg c19] at H
                have c19b0 : (t393 == 0) = false := beq_eq_false_iff_ne.mpr c19
                have c19b1 : (t393 != 0) = true := bne_iff_ne.mpr c19
                obtain rfl := Option.some.inj H
                go_wp2_with (first | (go_at_call 44; (with_reducible refine (board_Kind.calls a0 t397 _ A17.out).mono ?_); rintro e w' ⟨rfl, ⟨nd, rfl⟩⟩))
                go_ret
                exact ⟨by first | rfl | (simp [errW_none, errW_some] <;> rfl) | (simp [*, errW_none, errW_some] <;> rfl), by repeat (first | (with_reducible first | exact HB.out | apply below_alloc | apply pw_below_drewN | apply below_drew1) | exact HB.out)⟩
            · rw [if_neg c18] at H
              have c18b0 : (t397 == 75) = false := beq_eq_false_iff_ne.mpr c18
              have c18b1 : (t397 != 75) = true := bne_iff_ne.mpr c18
              replace H := Option.bind_eq_some_iff.mp H
              obtain ⟨t399, A220, H⟩ := H
              replace H : (some t399) = some r := H
              have A22 := Aside0.mk A220
              clear A220
              obtain rfl := Option.some.inj H
              go_wp2_with (first | (go_at_call 44; (with_reducible refine (board_Kind.calls a0 t397 _ A17.out).mono ?_); rintro e w' ⟨rfl, ⟨nd, rfl⟩⟩) | (go_at_call 36; (with_reducible refine (riverbanklaw14_live.calls  t399 _ A22.out).mono ?_); rintro e w23 ⟨rfl, hb⟩; have n0_ := Aside0.mk (below_step (by repeat (first | (with_reducible first | exact HB.out | apply below_alloc | apply pw_below_drewN | apply below_drew1) | exact HB.out)) hb); clear HB; have HB := n0_; clear n0_; (try clear hb); (try clear hb2); (try clear hk); (try clear hi)))
              go_ret
              exact ⟨by first | rfl | (simp [errW_none, errW_some] <;> rfl) | (simp [*, errW_none, errW_some] <;> rfl), by repeat (first | (with_reducible first | exact HB.out | apply below_alloc | apply pw_below_drewN | apply below_drew1) | exact HB.out)⟩
          · rw [if_neg c16] at H
            have c16b0 : decide (t393 ≤ (wrap64 (t394 + 50))) = false := decide_eq_false c16
            clear c16
            obtain rfl := Option.some.inj H
            go_wp2
            go_ret
            exact ⟨by first | rfl | (simp [errW_none, errW_some] <;> rfl) | (simp [*, errW_none, errW_some] <;> rfl), by repeat (first | (with_reducible first | exact HB.out | apply below_alloc | apply pw_below_drewN | apply below_drew1) | exact HB.out)⟩
        · rw [if_neg c15] at H
          have c15b0 : decide (t394 ≤ t393) = false := decide_eq_false c15
          clear c15
          obtain rfl := Option.some.inj H
          go_wp2
          go_ret
          exact ⟨by first | rfl | (simp [errW_none, errW_some] <;> rfl) | (simp [*, errW_none, errW_some] <;> rfl), by repeat (first | (with_reducible first | exact HB.out | apply below_alloc | apply pw_below_drewN | apply below_drew1) | exact HB.out)⟩

/-- THE ONE PURE STATEMENT of riverbanklaw14_ValueLeast: yours. -/
def riverbanklaw14_ValueLeast.Pure : Prop := ∀ (a0 : Int) (a1 : Int), (Lit.int .u8 a0).wf = true → (Lit.int .i64 a1).wf = true → ∃ k, riverbanklaw14_ValueLeast.f k a0 a1 = some true
theorem riverbanklaw14_ValueLeast.walk (P : riverbanklaw14_ValueLeast.Pure) (a0 : Int) (a1 : Int) (w : World) (w0 : (Lit.int .u8 a0).wf = true) (w1 : (Lit.int .i64 a1).wf = true) :
    Calls Try.prog 14 #[.int .u8 a0, .int .i64 a1] w fun e w' => e = .returned (.bool true) ∧ Below w.heap.size w w' := by
  obtain ⟨k, h⟩ := P a0 a1 w0 w1
  refine (riverbanklaw14_ValueLeast.calls k a0 a1 true w h).mono ?_
  rintro e w' ⟨rfl, hd⟩
  exact ⟨rfl, hd⟩

end Go.Proofs.Ytmfbgcimfmgobaa.Print

-- of YtmfbgcimfmgobaaKeyRef
/- The document's row and numbers, and that they are the program's. -/
namespace Go.Proofs.Ytmfbgcimfmgobaa.KeyRef
open Go.RowKit Go.Proofs.Ytmfbgcimfmgobaa.Print Go.Proofs.Ytmfbgcimfmgobaa.KeyMath Go.Proofs.YtmfbgcimfmgobaaW.PrintWords Go.Proofs.YtmfbgcimfmgobaaW.PrintLast
theorem u8_of (c : Int) (h : (Lit.int .u8 c).wf = true) : ∃ b : UInt8, c = (b.toNat : Int) := by
  have h2 : 0 ≤ c ∧ c ≤ 255 := by
    simp [Lit.wf, IntKind.min, IntKind.max, IntKind.signed, IntKind.bits] at h; omega
  exact ⟨c.toNat.toUInt8, by simp; omega⟩
end Go.Proofs.Ytmfbgcimfmgobaa.KeyRef

-- of YtmfbgcimfmgobaaKeyRefTwo
/- The document's boards and keys, and that they are the program's. -/
namespace Go.Proofs.Ytmfbgcimfmgobaa.KeyRef
open Go.RowKit Go.Proofs.Ytmfbgcimfmgobaa.Print Go.Proofs.Ytmfbgcimfmgobaa.KeyMath Go.Proofs.YtmfbgcimfmgobaaW.PrintWords Go.Proofs.YtmfbgcimfmgobaaW.PrintLast
theorem rside_k (k : Nat) (a : Int) : riverbankref02_Side.f (k + 1) a = riverbankref02_Side.f 1 a := rfl
theorem rside_eq (k : Nat) (b : UInt8) : riverbankref02_Side.f (k + 1) (b.toNat : Int) = board_Side.f (b.toNat : Int) := by
  rw [rside_k]
  have := u8_all (fun b => riverbankref02_Side.f 1 (b.toNat : Int) == board_Side.f (b.toNat : Int)) (by decide +kernel) b
  simpa using this
/-- A byte's side. -/
def sideU (b : UInt8) : Int := (board_Side.f (b.toNat : Int)).getD 0
theorem side_f (b : UInt8) : board_Side.f (b.toNat : Int) = some (sideU b) := by
  have := u8_all (fun b => board_Side.f (b.toNat : Int) == some (sideU b)) (by decide +kernel) b
  simpa using this
theorem side_range (b : UInt8) : sideU b = -1 ∨ sideU b = 0 ∨ sideU b = 1 := by
  have := u8_all (fun b => sideU b == -1 || (sideU b == 0 || sideU b == 1)) (by decide +kernel) b
  simpa using this
theorem rside_eq' (k : Nat) (hk : 1 ≤ k) (b : UInt8) : riverbankref02_Side.f k (b.toNat : Int) = some (sideU b) := by
  obtain ⟨m, rfl⟩ : ∃ m, k = m + 1 := ⟨k - 1, by omega⟩
  rw [rside_eq, side_f]
end Go.Proofs.Ytmfbgcimfmgobaa.KeyRef

-- of YtmfbgcimfmgobaaValueMath
/- What pieces are worth, read off all bytes and squares at once; sums over a board. -/
namespace Go.Proofs.Ytmfbgcimfmgobaa.ValueMath
open Go.RowKit Go.Proofs.Ytmfbgcimfmgobaa.Print Go.Proofs.Ytmfbgcimfmgobaa.KeyMath Go.Proofs.Ytmfbgcimfmgobaa.KeyRef Go.Proofs.YtmfbgcimfmgobaaW.PrintWords Go.Proofs.YtmfbgcimfmgobaaW.PrintLast
/-- The piece's worth on a square is the document's, lies between its kind's worth and 50 more, and is nothing for a general and for what is no piece. -/
def pieceOk (c n : Nat) : Bool :=
  match value_Piece.f 200 (c : Int) (n : Int), riverbankref14_Piece.f 200 (c : Int) (n : Int), value_Kind.f (c : Int), board_Kind.f (c : Int) with
  | some a, some b, some k, some d => decide (a = b ∧ 0 ≤ a ∧ a ≤ 250 ∧ (board_Side.f (c : Int) = some (-1) → a = 0) ∧ (board_Side.f (c : Int) ≠ some (-1) → k ≤ a ∧ a ≤ k + 50 ∧ (d = 75 → a = 0)))
  | _, _, _, _ => false
set_option maxRecDepth 100000 in
theorem piece_dec : ((List.range 256).all fun c => (List.range 90).all fun n => pieceOk c n) = true := by decide +kernel
theorem piece_ok (b : UInt8) (n : Nat) (hn : n < 90) : pieceOk b.toNat n = true := by
  have h := List.all_eq_true.mp (List.all_eq_true.mp piece_dec b.toNat (List.mem_range.mpr b.toNat_lt)) n (List.mem_range.mpr hn)
  exact h
theorem kind_both : ((List.range 256).all fun c => decide (value_Kind.f (c : Int) = riverbankref14_Kind.f 200 (c : Int) ∧ (∃ v, v ∈ ([0, 40, 90, 95, 200, 30] : List Int) ∧ value_Kind.f (c : Int) = some v))) = true := by decide +kernel
theorem kind_eq (b : UInt8) : value_Kind.f (b.toNat : Int) = riverbankref14_Kind.f 200 (b.toNat : Int) ∧ ∃ v, v ∈ ([0, 40, 90, 95, 200, 30] : List Int) ∧ value_Kind.f (b.toNat : Int) = some v :=
  of_decide_eq_true (List.all_eq_true.mp kind_both b.toNat (List.mem_range.mpr b.toNat_lt))
theorem kind_range (b : UInt8) (v : Int) (h : value_Kind.f (b.toNat : Int) = some v) : 0 ≤ v ∧ v ≤ 200 := by
  obtain ⟨u, hu, e⟩ := (kind_eq b).2
  rw [e] at h
  obtain rfl := Option.some.inj h
  simp at hu
  omega

def pv (b : UInt8) (n : Int) : Int := (value_Piece.f 200 (b.toNat : Int) n).getD 0
theorem piece_in (b : UInt8) (n : Nat) (hn : n < 90) : value_Piece.f 200 (b.toNat : Int) n = some (pv b n) ∧ riverbankref14_Piece.f 200 (b.toNat : Int) n = some (pv b n) ∧ 0 ≤ pv b n ∧ pv b n ≤ 250 ∧ (sideU b = -1 → pv b n = 0) ∧
    ∃ k d, value_Kind.f (b.toNat : Int) = some k ∧ board_Kind.f (b.toNat : Int) = some d ∧ (sideU b ≠ -1 → k ≤ pv b n ∧ pv b n ≤ k + 50 ∧ (d = 75 → pv b n = 0)) := by
  have h := piece_ok b n hn
  unfold pieceOk at h
  rw [side_f b] at h
  split at h
  · rename_i a c k d h1 h2 h3 h4
    have h := of_decide_eq_true h
    obtain ⟨rfl, h5, h6, h7, h8⟩ := h
    have e : pv b n = a := by unfold pv; rw [h1]; rfl
    rw [e]
    refine ⟨h1, h2, h5, h6, fun hs => h7 (by rw [hs]), k, d, h3, h4, fun hs => h8 (by simpa using hs)⟩
  · cases h
theorem piece_out (k : Nat) (b : UInt8) (n : Int) (hn : n < 0 ∨ 89 < n) : value_Piece.f (k + 1) (b.toNat : Int) n = some 0 ∧ riverbankref14_Piece.f (k + 1) (b.toNat : Int) n = some 0 := by
  have hq : board_isSquare.f n = some false := by
    unfold board_isSquare.f
    split
    · rw [decide_eq_false (by omega)]
    · rfl
  obtain ⟨r, hr⟩ := brank_some n
  have hf : board_File.f n = some (-1) := by unfold board_File.f; rw [hq]; rfl
  constructor
  · unfold value_Piece.f
    rw [side_f, hf, hr]
    simp only [Option.bind_some]
    split <;> simp [value_Piece.j0]
  · unfold riverbankref14_Piece.f
    rw [rside_eq' (k + 1) (by omega)]
    simp only [Option.bind_some]
    split
    · simp [riverbankref14_Piece.j0]
    · split
      · simp [riverbankref14_Piece.j0]
      · rw [decide_eq_true (by omega)]; simp [riverbankref14_Piece.j0]
theorem piece_200 (b : UInt8) (n : Int) : value_Piece.f 200 (b.toNat : Int) n = some (pv b n) ∧ riverbankref14_Piece.f 200 (b.toNat : Int) n = some (pv b n) ∧ 0 ≤ pv b n ∧ pv b n ≤ 250 ∧ (sideU b = -1 → pv b n = 0) := by
  by_cases hn : n < 0 ∨ 89 < n
  · obtain ⟨h1, h2⟩ := piece_out 199 b n hn
    have e : pv b n = 0 := by unfold pv; rw [h1]; rfl
    rw [e]; exact ⟨h1, h2, by omega, by omega, fun _ => rfl⟩
  · obtain ⟨m, rfl⟩ : ∃ m : Nat, n = m := ⟨n.toNat, by omega⟩
    have h := piece_in b m (by omega)
    exact ⟨h.1, h.2.1, h.2.2.1, h.2.2.2.1, h.2.2.2.2.1⟩
theorem piece_k (k : Nat) (h : 200 ≤ k) (b : UInt8) (n : Int) : value_Piece.f k (b.toNat : Int) n = some (pv b n) := by
  obtain ⟨d, rfl⟩ : ∃ d, k = 200 + d := ⟨k - 200, by omega⟩
  induction d with
  | zero => exact (piece_200 b n).1
  | succ d ih => exact value_Piece.mono _ _ _ _ (ih (by omega))
theorem pv_none (b : UInt8) (n : Int) (h : sideU b = -1) : pv b n = 0 := (piece_200 b n).2.2.2.2 h

theorem wrap_mid {x : Int} (h : -1000000 ≤ x) (h2 : x ≤ 1000000) : wrap64 x = x := by unfold wrap64; omega
end Go.Proofs.Ytmfbgcimfmgobaa.ValueMath

-- of YtmfbgcimfmgobaaPureValueLeast
/- For every byte and number: a piece on a square is worth no less than its kind and no more than 50 above it, a general nothing; no piece, no square: nothing; no condition. -/
namespace Go.Proofs.Ytmfbgcimfmgobaa.Pure
open Go.RowKit Go.Proofs.Ytmfbgcimfmgobaa.Print Go.Proofs.Ytmfbgcimfmgobaa.KeyRef Go.Proofs.Ytmfbgcimfmgobaa.ValueMath Go.Proofs.YtmfbgcimfmgobaaW.PrintWords Go.Proofs.YtmfbgcimfmgobaaW.PrintLast
theorem ValueLeast : riverbanklaw14_ValueLeast.Pure := by
  intro a0 n h0 h1
  refine ⟨200, ?_⟩
  obtain ⟨b, rfl⟩ := u8_of a0 h0
  unfold riverbanklaw14_ValueLeast.f
  obtain ⟨e, kv, _, hkv⟩ := kind_eq b
  have hkr := kind_range b kv hkv
  rw [piece_k 200 (by omega), hkv, side_f]
  simp only [Option.bind_some]
  by_cases hs : sideU b < 0
  · rw [if_pos hs, pv_none b n (by have := side_range b; omega)]
    simp [riverbanklaw14_ValueLeast.j0, riverbanklaw14_live.f]
  · rw [if_neg hs]
    have hz : n < 0 ∨ 89 < n → pv b n = 0 := fun hn => by unfold pv; rw [(piece_out 199 b n hn).1]; rfl
    by_cases n0 : n < 0
    · rw [if_pos n0, hz (.inl n0)]; simp [riverbanklaw14_ValueLeast.j0, riverbanklaw14_live.f]
    · rw [if_neg n0]
      by_cases n1 : n > 89
      · rw [decide_eq_true n1, hz (.inr n1)]; simp [riverbanklaw14_ValueLeast.j0, riverbanklaw14_live.f]
      · rw [decide_eq_false n1]
        obtain ⟨m, rfl⟩ : ∃ m : Nat, n = m := ⟨n.toNat, by omega⟩
        obtain ⟨_, _, _, _, _, k, d, hk, hd, h⟩ := piece_in b m (by omega)
        rw [hkv] at hk
        obtain rfl := Option.some.inj hk
        obtain ⟨h1, h2, h3⟩ := h (by omega)
        simp only [riverbanklaw14_ValueLeast.j0]
        rw [if_neg (by decide), if_pos h1, wrap_mid (by omega) (by omega), if_pos h2, hd]
        simp only [Option.bind_some]
        by_cases h75 : d = 75
        · rw [if_pos h75, if_pos (h3 h75)]; rfl
        · rw [if_neg h75]; rfl
end Go.Proofs.Ytmfbgcimfmgobaa.Pure
