/- Merged by a program of this session (wip/gprint/merge.py): what this claim needs of this session's texts, each part as it was. -/
import Derived.Test.YtmfbgcimfmgobaaAllValueAdds1

-- of YtmfbgcimfmgobaaPrint32
-- Written by a program of this session (wip/gprint/gprint.py) over the kit's print; the parts marked GIVEN by hand.
namespace Go.Proofs.Ytmfbgcimfmgobaa.Print
open Go.RowKit Go.Proofs.YtmfbgcimfmgobaaW.PrintWords Go.Proofs.YtmfbgcimfmgobaaW.PrintLast Go.Proofs.YtmfbgcimfmgobaaW.PrintMore
attribute [local go_sem] max2_int min2_int max_two min_two max_three min_three max_four min_four   -- for this text's walks alone
set_option linter.unusedVariables false
set_option linter.unusedSimpArgs false
/-! ### value_Moved: function 39 -/
def value_Moved.f (k : Nat) (a0 : Int) (a1 : Int) (a2_0 : Int) (a2_1 : Int) (a3 : Int) : Option (Int) := (value_Piece.f k a1 a2_0).bind fun t332 => ((value_Piece.f k a1 a2_1).bind fun t333 => ((value_Piece.f k a3 a2_1).bind fun t334 => (some (wrap64 ((wrap64 ((wrap64 (t332 - t333)) - t334)) - a0)))))
theorem value_Moved.mono : ∀ a0 a1 a2 a3 a4 k, LeO (value_Moved.f k a0 a1 a2 a3 a4) (value_Moved.f (k + 1) a0 a1 a2 a3 a4) := by
  intro a0 a1 a2 a3 a4 k
  unfold value_Moved.f
  repeat' first
      | (with_reducible exact value_Piece.mono _ _ _)
      | (with_reducible exact LeO.refl _)
      | (with_reducible exact LeO.none _)
      | (with_reducible refine LeO.ite ?_ ?_)
      | (with_reducible refine LeO.bind ?_ (fun _ => ?_))
      | exact value_Piece.mono _ _ _
      | exact LeO.none _
      | refine LeO.ite ?_ ?_
      | refine LeO.bind ?_ (fun _ => ?_)
def value_Moved.T1 : Bool × List (List Nat × List Nat) := (true, [([], []), ([], []), ([1], [1]), ([0, 2], [0, 2]), ([], []), ([], []), ([5], [5]), ([4, 6, 3], [4, 6]), ([3, 7], [3, 7]), ([], []), ([], []), ([10], [10]), ([9, 11, 7], [9, 11]), ([8, 12], [8, 12]), ([], []), ([13, 14], [13, 14]), ([15, 12, 0, 1, 2, 3, 4, 5, 6, 7, 8, 9, 10, 11, 12, 13, 14, 15], [15])])
def value_Moved.B1 : List Nat := [0, 0, 2, 7, 0, 0, 32, 127, 255, 0, 0, 1024, 3839, 8191, 0, 32767, 65535]
theorem value_Moved.tab1 : rtab .any (opsOf Try.f39 1) = value_Moved.T1 := by kernel_rfl
theorem value_Moved.bits1 : waitsOk value_Moved.T1.2 value_Moved.B1 = true := by kernel_rfl
set_option maxHeartbeats 8000000 in
set_option maxRecDepth 100000 in
theorem value_Moved.calls (k : Nat) (a0 : Int) (a1 : Int) (a2_0 : Int) (a2_1 : Int) (a3 : Int) (r : Int) (w : World) (h : value_Moved.f k a0 a1 a2_0 a2_1 a3 = some r) :
    Calls Try.prog 39 #[.int .i64 a0, .int .u8 a1, .agg #[.int .i64 a2_0, .int .i64 a2_1], .int .u8 a3] w fun e w' => e = .returned (.int .i64 r) ∧ Below w.heap.size w w' := by
  have hu41 := Try.underlying41
  have HB := Aside0.mk (Below.refl w.heap.size w)
  have H : ((value_Piece.f k a1 a2_0).bind fun t332 => ((value_Piece.f k a1 a2_1).bind fun t333 => ((value_Piece.f k a3 a2_1).bind fun t334 => (some (wrap64 ((wrap64 ((wrap64 (t332 - t333)) - t334)) - a0)))))) = some r := h
  clear h
  replace H := Option.bind_eq_some_iff.mp H
  obtain ⟨t332, A50, H⟩ := H
  replace H : ((value_Piece.f k a1 a2_1).bind fun t333 => ((value_Piece.f k a3 a2_1).bind fun t334 => (some (wrap64 ((wrap64 ((wrap64 (t332 - t333)) - t334)) - a0))))) = some r := H
  have A5 := Aside0.mk A50
  clear A50
  replace H := Option.bind_eq_some_iff.mp H
  obtain ⟨t333, A60, H⟩ := H
  replace H : ((value_Piece.f k a3 a2_1).bind fun t334 => (some (wrap64 ((wrap64 ((wrap64 (t332 - t333)) - t334)) - a0)))) = some r := H
  have A6 := Aside0.mk A60
  clear A60
  replace H := Option.bind_eq_some_iff.mp H
  obtain ⟨t334, A70, H⟩ := H
  replace H : (some (wrap64 ((wrap64 ((wrap64 (t332 - t333)) - t334)) - a0))) = some r := H
  have A7 := Aside0.mk A70
  clear A70
  obtain rfl := Option.some.inj H
  go_enter Try.func39, Try.ntmps39
  try go_wp2_with (first | ((with_reducible refine gate_dst (N := 6) rfl ?_); refine box_event ?hg (N := 6) ?hd (cs := #[.int .i64 a2_0, .int .i64 a2_1]) (t := 41) ?hr ?_; (case hd => rfl); (case hg => rfl); (case hr => first | (go_simp; done) | (go_simp; rfl)); intro gb331 hg w8 hbox hb; have n0_ := Aside0.mk (below_step (by repeat (first | (with_reducible first | exact HB.out | apply below_alloc | apply pw_below_drewN | apply below_drew1) | exact HB.out)) hb); have n1_ := Aside0.mk (hbox); have n2_ := Aside0.mk ((by rw [hg]; exact (below_size (by repeat (first | (with_reducible first | exact HB.out | apply below_alloc | apply pw_below_drewN | apply below_drew1) | exact HB.out))) : w.heap.size ≤ gb331)); have n3_ := Aside0.mk ((by rw [hg]; exact (below_size (by repeat (first | (with_reducible first | exact HB.out | apply below_alloc | apply pw_below_drewN | apply below_drew1) | exact HB.out))) : w.heap.size ≤ gb331)); clear HB; have HB := n0_; have BK331 := n1_; have GW331 := n2_; have GE331 := n3_; clear n0_ n1_ n2_ n3_; clear hb hbox hg))
  have n0_ := Aside0.mk (blk_drew BK331.out)
  have n1_ := Aside0.mk (below_drew1 HB.out)
  clear BK331
  clear HB
  have BK331 := n0_
  have HB := n1_
  clear n0_ n1_
  refine start_ (n := 17) (S := fun w' => w'.cell? ⟨gb331, 0, none⟩ = some (.int .i64 a2_0) ∧ w'.cell? ⟨gb331, 1, none⟩ = some (.int .i64 a2_1)) (ds := []) #[false, false, false, false, false, false, false, false, false, false, false, false, false, false, false, false, false] (by kernel_rfl) rfl rfl ⟨(blk_cell BK331.out 0).trans rfl, (blk_cell BK331.out 1).trans rfl⟩ (fun hHeld => ?_); refine with_tabW value_Moved.tab1 value_Moved.bits1 (fun HT_ HW_ => ?_)
  generalize w8.drew = w9 at BK331 HB hHeld ⊢
  refine pure_ (i := 0) (N := some 9) (v := ?_) (a' := ?_) #[true, false, false, false, false, false, false, false, false, false, false, false, false, false, false, false, false] rfl rfl (any_of HT_.out (by kernel_rfl)) (fun _ _ _ h => h) (Or.inl ⟨by rfl, ?_⟩) ?_ ?_
  rotate_left
  · intro w'
    go_simp
    with_reducible rfl
  rotate_left
  · simp only [Act.put, List.setIfInBounds_toArray, List.set_cons_zero, List.set_cons_succ, i64_w, i32_w]
    rfl
  refine pure_ (i := 1) (N := some 10) (v := ?_) (a' := ?_) #[true, true, false, false, false, false, false, false, false, false, false, false, false, false, false, false, false] rfl rfl (any_of HT_.out (by kernel_rfl)) (fun _ _ _ h => h) (Or.inl ⟨by rfl, ?_⟩) ?_ ?_
  rotate_left
  · intro w'
    go_simp
    with_reducible rfl
  rotate_left
  · simp only [Act.put, List.setIfInBounds_toArray, List.set_cons_zero, List.set_cons_succ, i64_w, i32_w]
    rfl
  refine pure_ (i := 4) (N := some 13) (v := ?_) (a' := ?_) #[true, true, false, false, true, false, false, false, false, false, false, false, false, false, false, false, false] rfl rfl (any_of HT_.out (by kernel_rfl)) (fun _ _ _ h => h) (Or.inl ⟨by rfl, ?_⟩) ?_ ?_
  rotate_left
  · intro w'
    go_simp
    with_reducible rfl
  rotate_left
  · simp only [Act.put, List.setIfInBounds_toArray, List.set_cons_zero, List.set_cons_succ, i64_w, i32_w]
    rfl
  refine pure_ (i := 5) (N := some 14) (v := ?_) (a' := ?_) #[true, true, false, false, true, true, false, false, false, false, false, false, false, false, false, false, false] rfl rfl (any_of HT_.out (by kernel_rfl)) (fun _ _ _ h => h) (Or.inl ⟨by rfl, ?_⟩) ?_ ?_
  rotate_left
  · intro w'
    go_simp
    with_reducible rfl
  rotate_left
  · simp only [Act.put, List.setIfInBounds_toArray, List.set_cons_zero, List.set_cons_succ, i64_w, i32_w]
    rfl
  refine pure_ (i := 9) (N := some 18) (v := ?_) (a' := ?_) #[true, true, false, false, true, true, false, false, false, true, false, false, false, false, false, false, false] rfl rfl (any_of HT_.out (by kernel_rfl)) (fun _ _ _ h => h) (Or.inl ⟨by rfl, ?_⟩) ?_ ?_
  rotate_left
  · intro w'
    go_simp
    with_reducible rfl
  rotate_left
  · simp only [Act.put, List.setIfInBounds_toArray, List.set_cons_zero, List.set_cons_succ, i64_w, i32_w]
    rfl
  refine pure_ (i := 10) (N := some 19) (v := ?_) (a' := ?_) #[true, true, false, false, true, true, false, false, false, true, true, false, false, false, false, false, false] rfl rfl (any_of HT_.out (by kernel_rfl)) (fun _ _ _ h => h) (Or.inl ⟨by rfl, ?_⟩) ?_ ?_
  rotate_left
  · intro w'
    go_simp
    with_reducible rfl
  rotate_left
  · simp only [Act.put, List.setIfInBounds_toArray, List.set_cons_zero, List.set_cons_succ, i64_w, i32_w]
    rfl
  refine pure_ (i := 14) (N := some 23) (v := ?_) (a' := ?_) #[true, true, false, false, true, true, false, false, false, true, true, false, false, false, true, false, false] rfl rfl (any_of HT_.out (by kernel_rfl)) (fun _ _ _ h => h) (Or.inl ⟨by rfl, ?_⟩) ?_ ?_
  rotate_left
  · intro w'
    go_simp
    with_reducible rfl
  rotate_left
  · simp only [Act.put, List.setIfInBounds_toArray, List.set_cons_zero, List.set_cons_succ, i64_w, i32_w]
    rfl
  refine take_ (i := 2) (N := some 11) (v := ?_) (a' := ?_) #[true, true, true, false, true, true, false, false, false, true, true, false, false, false, true, false, false] rfl rfl (take_ofW HT_.out HW_.out (by kernel_rfl)) (fun _ _ _ h => h) (Or.inl ⟨by rfl, ?_⟩) hHeld ?_ ?_
  rotate_left
  · rintro w' ⟨s0, s1⟩
    go_simp
    with_reducible rfl
  rotate_left
  · simp only [Act.put, List.setIfInBounds_toArray, List.set_cons_zero, List.set_cons_succ, i64_w, i32_w]
    rfl
  refine take_ (i := 6) (N := some 15) (v := ?_) (a' := ?_) #[true, true, true, false, true, true, true, false, false, true, true, false, false, false, true, false, false] rfl rfl (take_ofW HT_.out HW_.out (by kernel_rfl)) (fun _ _ _ h => h) (Or.inl ⟨by rfl, ?_⟩) hHeld ?_ ?_
  rotate_left
  · rintro w' ⟨s0, s1⟩
    go_simp
    with_reducible rfl
  rotate_left
  · simp only [Act.put, List.setIfInBounds_toArray, List.set_cons_zero, List.set_cons_succ, i64_w, i32_w]
    rfl
  refine take_ (i := 11) (N := some 20) (v := ?_) (a' := ?_) #[true, true, true, false, true, true, true, false, false, true, true, true, false, false, true, false, false] rfl rfl (take_ofW HT_.out HW_.out (by kernel_rfl)) (fun _ _ _ h => h) (Or.inl ⟨by rfl, ?_⟩) hHeld ?_ ?_
  rotate_left
  · rintro w' ⟨s0, s1⟩
    go_simp
    with_reducible rfl
  rotate_left
  · simp only [Act.put, List.setIfInBounds_toArray, List.set_cons_zero, List.set_cons_succ, i64_w, i32_w]
    rfl
  refine one_ (i := 3) (N := some 12) #[true, true, true, true, true, true, true, false, false, true, true, true, false, false, true, false, false] rfl rfl (one_of HT_.out (by kernel_rfl)) (by decide) (fun K hK => ?_)
  refine goes_ Try.func34 (by kernel_rfl) rfl #[.int .u8 a1, .int .i64 a2_0] (by rfl) rfl rfl (by (try simp only [List.map_toArray, List.map_cons, List.map_nil]); first | done | rfl | (simp only [List.length_drop, List.length_take]; rfl)) ?_
  with_reducible refine (value_Piece.calls k a1 a2_0 t332 _ A5.out).mono ?_
  rintro e w10 ⟨rfl, hb⟩
  refine ⟨_, rfl, ?_⟩
  have n0_ := Aside0.mk (blk_below (g := gb331) (o := .cells #[.int .i64 a2_0, .int .i64 a2_1] 41 (0, 0)) (by (with_reducible repeat (first | refine blk_drewN ?_ _ | refine blk_drew ?_ | refine blk_alloc ?_ _)); exact BK331.out) hb)
  have n1_ := Aside0.mk (below_step (by repeat (first | (with_reducible first | exact HB.out | apply below_alloc | apply pw_below_drewN | apply below_drew1 | refine below_set ?_ GE331.out) | exact HB.out)) hb)
  clear BK331
  clear HB
  have BK331 := n0_
  have HB := n1_
  clear n0_ n1_
  (try clear hb)
  (try clear hb2)
  (try clear hk)
  (try clear hi)
  refine hK.out _ _ ⟨(blk_cell BK331.out 0).trans rfl, (blk_cell BK331.out 1).trans rfl⟩ (fun hHeld => ?_)
  clear hK K
  refine norm_ (a' := ?_) ?_ ?_
  rotate_left
  · show Act.put _ (some 12) _ = _
    simp only [Act.put, List.setIfInBounds_toArray, List.set_cons_zero, List.set_cons_succ, i64_w, i32_w]
    rfl
  refine one_ (i := 7) (N := some 16) #[true, true, true, true, true, true, true, true, false, true, true, true, false, false, true, false, false] rfl rfl (one_of HT_.out (by kernel_rfl)) (by decide) (fun K hK => ?_)
  refine goes_ Try.func34 (by kernel_rfl) rfl #[.int .u8 a1, .int .i64 a2_1] (by rfl) rfl rfl (by (try simp only [List.map_toArray, List.map_cons, List.map_nil]); first | done | rfl | (simp only [List.length_drop, List.length_take]; rfl)) ?_
  with_reducible refine (value_Piece.calls k a1 a2_1 t333 _ A6.out).mono ?_
  rintro e w11 ⟨rfl, hb⟩
  refine ⟨_, rfl, ?_⟩
  have n0_ := Aside0.mk (blk_below (g := gb331) (o := .cells #[.int .i64 a2_0, .int .i64 a2_1] 41 (0, 0)) (by (with_reducible repeat (first | refine blk_drewN ?_ _ | refine blk_drew ?_ | refine blk_alloc ?_ _)); exact BK331.out) hb)
  have n1_ := Aside0.mk (below_step (by repeat (first | (with_reducible first | exact HB.out | apply below_alloc | apply pw_below_drewN | apply below_drew1 | refine below_set ?_ GE331.out) | exact HB.out)) hb)
  clear BK331
  clear HB
  have BK331 := n0_
  have HB := n1_
  clear n0_ n1_
  (try clear hb)
  (try clear hb2)
  (try clear hk)
  (try clear hi)
  refine hK.out _ _ ⟨(blk_cell BK331.out 0).trans rfl, (blk_cell BK331.out 1).trans rfl⟩ (fun hHeld => ?_)
  clear hK K
  refine norm_ (a' := ?_) ?_ ?_
  rotate_left
  · show Act.put _ (some 16) _ = _
    simp only [Act.put, List.setIfInBounds_toArray, List.set_cons_zero, List.set_cons_succ, i64_w, i32_w]
    rfl
  refine pure_ (i := 8) (N := some 17) (v := ?_) (a' := ?_) #[true, true, true, true, true, true, true, true, true, true, true, true, false, false, true, false, false] rfl rfl (any_of HT_.out (by kernel_rfl)) (fun _ _ _ h => h) (Or.inl ⟨by rfl, ?_⟩) ?_ ?_
  rotate_left
  · intro w'
    go_simp
    with_reducible rfl
  rotate_left
  · simp only [Act.put, List.setIfInBounds_toArray, List.set_cons_zero, List.set_cons_succ, i64_w, i32_w]
    rfl
  refine one_ (i := 12) (N := some 21) #[true, true, true, true, true, true, true, true, true, true, true, true, true, false, true, false, false] rfl rfl (one_of HT_.out (by kernel_rfl)) (by decide) (fun K hK => ?_)
  refine goes_ Try.func34 (by kernel_rfl) rfl #[.int .u8 a3, .int .i64 a2_1] (by rfl) rfl rfl (by (try simp only [List.map_toArray, List.map_cons, List.map_nil]); first | done | rfl | (simp only [List.length_drop, List.length_take]; rfl)) ?_
  with_reducible refine (value_Piece.calls k a3 a2_1 t334 _ A7.out).mono ?_
  rintro e w12 ⟨rfl, hb⟩
  refine ⟨_, rfl, ?_⟩
  have n0_ := Aside0.mk (blk_below (g := gb331) (o := .cells #[.int .i64 a2_0, .int .i64 a2_1] 41 (0, 0)) (by (with_reducible repeat (first | refine blk_drewN ?_ _ | refine blk_drew ?_ | refine blk_alloc ?_ _)); exact BK331.out) hb)
  have n1_ := Aside0.mk (below_step (by repeat (first | (with_reducible first | exact HB.out | apply below_alloc | apply pw_below_drewN | apply below_drew1 | refine below_set ?_ GE331.out) | exact HB.out)) hb)
  clear BK331
  clear HB
  have BK331 := n0_
  have HB := n1_
  clear n0_ n1_
  (try clear hb)
  (try clear hb2)
  (try clear hk)
  (try clear hi)
  refine hK.out _ _ ⟨(blk_cell BK331.out 0).trans rfl, (blk_cell BK331.out 1).trans rfl⟩ (fun hHeld => ?_)
  clear hK K
  refine norm_ (a' := ?_) ?_ ?_
  rotate_left
  · show Act.put _ (some 21) _ = _
    simp only [Act.put, List.setIfInBounds_toArray, List.set_cons_zero, List.set_cons_succ, i64_w, i32_w]
    rfl
  refine pure_ (i := 13) (N := some 22) (v := ?_) (a' := ?_) #[true, true, true, true, true, true, true, true, true, true, true, true, true, true, true, false, false] rfl rfl (any_of HT_.out (by kernel_rfl)) (fun _ _ _ h => h) (Or.inl ⟨by rfl, ?_⟩) ?_ ?_
  rotate_left
  · intro w'
    go_simp
    with_reducible rfl
  rotate_left
  · simp only [Act.put, List.setIfInBounds_toArray, List.set_cons_zero, List.set_cons_succ, i64_w, i32_w]
    rfl
  refine pure_ (i := 15) (N := some 24) (v := ?_) (a' := ?_) #[true, true, true, true, true, true, true, true, true, true, true, true, true, true, true, true, false] rfl rfl (any_of HT_.out (by kernel_rfl)) (fun _ _ _ h => h) (Or.inl ⟨by rfl, ?_⟩) ?_ ?_
  rotate_left
  · intro w'
    go_simp
    with_reducible rfl
  rotate_left
  · simp only [Act.put, List.setIfInBounds_toArray, List.set_cons_zero, List.set_cons_succ, i64_w, i32_w]
    rfl
  refine pure_ (i := 16) (N := some 8) (v := ?_) (a' := ?_) #[true, true, true, true, true, true, true, true, true, true, true, true, true, true, true, true, true] rfl rfl (any_of HT_.out (by kernel_rfl)) (fun _ _ _ h => h) (Or.inl ⟨by rfl, ?_⟩) ?_ ?_
  rotate_left
  · intro w'
    go_simp
    with_reducible rfl
  rotate_left
  · simp only [Act.put, List.setIfInBounds_toArray, List.set_cons_zero, List.set_cons_succ, i64_w, i32_w]
    rfl
  refine done_ (done_of HT_.out (by kernel_rfl)) ?_
  try go_wp2
  go_ret
  exact ⟨by first | rfl | (simp [errW_none, errW_some] <;> rfl) | (simp [*, errW_none, errW_some] <;> rfl), by repeat (first | (with_reducible first | exact HB.out | apply below_alloc | apply pw_below_drewN | apply below_drew1 | refine below_set ?_ GE331.out) | exact HB.out)⟩

end Go.Proofs.Ytmfbgcimfmgobaa.Print

-- of YtmfbgcimfmgobaaPrint33
-- Written by a program of this session (wip/gprint/gprint.py) over the kit's print; the parts marked GIVEN by hand.
namespace Go.Proofs.Ytmfbgcimfmgobaa.Print
open Go.RowKit Go.Proofs.YtmfbgcimfmgobaaW.PrintWords Go.Proofs.YtmfbgcimfmgobaaW.PrintLast Go.Proofs.YtmfbgcimfmgobaaW.PrintMore
attribute [local go_sem] max2_int min2_int max_two min_two max_three min_three max_four min_four   -- for this text's walks alone
set_option linter.unusedVariables false
set_option linter.unusedSimpArgs false
/-! GIVEN riverbanklaw14_live -/
-- GIVEN riverbank/riverbanklaw14.live
-- MAKES yes
def riverbanklaw14_live.f : Option (Bool) := some true
def startV : ByteArray := ⟨#[82, 78, 66, 65, 75, 65, 66, 78, 82, 46, 46, 46, 46, 46, 46, 46, 46, 46, 46, 67, 46, 46, 46, 46, 46, 67, 46, 80, 46, 80, 46, 80, 46, 80, 46, 80, 46, 46, 46, 46, 46, 46, 46, 46, 46, 46, 46, 46, 46, 46, 46, 46, 46, 46, 112, 46, 112, 46, 112, 46, 112, 46, 112, 46, 99, 46, 46, 46, 46, 46, 99, 46, 46, 46, 46, 46, 46, 46, 46, 46, 46, 114, 110, 98, 97, 107, 97, 98, 110, 114]⟩
set_option maxRecDepth 100000 in
set_option maxHeartbeats 2000000 in
theorem riverbanklaw14_live.calls (r : Bool) (w : World) (h : riverbanklaw14_live.f = some r) :
    Calls Try.prog 36 #[] w fun e w' => e = .returned (.bool r) ∧ Below w.heap.size w w' := by
  obtain rfl := Option.some.inj h
  clear h
  have v1 : Aside0 (value_Of.f startV 0 0 1 = some 0) := ⟨by decide +kernel⟩
  have k1 : Aside0 (value_Kind.f 114 = some 200) := ⟨by decide +kernel⟩
  have k2 : Aside0 (value_Kind.f 46 = some 0) := ⟨by decide +kernel⟩
  have p1 : Aside0 (value_Piece.f 200 80 49 = some 80) := ⟨by decide +kernel⟩
  have p2 : Aside0 (value_Piece.f 200 80 40 = some 30) := ⟨by decide +kernel⟩
  have p3 : Aside0 (value_Piece.f 200 112 40 = some 80) := ⟨by decide +kernel⟩
  have p4 : Aside0 (value_Piece.f 200 110 82 = some 91) := ⟨by decide +kernel⟩
  have p5 : Aside0 (value_Piece.f 200 75 4 = some 0) := ⟨by decide +kernel⟩
  have m1 : Aside0 (value_Moved.f 200 0 80 40 49 112 = some (-80)) := ⟨by decide +kernel⟩
  unfold startV at v1
  have hB0 : Below w.heap.size w (w.alloc (.cells #[.string ⟨#[82, 78, 66, 65, 75, 65, 66, 78, 82, 46, 46, 46, 46, 46, 46, 46, 46, 46, 46, 67, 46, 46, 46, 46, 46, 67, 46, 80, 46, 80, 46, 80, 46, 80, 46, 80, 46, 46, 46, 46, 46, 46, 46, 46, 46, 46, 46, 46, 46, 46, 46, 46, 46, 46, 112, 46, 112, 46, 112, 46, 112, 46, 112, 46, 99, 46, 46, 46, 46, 46, 99, 46, 46, 46, 46, 46, 46, 46, 46, 46, 46, 114, 110, 98, 97, 107, 97, 98, 110, 114]⟩, .int .i64 0, .int .i64 0, .int .i64 1] 29)) := (Below.refl _ w).alloc (Nat.le_refl _) _
  go_enter Try.func36, Try.ntmps36
  go_wp2_with (first
    | (go_at_call 37; (with_reducible refine (value_Of.calls _ _ _ _ 0 _ v1.out).mono ?_); rintro e w1 ⟨rfl, hb⟩; have hB1 := hB0.trans (hb.mono hB0.size); clear hb)
    | (go_at_call 32; (with_reducible refine (value_Kind.calls 114 200 _ k1.out).mono ?_); rintro e w2 ⟨rfl, hb⟩; have hB2 := hB1.trans (hb.mono hB1.size); clear hb)
    | (go_at_call 32; (with_reducible refine (value_Kind.calls 46 0 _ k2.out).mono ?_); rintro e w3 ⟨rfl, hb⟩; have hB3 := hB2.trans (hb.mono hB2.size); clear hb)
    | (go_at_call 34; (with_reducible refine (value_Piece.calls 200 80 49 80 _ p1.out).mono ?_); rintro e w4 ⟨rfl, hb⟩; have hB4 := hB3.trans (hb.mono hB3.size); clear hb)
    | (go_at_call 34; (with_reducible refine (value_Piece.calls 200 80 40 30 _ p2.out).mono ?_); rintro e w5 ⟨rfl, hb⟩; have hB5 := hB4.trans (hb.mono hB4.size); clear hb)
    | (go_at_call 34; (with_reducible refine (value_Piece.calls 200 112 40 80 _ p3.out).mono ?_); rintro e w6 ⟨rfl, hb⟩; have hB6 := hB5.trans (hb.mono hB5.size); clear hb)
    | (go_at_call 34; (with_reducible refine (value_Piece.calls 200 110 82 91 _ p4.out).mono ?_); rintro e w7 ⟨rfl, hb⟩; have hB7 := hB6.trans (hb.mono hB6.size); clear hb)
    | (go_at_call 34; (with_reducible refine (value_Piece.calls 200 75 4 0 _ p5.out).mono ?_); rintro e w8 ⟨rfl, hb⟩; have hB8 := hB7.trans (hb.mono hB7.size); clear hb)
    | (go_at_call 39; (with_reducible refine (value_Moved.calls 200 0 80 40 49 112 (-80) _ m1.out).mono ?_); rintro e w9 ⟨rfl, hb⟩; have hB9 := hB8.trans (hb.mono hB8.size); clear hb))
  go_ret
  exact ⟨rfl, hB9⟩

end Go.Proofs.Ytmfbgcimfmgobaa.Print

-- of YtmfbgcimfmgobaaPrint38
-- Written by a program of this session (wip/gprint/gprint.py) over the kit's print; the parts marked GIVEN by hand.
namespace Go.Proofs.Ytmfbgcimfmgobaa.Print
open Go.RowKit Go.Proofs.YtmfbgcimfmgobaaW.PrintWords Go.Proofs.YtmfbgcimfmgobaaW.PrintLast Go.Proofs.YtmfbgcimfmgobaaW.PrintMore
attribute [local go_sem] max2_int min2_int max_two min_two max_three min_three max_four min_four   -- for this text's walks alone
set_option linter.unusedVariables false
set_option linter.unusedSimpArgs false
/-! ### board_At: function 45 -/
def board_At.f (a0 : ByteArray) (a1 : Int) : Option (Int) := (board_isSquare.f a1).bind fun t400 => (if t400 = true then ((board_Is.f a0).bind fun t401 => (if t401 = true then (if 0 ≤ a1 then (if a1 < (a0.size : Int) then (some (bt a0 a1)) else (none)) else (none)) else (some 46))) else (some 46))
set_option maxHeartbeats 8000000 in
set_option maxRecDepth 100000 in
theorem board_At.calls (a0 : ByteArray) (a1 : Int) (r : Int) (w : World) (h : board_At.f a0 a1 = some r) :
    Calls Try.prog 45 #[.string a0, .int .i64 a1] w fun e w' => e = .returned (.int .u8 r) ∧ Below w.heap.size w w' := by
  have HB := Aside0.mk (Below.refl w.heap.size w)
  have H : ((board_isSquare.f a1).bind fun t400 => (if t400 = true then ((board_Is.f a0).bind fun t401 => (if t401 = true then (if 0 ≤ a1 then (if a1 < (a0.size : Int) then (some (bt a0 a1)) else (none)) else (none)) else (some 46))) else (some 46))) = some r := h
  clear h
  replace H := Option.bind_eq_some_iff.mp H
  obtain ⟨t400, A30, H⟩ := H
  replace H : (if t400 = true then ((board_Is.f a0).bind fun t401 => (if t401 = true then (if 0 ≤ a1 then (if a1 < (a0.size : Int) then (some (bt a0 a1)) else (none)) else (none)) else (some 46))) else (some 46)) = some r := H
  have A3 := Aside0.mk A30
  clear A30
  by_cases c4 : t400 = true
  · subst c4
    have H1 : ((board_Is.f a0).bind fun t401 => (if t401 = true then (if 0 ≤ a1 then (if a1 < (a0.size : Int) then (some (bt a0 a1)) else (none)) else (none)) else (some 46))) = some r := by rw [if_pos rfl] at H; exact H
    clear H
    have H := H1
    clear H1
    replace H := Option.bind_eq_some_iff.mp H
    obtain ⟨t401, A50, H⟩ := H
    replace H : (if t401 = true then (if 0 ≤ a1 then (if a1 < (a0.size : Int) then (some (bt a0 a1)) else (none)) else (none)) else (some 46)) = some r := H
    have A5 := Aside0.mk A50
    clear A50
    by_cases c6 : t401 = true
    · subst c6
      have H1 : (if 0 ≤ a1 then (if a1 < (a0.size : Int) then (some (bt a0 a1)) else (none)) else (none)) = some r := by rw [if_pos rfl] at H; exact H
      clear H
      have H := H1
      clear H1
      by_cases c7 : 0 ≤ a1
      · rw [if_pos c7] at H
        have c7b0 : decide (0 ≤ a1) = true := decide_eq_true c7
        clear c7
        by_cases c8 : a1 < (a0.size : Int)
        · rw [if_pos c8] at H
          have c8b0 : decide (a1 < (a0.size : Int)) = true := decide_eq_true c8
          clear c8
          obtain rfl := Option.some.inj H
          go_enter Try.func45, Try.ntmps45
          go_wp2_with (first | ((with_reducible refine gate_callee (f := 68) rfl ?_); refine goesL_ (some 6) rfl rfl Try.func68 (by kernel_rfl) rfl #[.int .i64 a1] rfl (by (try simp only [List.map_toArray, List.map_cons, List.map_nil]); first | done | rfl | (simp only [List.length_drop, List.length_take]; rfl)) ?_; (with_reducible refine (board_isSquare.calls a1 true _ A3.out).mono ?_); rintro e w' ⟨rfl, ⟨nd, rfl⟩⟩; refine ⟨_, rfl, ?_⟩) | (go_at_call 41; (with_reducible refine (board_Is.calls a0 true _ A5.out).mono ?_); rintro e w10 ⟨rfl, hb⟩; have n0_ := Aside0.mk (below_step (by repeat (first | (with_reducible first | exact HB.out | apply below_alloc | apply pw_below_drewN | apply below_drew1) | exact HB.out)) hb); clear HB; have HB := n0_; clear n0_; (try clear hb); (try clear hb2); (try clear hk); (try clear hi); have p9 : 0 ≤ (a1 : Int) := of_decide_eq_true (by first | (with_reducible assumption) | assumption); have q9 : a1 < (a0.size : Int) := of_decide_eq_true (by first | (with_reducible assumption) | assumption); have hx9 := bt_at a0 a1; replace p9 := eq_true p9; replace q9 := eq_true q9))
          go_ret
          exact ⟨by first | rfl | (simp [errW_none, errW_some] <;> rfl) | (simp [*, errW_none, errW_some] <;> rfl), by repeat (first | (with_reducible first | exact HB.out | apply below_alloc | apply pw_below_drewN | apply below_drew1) | exact HB.out)⟩
        · rw [if_neg c8] at H
          exact absurd H (by simp)
      · rw [if_neg c7] at H
        exact absurd H (by simp)
    · replace c6 := Bool.eq_false_iff.mpr c6
      subst c6
      have H1 : (some 46) = some r := by rw [if_neg (show ¬ (false = true) by decide)] at H; exact H
      clear H
      have H := H1
      clear H1
      obtain rfl := Option.some.inj H
      go_enter Try.func45, Try.ntmps45
      go_wp2_with (first | ((with_reducible refine gate_callee (f := 68) rfl ?_); refine goesL_ (some 6) rfl rfl Try.func68 (by kernel_rfl) rfl #[.int .i64 a1] rfl (by (try simp only [List.map_toArray, List.map_cons, List.map_nil]); first | done | rfl | (simp only [List.length_drop, List.length_take]; rfl)) ?_; (with_reducible refine (board_isSquare.calls a1 true _ A3.out).mono ?_); rintro e w' ⟨rfl, ⟨nd, rfl⟩⟩; refine ⟨_, rfl, ?_⟩) | (go_at_call 41; (with_reducible refine (board_Is.calls a0 false _ A5.out).mono ?_); rintro e w11 ⟨rfl, hb⟩; have n0_ := Aside0.mk (below_step (by repeat (first | (with_reducible first | exact HB.out | apply below_alloc | apply pw_below_drewN | apply below_drew1) | exact HB.out)) hb); clear HB; have HB := n0_; clear n0_; (try clear hb); (try clear hb2); (try clear hk); (try clear hi)))
      go_ret
      exact ⟨by first | rfl | (simp [errW_none, errW_some] <;> rfl) | (simp [*, errW_none, errW_some] <;> rfl), by repeat (first | (with_reducible first | exact HB.out | apply below_alloc | apply pw_below_drewN | apply below_drew1) | exact HB.out)⟩
  · replace c4 := Bool.eq_false_iff.mpr c4
    subst c4
    have H1 : (some 46) = some r := by rw [if_neg (show ¬ (false = true) by decide)] at H; exact H
    clear H
    have H := H1
    clear H1
    obtain rfl := Option.some.inj H
    go_enter Try.func45, Try.ntmps45
    go_wp2_with (first | ((with_reducible refine gate_callee (f := 68) rfl ?_); refine goesL_ (some 6) rfl rfl Try.func68 (by kernel_rfl) rfl #[.int .i64 a1] rfl (by (try simp only [List.map_toArray, List.map_cons, List.map_nil]); first | done | rfl | (simp only [List.length_drop, List.length_take]; rfl)) ?_; (with_reducible refine (board_isSquare.calls a1 false _ A3.out).mono ?_); rintro e w' ⟨rfl, ⟨nd, rfl⟩⟩; refine ⟨_, rfl, ?_⟩))
    go_ret
    exact ⟨by first | rfl | (simp [errW_none, errW_some] <;> rfl) | (simp [*, errW_none, errW_some] <;> rfl), by repeat (first | (with_reducible first | exact HB.out | apply below_alloc | apply pw_below_drewN | apply below_drew1) | exact HB.out)⟩

end Go.Proofs.Ytmfbgcimfmgobaa.Print

-- of YtmfbgcimfmgobaaPrint39
-- Written by a program of this session (wip/gprint/gprint.py) over the kit's print; the parts marked GIVEN by hand.
namespace Go.Proofs.Ytmfbgcimfmgobaa.Print
open Go.RowKit Go.Proofs.YtmfbgcimfmgobaaW.PrintWords Go.Proofs.YtmfbgcimfmgobaaW.PrintLast Go.Proofs.YtmfbgcimfmgobaaW.PrintMore
attribute [local go_sem] max2_int min2_int max_two min_two max_three min_three max_four min_four   -- for this text's walks alone
set_option linter.unusedVariables false
set_option linter.unusedSimpArgs false
/-! GIVEN board_Put -/
-- GIVEN riverbank/board.Put
-- MAKES yes
-- IMPORT Derived.Test.YtmfbgcimfmgobaaBytes
-- IMPORT Derived.RegionTactic
-- IMPORT Derived.BigRegion
def putB (s : ByteArray) (i : Nat) (c : Int) : ByteArray := ⟨(s.data.toList.set i c.toNat.toUInt8).toArray⟩
def board_Put.f (a0 : ByteArray) (a1 : Int) (a2 : Int) : Option (ByteArray) :=
  if 0 ≤ a2 ∧ a2 ≤ 255 then (board_isSquare.f a1).bind fun t1 => if t1 = true then ((board_isCell.f a2).bind fun t2 => if t2 = true then ((board_Is.f a0).bind fun t3 => if t3 = true then some (putB a0 a1.toNat a2) else some a0) else some a0) else some a0 else none
set_option maxRecDepth 100000 in
set_option maxHeartbeats 400000 in
theorem board_Put.yes (a0 : ByteArray) (i : Nat) (c : UInt8) (w : World) (hi : i < 90) (hc : board_isCell.f (c.toNat : Int) = some true) (hI : board_Is.f a0 = some true) :
    Calls Try.prog 46 #[.string a0, .int .i64 i, .int .u8 c.toNat] w fun e w' => e = .returned (.string ⟨(a0.data.toList.set i c).toArray⟩) ∧ Below w.heap.size w w' := by
  have hsz : a0.size = 90 := by
    unfold board_Is.f at hI; have := Option.some.inj hI; simp at this; exact this.1
  have hl : i < a0.data.toList.length := by simpa [hsz] using hi
  have i1 : (i : Int) < (a0.size : Int) := by omega
  have sz : a0.size ≤ 200 := by omega
  clear hsz
  have i0 : (0 : Int) ≤ (i : Int) := Int.natCast_nonneg _
  have hq : board_isSquare.f (i : Int) = some true := by
    unfold board_isSquare.f; rw [if_pos (by omega)]; simp; omega
  have HQ := Aside0.mk hq
  have HC := Aside0.mk hc
  have HI := Aside0.mk hI
  clear hq hc hI
  have hcv := fun (w : World) => Lib.run_convert_string_bytes (P := Try.prog) w 9 70 5 a0 Try.underlying9 Try.underlying70 Try.underlying5
  obtain ⟨res, hres⟩ : ∃ res : ByteArray, res = ⟨(a0.data.toList.set i c).toArray⟩ := ⟨_, rfl⟩
  rw [← hres]
  have HRES := Aside0.mk hres
  clear hres
  go_enter Try.func46, Try.ntmps46
  go_wp2_with (first
    | (go_at_call 68; (with_reducible refine (board_isSquare.calls _ true _ HQ.out).mono ?_); rintro e w' ⟨rfl, ⟨q, rfl⟩⟩)
    | (go_at_call 66; (with_reducible refine (board_isCell.calls _ true _ HC.out).mono ?_); rintro e w' ⟨rfl, ⟨q2, rfl⟩⟩))
  refine (board_Is.calls _ true _ HI.out).mono ?_
  rintro e w3 ⟨rfl, hb3⟩
  have H1 := HasBytes.start w3 5 a0
  have zi := H1.free i hl
  have ci := H1.cell i hl
  obtain ⟨x, hx⟩ : ∃ x, x = a0.data.toList[i]'hl := ⟨_, rfl⟩
  rw [← hx] at ci
  clear hx
  have H3 := H1.set i hl c
  have hB3 : Below w.heap.size w ((Lib.bytesWorld w3 5 a0).setCell ⟨w3.heap.size, i, none⟩ (.int .u8 c.toNat)) :=
    (below_past (Below.refl _ w) rfl hb3 |>.trans ((below_bytes w3 5 a0).mono (by have := hb3.size; simpa using this))).setCell (p := ⟨w3.heap.size, i, none⟩) (by have := hb3.size; simpa using this) _
  have hbk := run_convert_bytes_back (P := Try.prog) ((Lib.bytesWorld w3 5 a0).setCell ⟨w3.heap.size, i, none⟩ (.int .u8 c.toNat)) 70 9 5 ⟨w3.heap.size, 0, none⟩ (grownCap w3 a0.size 0 5) (a0.data.toList.set i c) Try.underlying70 Try.underlying5 Try.underlying9 (fun k hk => by rw [addr_add0]; exact H3.cell k hk)
  have hln : (a0.data.toList.set i c).length = a0.size := by simp
  rw [hln, ← HRES.out] at hbk
  clear hln H1 H3 HRES hb3
  go_wp2
  go_ret
  exact ⟨rfl, hB3⟩
theorem board_Put.calls (a0 : ByteArray) (a1 : Int) (a2 : Int) (r : ByteArray) (w : World) (h : board_Put.f a0 a1 a2 = some r) :
    Calls Try.prog 46 #[.string a0, .int .i64 a1, .int .u8 a2] w fun e w' => e = .returned (.string r) ∧ Below w.heap.size w w' := by
  unfold board_Put.f at h
  split at h
  case isFalse => cases h
  rename_i hr
  obtain ⟨c, rfl⟩ : ∃ c : UInt8, a2 = c.toNat := ⟨a2.toNat.toUInt8, by simp; omega⟩
  clear hr
  obtain ⟨t1, h1, h⟩ := Option.bind_eq_some_iff.mp h
  cases t1 with
  | false =>
    obtain rfl := Option.some.inj h
    have H1 := Aside0.mk h1
    clear h1 h
    go_enter Try.func46, Try.ntmps46
    go_wp2_with (go_at_call 68; (with_reducible refine (board_isSquare.calls _ false _ H1.out).mono ?_); rintro e w' ⟨rfl, ⟨q, rfl⟩⟩)
    go_ret
    exact ⟨rfl, below_past (Below.refl _ w) rfl (Below.refl _ _)⟩
  | true =>
    rw [if_pos rfl] at h
    obtain ⟨t2, h2, h⟩ := Option.bind_eq_some_iff.mp h
    cases t2 with
    | false =>
      obtain rfl := Option.some.inj h
      have H1 := Aside0.mk h1
      have H2 := Aside0.mk h2
      clear h1 h h2
      go_enter Try.func46, Try.ntmps46
      go_wp2_with (first
        | (go_at_call 68; (with_reducible refine (board_isSquare.calls _ true _ H1.out).mono ?_); rintro e w' ⟨rfl, ⟨q, rfl⟩⟩)
        | (go_at_call 66; (with_reducible refine (board_isCell.calls _ false _ H2.out).mono ?_); rintro e w' ⟨rfl, ⟨q2, rfl⟩⟩))
      go_ret
      exact ⟨rfl, below_past (Below.refl _ w) rfl (Below.refl _ _)⟩
    | true =>
      rw [if_pos rfl] at h
      obtain ⟨t3, h3, h⟩ := Option.bind_eq_some_iff.mp h
      cases t3 with
      | false =>
        obtain rfl := Option.some.inj h
        have H1 := Aside0.mk h1
        have H2 := Aside0.mk h2
        have H3 := Aside0.mk h3
        clear h1 h h2 h3
        go_enter Try.func46, Try.ntmps46
        go_wp2_with (first
          | (go_at_call 68; (with_reducible refine (board_isSquare.calls _ true _ H1.out).mono ?_); rintro e w' ⟨rfl, ⟨q, rfl⟩⟩)
          | (go_at_call 66; (with_reducible refine (board_isCell.calls _ true _ H2.out).mono ?_); rintro e w' ⟨rfl, ⟨q2, rfl⟩⟩)
          | (go_at_call 41; (with_reducible refine (board_Is.calls _ false _ H3.out).mono ?_); rintro e w3 ⟨rfl, hb3⟩))
        go_ret
        exact ⟨rfl, below_past (Below.refl _ w) rfl hb3⟩
      | true =>
        rw [if_pos rfl] at h
        have hin : 0 ≤ a1 ∧ a1 < 90 := by
          unfold board_isSquare.f at h1
          split at h1
          · have := Option.some.inj h1; simp at this; omega
          · cases h1
        obtain ⟨i, rfl⟩ : ∃ i : Nat, a1 = i := ⟨a1.toNat, by omega⟩
        have e := Option.some.inj h
        unfold putB at e
        simp at e
        rw [← e]
        exact board_Put.yes a0 i c w (by omega) h2 h3

end Go.Proofs.Ytmfbgcimfmgobaa.Print

-- of YtmfbgcimfmgobaaPrint40
-- Written by a program of this session (wip/gprint/gprint.py) over the kit's print; the parts marked GIVEN by hand.
namespace Go.Proofs.Ytmfbgcimfmgobaa.Print
open Go.RowKit Go.Proofs.YtmfbgcimfmgobaaW.PrintWords Go.Proofs.YtmfbgcimfmgobaaW.PrintLast Go.Proofs.YtmfbgcimfmgobaaW.PrintMore
attribute [local go_sem] max2_int min2_int max_two min_two max_three min_three max_four min_four   -- for this text's walks alone
set_option linter.unusedVariables false
set_option linter.unusedSimpArgs false
/-! ### riverbanklaw14_ValueAdds: function 15 -/
def riverbanklaw14_ValueAdds.j0 : Nat → Int → Int → Bool → ByteArray → Int → Int → Int → Option (Bool)
  | 0, _, _, _, _, _, _, _ => none
  | k + 1, x1, x2, x43, x403000, x403001, x403002, x403003 => if x43 = true then ((riverbanklaw14_live.f).bind fun t405 => (some t405)) else ((board_Put.f x403000 x1 x2).bind fun t407 => ((value_Piece.f k x2 x1).bind fun t408 => ((board_Side.f x2).bind fun t409 => (if t409 = x403001 then ((value_Of.f t407 x403001 x403002 x403003).bind fun t410 => ((value_Of.f x403000 x403001 x403002 x403003).bind fun t411 => (if t410 = (wrap64 (t411 + t408)) then ((riverbanklaw14_live.f).bind fun t412 => (some t412)) else (some false)))) else ((value_Of.f t407 x403001 x403002 x403003).bind fun t413 => ((value_Of.f x403000 x403001 x403002 x403003).bind fun t414 => (if t413 = (wrap64 (t414 + (wrap64 (-t408)))) then ((riverbanklaw14_live.f).bind fun t415 => (some t415)) else (some false))))))))
def riverbanklaw14_ValueAdds.f (k : Nat) (a0_0 : ByteArray) (a0_1 : Int) (a0_2 : Int) (a0_3 : Int) (a1 : Int) (a2 : Int) : Option (Bool) := if (a0_0.size : Int) > 200 then (riverbanklaw14_ValueAdds.j0 k a1 a2 true a0_0 a0_1 a0_2 a0_3) else ((board_Is.f a0_0).bind fun t403 => (if t403 = true then (if a1 < 0 then (riverbanklaw14_ValueAdds.j0 k a1 a2 true a0_0 a0_1 a0_2 a0_3) else (if a1 > 89 then (riverbanklaw14_ValueAdds.j0 k a1 a2 true a0_0 a0_1 a0_2 a0_3) else ((board_At.f a0_0 a1).bind fun t404 => (if t404 = 46 then (if a0_1 < 0 then (riverbanklaw14_ValueAdds.j0 k a1 a2 true a0_0 a0_1 a0_2 a0_3) else (riverbanklaw14_ValueAdds.j0 k a1 a2 (decide (a0_1 > 1)) a0_0 a0_1 a0_2 a0_3)) else (riverbanklaw14_ValueAdds.j0 k a1 a2 true a0_0 a0_1 a0_2 a0_3))))) else (riverbanklaw14_ValueAdds.j0 k a1 a2 true a0_0 a0_1 a0_2 a0_3)))
theorem riverbanklaw14_ValueAdds.mono_l : ∀ k, (∀ y0 y1 y2 y3 y4 y5 y6, LeO (riverbanklaw14_ValueAdds.j0 k y0 y1 y2 y3 y4 y5 y6) (riverbanklaw14_ValueAdds.j0 (k + 1) y0 y1 y2 y3 y4 y5 y6))
  | 0 => fun _ _ _ _ _ _ _ r h => by simp [riverbanklaw14_ValueAdds.j0] at h
  | k + 1 => by
    have ih0 := riverbanklaw14_ValueAdds.mono_l k
    · intro y0 y1 y2 y3 y4 y5 y6
      unfold riverbanklaw14_ValueAdds.j0
      repeat' first
      | (with_reducible exact ih0 _ _ _ _ _ _ _)
      | (with_reducible exact value_Piece.mono _ _ _)
      | (with_reducible exact LeO.refl _)
      | (with_reducible exact LeO.none _)
      | (with_reducible refine LeO.ite ?_ ?_)
      | (with_reducible refine LeO.bind ?_ (fun _ => ?_))
      | exact ih0 _ _ _ _ _ _ _
      | exact value_Piece.mono _ _ _
      | exact LeO.none _
      | refine LeO.ite ?_ ?_
      | refine LeO.bind ?_ (fun _ => ?_)
theorem riverbanklaw14_ValueAdds.mono : ∀ a0 a1 a2 a3 a4 a5 k, LeO (riverbanklaw14_ValueAdds.f k a0 a1 a2 a3 a4 a5) (riverbanklaw14_ValueAdds.f (k + 1) a0 a1 a2 a3 a4 a5) := by
  intro a0 a1 a2 a3 a4 a5 k
  have ih0 := riverbanklaw14_ValueAdds.mono_l k
  unfold riverbanklaw14_ValueAdds.f
  repeat' first
      | (with_reducible exact ih0 _ _ _ _ _ _ _)
      | (with_reducible exact value_Piece.mono _ _ _)
      | (with_reducible exact LeO.refl _)
      | (with_reducible exact LeO.none _)
      | (with_reducible refine LeO.ite ?_ ?_)
      | (with_reducible refine LeO.bind ?_ (fun _ => ?_))
      | exact ih0 _ _ _ _ _ _ _
      | exact value_Piece.mono _ _ _
      | exact LeO.none _
      | refine LeO.ite ?_ ?_
      | refine LeO.bind ?_ (fun _ => ?_)
def riverbanklaw14_ValueAdds.T8 : Bool × List (List Nat × List Nat) := (true, [([], []), ([0], [0]), ([], []), ([2, 1], [2]), ([], []), ([3, 4], [3, 4]), ([1, 5], [1, 5]), ([6, 3], [6]), ([7, 7], [7]), ([7, 8], [7, 8]), ([9, 8, 0, 1, 2, 3, 4, 5, 6, 7, 8, 9], [9])])
def riverbanklaw14_ValueAdds.B8 : List Nat := [0, 1, 0, 7, 0, 31, 63, 127, 255, 511, 1023]
theorem riverbanklaw14_ValueAdds.tab8 : rtab .any (opsOf Try.f15 8) = riverbanklaw14_ValueAdds.T8 := by kernel_rfl
theorem riverbanklaw14_ValueAdds.bits8 : waitsOk riverbanklaw14_ValueAdds.T8.2 riverbanklaw14_ValueAdds.B8 = true := by kernel_rfl
set_option maxHeartbeats 8000000 in
set_option maxRecDepth 100000 in
theorem riverbanklaw14_ValueAdds.calls (k : Nat) (a0_0 : ByteArray) (a0_1 : Int) (a0_2 : Int) (a0_3 : Int) (a1 : Int) (a2 : Int) (r : Bool) (w : World) (h : riverbanklaw14_ValueAdds.f k a0_0 a0_1 a0_2 a0_3 a1 a2 = some r) :
    Calls Try.prog 15 #[.agg #[.string a0_0, .int .i64 a0_1, .int .i64 a0_2, .int .i64 a0_3], .int .i64 a1, .int .u8 a2] w fun e w' => e = .returned (.bool r) ∧ Below w.heap.size w w' := by
  have hu29 := Try.underlying29
  have HB := Aside0.mk (Below.refl w.heap.size w)
  have H : (if (a0_0.size : Int) > 200 then (riverbanklaw14_ValueAdds.j0 k a1 a2 true a0_0 a0_1 a0_2 a0_3) else ((board_Is.f a0_0).bind fun t403 => (if t403 = true then (if a1 < 0 then (riverbanklaw14_ValueAdds.j0 k a1 a2 true a0_0 a0_1 a0_2 a0_3) else (if a1 > 89 then (riverbanklaw14_ValueAdds.j0 k a1 a2 true a0_0 a0_1 a0_2 a0_3) else ((board_At.f a0_0 a1).bind fun t404 => (if t404 = 46 then (if a0_1 < 0 then (riverbanklaw14_ValueAdds.j0 k a1 a2 true a0_0 a0_1 a0_2 a0_3) else (riverbanklaw14_ValueAdds.j0 k a1 a2 (decide (a0_1 > 1)) a0_0 a0_1 a0_2 a0_3)) else (riverbanklaw14_ValueAdds.j0 k a1 a2 true a0_0 a0_1 a0_2 a0_3))))) else (riverbanklaw14_ValueAdds.j0 k a1 a2 true a0_0 a0_1 a0_2 a0_3)))) = some r := h
  clear h
  have HC4 := Aside0.mk H
  clear H
  go_enter Try.func15, Try.ntmps15
  go_upto_region 1 with (first | ((with_reducible refine gate_dst (N := 3) rfl ?_); refine box_event ?hg (N := 3) ?hd (cs := #[.string a0_0, .int .i64 a0_1, .int .i64 a0_2, .int .i64 a0_3]) (t := 29) ?hr ?_; (case hd => rfl); (case hg => rfl); (case hr => first | (go_simp; done) | (go_simp; rfl)); intro gb402 hg w5 hbox hb; have n0_ := Aside0.mk (below_step (by repeat (first | (with_reducible first | exact HB.out | apply below_alloc | apply pw_below_drewN | apply below_drew1) | exact HB.out)) hb); have n1_ := Aside0.mk (hbox); have n2_ := Aside0.mk ((by rw [hg]; exact (below_size (by repeat (first | (with_reducible first | exact HB.out | apply below_alloc | apply pw_below_drewN | apply below_drew1) | exact HB.out))) : w.heap.size ≤ gb402)); have n3_ := Aside0.mk ((by rw [hg]; exact (below_size (by repeat (first | (with_reducible first | exact HB.out | apply below_alloc | apply pw_below_drewN | apply below_drew1) | exact HB.out))) : w.heap.size ≤ gb402)); clear HB; have HB := n0_; have BK402 := n1_; have GW402 := n2_; have GE402 := n3_; clear n0_ n1_ n2_ n3_; clear hb hbox hg))
  (try simp only [Act.put, List.setIfInBounds_toArray, List.set_cons_zero, List.set_cons_succ])
  go_cut [43] (fun v43 wc => ∃ (kq : Nat) (x43_3 : Bool), v43 = .bool x43_3 ∧ Aside0 (riverbanklaw14_ValueAdds.j0 kq a1 a2 x43_3 a0_0 a0_1 a0_2 a0_3 = some r) ∧ Aside0 (kq ≤ k) ∧ Aside0 (wc.heap[gb402]? = some (.cells #[.string a0_0, .int .i64 a0_1, .int .i64 a0_2, .int .i64 a0_3] 29 (0, 0))) ∧ Aside0 (Below w.heap.size w wc))
  case first =>
    have H := HC4.out
    clear HC4
    by_cases c6 : (a0_0.size : Int) > 200
    · rw [if_pos c6] at H
      have c6b0 : decide (200 < (a0_0.size : Int)) = true := decide_eq_true c6
      have c6b1 : decide (200 < a0_0.size) = true := decide_eq_true (by omega)
      clear c6
      (first | rw [c6b0] | (simp only [i64_w, i32_w]; rw [c6b0]) | skip)
      have H' := Aside0.mk H
      clear H
      have hcz7_0 : w5.cell? ⟨gb402, 0, none⟩ = some (.string a0_0) := (blk_cell BK402.out 0).trans rfl
      have hcz7_1 : w5.cell? ⟨gb402, 1, none⟩ = some (.int .i64 a0_1) := (blk_cell BK402.out 1).trans rfl
      have hcz7_2 : w5.cell? ⟨gb402, 2, none⟩ = some (.int .i64 a0_2) := (blk_cell BK402.out 2).trans rfl
      have hcz7_3 : w5.cell? ⟨gb402, 3, none⟩ = some (.int .i64 a0_3) := (blk_cell BK402.out 3).trans rfl
      have hfz7_0 := blk_frozen BK402.out 0
      have hfz7_1 := blk_frozen BK402.out 1
      have hfz7_2 := blk_frozen BK402.out 2
      have hfz7_3 := blk_frozen BK402.out 3
      go_wp2
      go_meet
      case rel => exact ⟨_, (true), (by first | rfl | (simp; done) | (simp [*]; done)), H', ⟨by first | omega | exact Nat.le_refl _⟩, ⟨by (with_reducible repeat (first | refine blk_drewN ?_ _ | refine blk_drew ?_ | refine blk_alloc ?_ _)); exact BK402.out⟩, ⟨by repeat (first | (with_reducible first | exact HB.out | apply below_alloc | apply pw_below_drewN | apply below_drew1 | refine below_set ?_ GE402.out) | exact HB.out)⟩⟩
    · rw [if_neg c6] at H
      have c6b0 : decide (200 < (a0_0.size : Int)) = false := decide_eq_false c6
      have c6b1 : decide (200 < a0_0.size) = false := decide_eq_false (by omega)
      clear c6
      (first | rw [c6b0] | (simp only [i64_w, i32_w]; rw [c6b0]) | skip)
      replace H := Option.bind_eq_some_iff.mp H
      obtain ⟨t403, A80, H⟩ := H
      replace H : (if t403 = true then (if a1 < 0 then (riverbanklaw14_ValueAdds.j0 k a1 a2 true a0_0 a0_1 a0_2 a0_3) else (if a1 > 89 then (riverbanklaw14_ValueAdds.j0 k a1 a2 true a0_0 a0_1 a0_2 a0_3) else ((board_At.f a0_0 a1).bind fun t404 => (if t404 = 46 then (if a0_1 < 0 then (riverbanklaw14_ValueAdds.j0 k a1 a2 true a0_0 a0_1 a0_2 a0_3) else (riverbanklaw14_ValueAdds.j0 k a1 a2 (decide (a0_1 > 1)) a0_0 a0_1 a0_2 a0_3)) else (riverbanklaw14_ValueAdds.j0 k a1 a2 true a0_0 a0_1 a0_2 a0_3))))) else (riverbanklaw14_ValueAdds.j0 k a1 a2 true a0_0 a0_1 a0_2 a0_3)) = some r := H
      have A8 := Aside0.mk A80
      clear A80
      by_cases c9 : t403 = true
      · subst c9
        have H1 : (if a1 < 0 then (riverbanklaw14_ValueAdds.j0 k a1 a2 true a0_0 a0_1 a0_2 a0_3) else (if a1 > 89 then (riverbanklaw14_ValueAdds.j0 k a1 a2 true a0_0 a0_1 a0_2 a0_3) else ((board_At.f a0_0 a1).bind fun t404 => (if t404 = 46 then (if a0_1 < 0 then (riverbanklaw14_ValueAdds.j0 k a1 a2 true a0_0 a0_1 a0_2 a0_3) else (riverbanklaw14_ValueAdds.j0 k a1 a2 (decide (a0_1 > 1)) a0_0 a0_1 a0_2 a0_3)) else (riverbanklaw14_ValueAdds.j0 k a1 a2 true a0_0 a0_1 a0_2 a0_3))))) = some r := by rw [if_pos rfl] at H; exact H
        clear H
        have H := H1
        clear H1
        by_cases c10 : a1 < 0
        · rw [if_pos c10] at H
          have c10b0 : decide (a1 < 0) = true := decide_eq_true c10
          clear c10
          have H' := Aside0.mk H
          clear H
          have hcz11_0 : w5.cell? ⟨gb402, 0, none⟩ = some (.string a0_0) := (blk_cell BK402.out 0).trans rfl
          have hcz11_1 : w5.cell? ⟨gb402, 1, none⟩ = some (.int .i64 a0_1) := (blk_cell BK402.out 1).trans rfl
          have hcz11_2 : w5.cell? ⟨gb402, 2, none⟩ = some (.int .i64 a0_2) := (blk_cell BK402.out 2).trans rfl
          have hcz11_3 : w5.cell? ⟨gb402, 3, none⟩ = some (.int .i64 a0_3) := (blk_cell BK402.out 3).trans rfl
          have hfz11_0 := blk_frozen BK402.out 0
          have hfz11_1 := blk_frozen BK402.out 1
          have hfz11_2 := blk_frozen BK402.out 2
          have hfz11_3 := blk_frozen BK402.out 3
          go_wp2_with (first | (go_at_call 41; (with_reducible refine (board_Is.calls a0_0 true _ A8.out).mono ?_); rintro e w12 ⟨rfl, hb⟩; have n0_ := Aside0.mk (blk_below (g := gb402) (o := .cells #[.string a0_0, .int .i64 a0_1, .int .i64 a0_2, .int .i64 a0_3] 29 (0, 0)) (by (with_reducible repeat (first | refine blk_drewN ?_ _ | refine blk_drew ?_ | refine blk_alloc ?_ _)); exact BK402.out) hb); have n1_ := Aside0.mk (below_step (by repeat (first | (with_reducible first | exact HB.out | apply below_alloc | apply pw_below_drewN | apply below_drew1 | refine below_set ?_ GE402.out) | exact HB.out)) hb); clear BK402; clear HB; have BK402 := n0_; have HB := n1_; clear n0_ n1_; (try clear hb); (try clear hb2); (try clear hk); (try clear hi)))
          go_meet
          case rel => exact ⟨_, (true), (by first | rfl | (simp; done) | (simp [*]; done)), H', ⟨by first | omega | exact Nat.le_refl _⟩, ⟨by (with_reducible repeat (first | refine blk_drewN ?_ _ | refine blk_drew ?_ | refine blk_alloc ?_ _)); exact BK402.out⟩, ⟨by repeat (first | (with_reducible first | exact HB.out | apply below_alloc | apply pw_below_drewN | apply below_drew1 | refine below_set ?_ GE402.out) | exact HB.out)⟩⟩
        · rw [if_neg c10] at H
          have c10b0 : decide (a1 < 0) = false := decide_eq_false c10
          clear c10
          by_cases c13 : a1 > 89
          · rw [if_pos c13] at H
            have c13b0 : decide (89 < a1) = true := decide_eq_true c13
            clear c13
            have H' := Aside0.mk H
            clear H
            have hcz14_0 : w5.cell? ⟨gb402, 0, none⟩ = some (.string a0_0) := (blk_cell BK402.out 0).trans rfl
            have hcz14_1 : w5.cell? ⟨gb402, 1, none⟩ = some (.int .i64 a0_1) := (blk_cell BK402.out 1).trans rfl
            have hcz14_2 : w5.cell? ⟨gb402, 2, none⟩ = some (.int .i64 a0_2) := (blk_cell BK402.out 2).trans rfl
            have hcz14_3 : w5.cell? ⟨gb402, 3, none⟩ = some (.int .i64 a0_3) := (blk_cell BK402.out 3).trans rfl
            have hfz14_0 := blk_frozen BK402.out 0
            have hfz14_1 := blk_frozen BK402.out 1
            have hfz14_2 := blk_frozen BK402.out 2
            have hfz14_3 := blk_frozen BK402.out 3
            go_wp2_with (first | (go_at_call 41; (with_reducible refine (board_Is.calls a0_0 true _ A8.out).mono ?_); rintro e w15 ⟨rfl, hb⟩; have n0_ := Aside0.mk (blk_below (g := gb402) (o := .cells #[.string a0_0, .int .i64 a0_1, .int .i64 a0_2, .int .i64 a0_3] 29 (0, 0)) (by (with_reducible repeat (first | refine blk_drewN ?_ _ | refine blk_drew ?_ | refine blk_alloc ?_ _)); exact BK402.out) hb); have n1_ := Aside0.mk (below_step (by repeat (first | (with_reducible first | exact HB.out | apply below_alloc | apply pw_below_drewN | apply below_drew1 | refine below_set ?_ GE402.out) | exact HB.out)) hb); clear BK402; clear HB; have BK402 := n0_; have HB := n1_; clear n0_ n1_; (try clear hb); (try clear hb2); (try clear hk); (try clear hi)))
            go_meet
            case rel => exact ⟨_, (true), (by first | rfl | (simp; done) | (simp [*]; done)), H', ⟨by first | omega | exact Nat.le_refl _⟩, ⟨by (with_reducible repeat (first | refine blk_drewN ?_ _ | refine blk_drew ?_ | refine blk_alloc ?_ _)); exact BK402.out⟩, ⟨by repeat (first | (with_reducible first | exact HB.out | apply below_alloc | apply pw_below_drewN | apply below_drew1 | refine below_set ?_ GE402.out) | exact HB.out)⟩⟩
          · rw [if_neg c13] at H
            have c13b0 : decide (89 < a1) = false := decide_eq_false c13
            clear c13
            replace H := Option.bind_eq_some_iff.mp H
            obtain ⟨t404, A160, H⟩ := H
            replace H : (if t404 = 46 then (if a0_1 < 0 then (riverbanklaw14_ValueAdds.j0 k a1 a2 true a0_0 a0_1 a0_2 a0_3) else (riverbanklaw14_ValueAdds.j0 k a1 a2 (decide (a0_1 > 1)) a0_0 a0_1 a0_2 a0_3)) else (riverbanklaw14_ValueAdds.j0 k a1 a2 true a0_0 a0_1 a0_2 a0_3)) = some r := H
            have A16 := Aside0.mk A160
            clear A160
            by_cases c17 : t404 = 46
            · rw [if_pos c17] at H
              have c17b0 : (t404 == 46) = true := beq_iff_eq.mpr c17
              have c17b1 : (t404 != 46) = false := bne_eq_false_iff_eq.mpr c17
              clear c17
              by_cases c18 : a0_1 < 0
              · rw [if_pos c18] at H
                have c18b0 : decide (a0_1 < 0) = true := decide_eq_true c18
                clear c18
                have H' := Aside0.mk H
                clear H
                have hcz19_0 : w5.cell? ⟨gb402, 0, none⟩ = some (.string a0_0) := (blk_cell BK402.out 0).trans rfl
                have hcz19_1 : w5.cell? ⟨gb402, 1, none⟩ = some (.int .i64 a0_1) := (blk_cell BK402.out 1).trans rfl
                have hcz19_2 : w5.cell? ⟨gb402, 2, none⟩ = some (.int .i64 a0_2) := (blk_cell BK402.out 2).trans rfl
                have hcz19_3 : w5.cell? ⟨gb402, 3, none⟩ = some (.int .i64 a0_3) := (blk_cell BK402.out 3).trans rfl
                have hfz19_0 := blk_frozen BK402.out 0
                have hfz19_1 := blk_frozen BK402.out 1
                have hfz19_2 := blk_frozen BK402.out 2
                have hfz19_3 := blk_frozen BK402.out 3
                go_wp2_with (first | (go_at_call 41; (with_reducible refine (board_Is.calls a0_0 true _ A8.out).mono ?_); rintro e w20 ⟨rfl, hb⟩; have n0_ := Aside0.mk (blk_below (g := gb402) (o := .cells #[.string a0_0, .int .i64 a0_1, .int .i64 a0_2, .int .i64 a0_3] 29 (0, 0)) (by (with_reducible repeat (first | refine blk_drewN ?_ _ | refine blk_drew ?_ | refine blk_alloc ?_ _)); exact BK402.out) hb); have n1_ := Aside0.mk (below_step (by repeat (first | (with_reducible first | exact HB.out | apply below_alloc | apply pw_below_drewN | apply below_drew1 | refine below_set ?_ GE402.out) | exact HB.out)) hb); clear BK402; clear HB; have BK402 := n0_; have HB := n1_; clear n0_ n1_; (try clear hb); (try clear hb2); (try clear hk); (try clear hi); have hcz21_0 : w20.cell? ⟨gb402, 0, none⟩ = some (.string a0_0) := (blk_cell BK402.out 0).trans rfl; have hcz21_1 : w20.cell? ⟨gb402, 1, none⟩ = some (.int .i64 a0_1) := (blk_cell BK402.out 1).trans rfl; have hcz21_2 : w20.cell? ⟨gb402, 2, none⟩ = some (.int .i64 a0_2) := (blk_cell BK402.out 2).trans rfl; have hcz21_3 : w20.cell? ⟨gb402, 3, none⟩ = some (.int .i64 a0_3) := (blk_cell BK402.out 3).trans rfl; have hfz21_0 := blk_frozen BK402.out 0; have hfz21_1 := blk_frozen BK402.out 1; have hfz21_2 := blk_frozen BK402.out 2; have hfz21_3 := blk_frozen BK402.out 3) | (go_at_call 45; (with_reducible refine (board_At.calls a0_0 a1 t404 _ A16.out).mono ?_); rintro e w22 ⟨rfl, hb⟩; have n0_ := Aside0.mk (blk_below (g := gb402) (o := .cells #[.string a0_0, .int .i64 a0_1, .int .i64 a0_2, .int .i64 a0_3] 29 (0, 0)) (by (with_reducible repeat (first | refine blk_drewN ?_ _ | refine blk_drew ?_ | refine blk_alloc ?_ _)); exact BK402.out) hb); have n1_ := Aside0.mk (below_step (by repeat (first | (with_reducible first | exact HB.out | apply below_alloc | apply pw_below_drewN | apply below_drew1 | refine below_set ?_ GE402.out) | exact HB.out)) hb); clear BK402; clear HB; have BK402 := n0_; have HB := n1_; clear n0_ n1_; (try clear hb); (try clear hb2); (try clear hk); (try clear hi); have hcz23_0 : w22.cell? ⟨gb402, 0, none⟩ = some (.string a0_0) := (blk_cell BK402.out 0).trans rfl; have hcz23_1 : w22.cell? ⟨gb402, 1, none⟩ = some (.int .i64 a0_1) := (blk_cell BK402.out 1).trans rfl; have hcz23_2 : w22.cell? ⟨gb402, 2, none⟩ = some (.int .i64 a0_2) := (blk_cell BK402.out 2).trans rfl; have hcz23_3 : w22.cell? ⟨gb402, 3, none⟩ = some (.int .i64 a0_3) := (blk_cell BK402.out 3).trans rfl; have hfz23_0 := blk_frozen BK402.out 0; have hfz23_1 := blk_frozen BK402.out 1; have hfz23_2 := blk_frozen BK402.out 2; have hfz23_3 := blk_frozen BK402.out 3))
                go_meet
                case rel => exact ⟨_, (true), (by first | rfl | (simp; done) | (simp [*]; done)), H', ⟨by first | omega | exact Nat.le_refl _⟩, ⟨by (with_reducible repeat (first | refine blk_drewN ?_ _ | refine blk_drew ?_ | refine blk_alloc ?_ _)); exact BK402.out⟩, ⟨by repeat (first | (with_reducible first | exact HB.out | apply below_alloc | apply pw_below_drewN | apply below_drew1 | refine below_set ?_ GE402.out) | exact HB.out)⟩⟩
              · rw [if_neg c18] at H
                have c18b0 : decide (a0_1 < 0) = false := decide_eq_false c18
                clear c18
                have H' := Aside0.mk H
                clear H
                have hcz24_0 : w5.cell? ⟨gb402, 0, none⟩ = some (.string a0_0) := (blk_cell BK402.out 0).trans rfl
                have hcz24_1 : w5.cell? ⟨gb402, 1, none⟩ = some (.int .i64 a0_1) := (blk_cell BK402.out 1).trans rfl
                have hcz24_2 : w5.cell? ⟨gb402, 2, none⟩ = some (.int .i64 a0_2) := (blk_cell BK402.out 2).trans rfl
                have hcz24_3 : w5.cell? ⟨gb402, 3, none⟩ = some (.int .i64 a0_3) := (blk_cell BK402.out 3).trans rfl
                have hfz24_0 := blk_frozen BK402.out 0
                have hfz24_1 := blk_frozen BK402.out 1
                have hfz24_2 := blk_frozen BK402.out 2
                have hfz24_3 := blk_frozen BK402.out 3
                go_wp2_with (first | (go_at_call 41; (with_reducible refine (board_Is.calls a0_0 true _ A8.out).mono ?_); rintro e w25 ⟨rfl, hb⟩; have n0_ := Aside0.mk (blk_below (g := gb402) (o := .cells #[.string a0_0, .int .i64 a0_1, .int .i64 a0_2, .int .i64 a0_3] 29 (0, 0)) (by (with_reducible repeat (first | refine blk_drewN ?_ _ | refine blk_drew ?_ | refine blk_alloc ?_ _)); exact BK402.out) hb); have n1_ := Aside0.mk (below_step (by repeat (first | (with_reducible first | exact HB.out | apply below_alloc | apply pw_below_drewN | apply below_drew1 | refine below_set ?_ GE402.out) | exact HB.out)) hb); clear BK402; clear HB; have BK402 := n0_; have HB := n1_; clear n0_ n1_; (try clear hb); (try clear hb2); (try clear hk); (try clear hi); have hcz26_0 : w25.cell? ⟨gb402, 0, none⟩ = some (.string a0_0) := (blk_cell BK402.out 0).trans rfl; have hcz26_1 : w25.cell? ⟨gb402, 1, none⟩ = some (.int .i64 a0_1) := (blk_cell BK402.out 1).trans rfl; have hcz26_2 : w25.cell? ⟨gb402, 2, none⟩ = some (.int .i64 a0_2) := (blk_cell BK402.out 2).trans rfl; have hcz26_3 : w25.cell? ⟨gb402, 3, none⟩ = some (.int .i64 a0_3) := (blk_cell BK402.out 3).trans rfl; have hfz26_0 := blk_frozen BK402.out 0; have hfz26_1 := blk_frozen BK402.out 1; have hfz26_2 := blk_frozen BK402.out 2; have hfz26_3 := blk_frozen BK402.out 3) | (go_at_call 45; (with_reducible refine (board_At.calls a0_0 a1 t404 _ A16.out).mono ?_); rintro e w27 ⟨rfl, hb⟩; have n0_ := Aside0.mk (blk_below (g := gb402) (o := .cells #[.string a0_0, .int .i64 a0_1, .int .i64 a0_2, .int .i64 a0_3] 29 (0, 0)) (by (with_reducible repeat (first | refine blk_drewN ?_ _ | refine blk_drew ?_ | refine blk_alloc ?_ _)); exact BK402.out) hb); have n1_ := Aside0.mk (below_step (by repeat (first | (with_reducible first | exact HB.out | apply below_alloc | apply pw_below_drewN | apply below_drew1 | refine below_set ?_ GE402.out) | exact HB.out)) hb); clear BK402; clear HB; have BK402 := n0_; have HB := n1_; clear n0_ n1_; (try clear hb); (try clear hb2); (try clear hk); (try clear hi); have hcz28_0 : w27.cell? ⟨gb402, 0, none⟩ = some (.string a0_0) := (blk_cell BK402.out 0).trans rfl; have hcz28_1 : w27.cell? ⟨gb402, 1, none⟩ = some (.int .i64 a0_1) := (blk_cell BK402.out 1).trans rfl; have hcz28_2 : w27.cell? ⟨gb402, 2, none⟩ = some (.int .i64 a0_2) := (blk_cell BK402.out 2).trans rfl; have hcz28_3 : w27.cell? ⟨gb402, 3, none⟩ = some (.int .i64 a0_3) := (blk_cell BK402.out 3).trans rfl; have hfz28_0 := blk_frozen BK402.out 0; have hfz28_1 := blk_frozen BK402.out 1; have hfz28_2 := blk_frozen BK402.out 2; have hfz28_3 := blk_frozen BK402.out 3))
                go_meet
                case rel => exact ⟨_, (decide (a0_1 > 1)), (by first | rfl | (simp; done) | (simp [*]; done)), H', ⟨by first | omega | exact Nat.le_refl _⟩, ⟨by (with_reducible repeat (first | refine blk_drewN ?_ _ | refine blk_drew ?_ | refine blk_alloc ?_ _)); exact BK402.out⟩, ⟨by repeat (first | (with_reducible first | exact HB.out | apply below_alloc | apply pw_below_drewN | apply below_drew1 | refine below_set ?_ GE402.out) | exact HB.out)⟩⟩
            · rw [if_neg c17] at H
              have c17b0 : (t404 == 46) = false := beq_eq_false_iff_ne.mpr c17
              have c17b1 : (t404 != 46) = true := bne_iff_ne.mpr c17
              have H' := Aside0.mk H
              clear H
              have hcz29_0 : w5.cell? ⟨gb402, 0, none⟩ = some (.string a0_0) := (blk_cell BK402.out 0).trans rfl
              have hcz29_1 : w5.cell? ⟨gb402, 1, none⟩ = some (.int .i64 a0_1) := (blk_cell BK402.out 1).trans rfl
              have hcz29_2 : w5.cell? ⟨gb402, 2, none⟩ = some (.int .i64 a0_2) := (blk_cell BK402.out 2).trans rfl
              have hcz29_3 : w5.cell? ⟨gb402, 3, none⟩ = some (.int .i64 a0_3) := (blk_cell BK402.out 3).trans rfl
              have hfz29_0 := blk_frozen BK402.out 0
              have hfz29_1 := blk_frozen BK402.out 1
              have hfz29_2 := blk_frozen BK402.out 2
              have hfz29_3 := blk_frozen BK402.out 3
              go_wp2_with (first | (go_at_call 41; (with_reducible refine (board_Is.calls a0_0 true _ A8.out).mono ?_); rintro e w30 ⟨rfl, hb⟩; have n0_ := Aside0.mk (blk_below (g := gb402) (o := .cells #[.string a0_0, .int .i64 a0_1, .int .i64 a0_2, .int .i64 a0_3] 29 (0, 0)) (by (with_reducible repeat (first | refine blk_drewN ?_ _ | refine blk_drew ?_ | refine blk_alloc ?_ _)); exact BK402.out) hb); have n1_ := Aside0.mk (below_step (by repeat (first | (with_reducible first | exact HB.out | apply below_alloc | apply pw_below_drewN | apply below_drew1 | refine below_set ?_ GE402.out) | exact HB.out)) hb); clear BK402; clear HB; have BK402 := n0_; have HB := n1_; clear n0_ n1_; (try clear hb); (try clear hb2); (try clear hk); (try clear hi); have hcz31_0 : w30.cell? ⟨gb402, 0, none⟩ = some (.string a0_0) := (blk_cell BK402.out 0).trans rfl; have hcz31_1 : w30.cell? ⟨gb402, 1, none⟩ = some (.int .i64 a0_1) := (blk_cell BK402.out 1).trans rfl; have hcz31_2 : w30.cell? ⟨gb402, 2, none⟩ = some (.int .i64 a0_2) := (blk_cell BK402.out 2).trans rfl; have hcz31_3 : w30.cell? ⟨gb402, 3, none⟩ = some (.int .i64 a0_3) := (blk_cell BK402.out 3).trans rfl; have hfz31_0 := blk_frozen BK402.out 0; have hfz31_1 := blk_frozen BK402.out 1; have hfz31_2 := blk_frozen BK402.out 2; have hfz31_3 := blk_frozen BK402.out 3) | (go_at_call 45; (with_reducible refine (board_At.calls a0_0 a1 t404 _ A16.out).mono ?_); rintro e w32 ⟨rfl, hb⟩; have n0_ := Aside0.mk (blk_below (g := gb402) (o := .cells #[.string a0_0, .int .i64 a0_1, .int .i64 a0_2, .int .i64 a0_3] 29 (0, 0)) (by (with_reducible repeat (first | refine blk_drewN ?_ _ | refine blk_drew ?_ | refine blk_alloc ?_ _)); exact BK402.out) hb); have n1_ := Aside0.mk (below_step (by repeat (first | (with_reducible first | exact HB.out | apply below_alloc | apply pw_below_drewN | apply below_drew1 | refine below_set ?_ GE402.out) | exact HB.out)) hb); clear BK402; clear HB; have BK402 := n0_; have HB := n1_; clear n0_ n1_; (try clear hb); (try clear hb2); (try clear hk); (try clear hi)))
              go_meet
              case rel => exact ⟨_, (true), (by first | rfl | (simp; done) | (simp [*]; done)), H', ⟨by first | omega | exact Nat.le_refl _⟩, ⟨by (with_reducible repeat (first | refine blk_drewN ?_ _ | refine blk_drew ?_ | refine blk_alloc ?_ _)); exact BK402.out⟩, ⟨by repeat (first | (with_reducible first | exact HB.out | apply below_alloc | apply pw_below_drewN | apply below_drew1 | refine below_set ?_ GE402.out) | exact HB.out)⟩⟩
      · replace c9 := Bool.eq_false_iff.mpr c9
        subst c9
        have H1 : (riverbanklaw14_ValueAdds.j0 k a1 a2 true a0_0 a0_1 a0_2 a0_3) = some r := by rw [if_neg (show ¬ (false = true) by decide)] at H; exact H
        clear H
        have H := H1
        clear H1
        have H' := Aside0.mk H
        clear H
        have hcz33_0 : w5.cell? ⟨gb402, 0, none⟩ = some (.string a0_0) := (blk_cell BK402.out 0).trans rfl
        have hcz33_1 : w5.cell? ⟨gb402, 1, none⟩ = some (.int .i64 a0_1) := (blk_cell BK402.out 1).trans rfl
        have hcz33_2 : w5.cell? ⟨gb402, 2, none⟩ = some (.int .i64 a0_2) := (blk_cell BK402.out 2).trans rfl
        have hcz33_3 : w5.cell? ⟨gb402, 3, none⟩ = some (.int .i64 a0_3) := (blk_cell BK402.out 3).trans rfl
        have hfz33_0 := blk_frozen BK402.out 0
        have hfz33_1 := blk_frozen BK402.out 1
        have hfz33_2 := blk_frozen BK402.out 2
        have hfz33_3 := blk_frozen BK402.out 3
        go_wp2_with (first | (go_at_call 41; (with_reducible refine (board_Is.calls a0_0 false _ A8.out).mono ?_); rintro e w34 ⟨rfl, hb⟩; have n0_ := Aside0.mk (blk_below (g := gb402) (o := .cells #[.string a0_0, .int .i64 a0_1, .int .i64 a0_2, .int .i64 a0_3] 29 (0, 0)) (by (with_reducible repeat (first | refine blk_drewN ?_ _ | refine blk_drew ?_ | refine blk_alloc ?_ _)); exact BK402.out) hb); have n1_ := Aside0.mk (below_step (by repeat (first | (with_reducible first | exact HB.out | apply below_alloc | apply pw_below_drewN | apply below_drew1 | refine below_set ?_ GE402.out) | exact HB.out)) hb); clear BK402; clear HB; have BK402 := n0_; have HB := n1_; clear n0_ n1_; (try clear hb); (try clear hb2); (try clear hk); (try clear hi)))
        go_meet
        case rel => exact ⟨_, (true), (by first | rfl | (simp; done) | (simp [*]; done)), H', ⟨by first | omega | exact Nat.le_refl _⟩, ⟨by (with_reducible repeat (first | refine blk_drewN ?_ _ | refine blk_drew ?_ | refine blk_alloc ?_ _)); exact BK402.out⟩, ⟨by repeat (first | (with_reducible first | exact HB.out | apply below_alloc | apply pw_below_drewN | apply below_drew1 | refine below_set ?_ GE402.out) | exact HB.out)⟩⟩
  case rest =>
    clear HC4
    try clear c1
    try clear p2
    try clear c6
    try clear c6b0
    try clear c6b1
    try clear c9
    try clear c10
    try clear c10b0
    try clear c13
    try clear c13b0
    try clear c15
    try clear c17
    try clear c17b0
    try clear c17b1
    try clear c18
    try clear c18b0
    try clear hcz11_0
    try clear hcz11_1
    try clear hcz11_2
    try clear hcz11_3
    try clear hcz14_0
    try clear hcz14_1
    try clear hcz14_2
    try clear hcz14_3
    try clear hcz19_0
    try clear hcz19_1
    try clear hcz19_2
    try clear hcz19_3
    try clear hcz21_0
    try clear hcz21_1
    try clear hcz21_2
    try clear hcz21_3
    try clear hcz23_0
    try clear hcz23_1
    try clear hcz23_2
    try clear hcz23_3
    try clear hcz24_0
    try clear hcz24_1
    try clear hcz24_2
    try clear hcz24_3
    try clear hcz26_0
    try clear hcz26_1
    try clear hcz26_2
    try clear hcz26_3
    try clear hcz28_0
    try clear hcz28_1
    try clear hcz28_2
    try clear hcz28_3
    try clear hcz29_0
    try clear hcz29_1
    try clear hcz29_2
    try clear hcz29_3
    try clear hcz31_0
    try clear hcz31_1
    try clear hcz31_2
    try clear hcz31_3
    try clear hcz33_0
    try clear hcz33_1
    try clear hcz33_2
    try clear hcz33_3
    try clear hcz7_0
    try clear hcz7_1
    try clear hcz7_2
    try clear hcz7_3
    try clear hfz11_0
    try clear hfz11_1
    try clear hfz11_2
    try clear hfz11_3
    try clear hfz14_0
    try clear hfz14_1
    try clear hfz14_2
    try clear hfz14_3
    try clear hfz19_0
    try clear hfz19_1
    try clear hfz19_2
    try clear hfz19_3
    try clear hfz21_0
    try clear hfz21_1
    try clear hfz21_2
    try clear hfz21_3
    try clear hfz23_0
    try clear hfz23_1
    try clear hfz23_2
    try clear hfz23_3
    try clear hfz24_0
    try clear hfz24_1
    try clear hfz24_2
    try clear hfz24_3
    try clear hfz26_0
    try clear hfz26_1
    try clear hfz26_2
    try clear hfz26_3
    try clear hfz28_0
    try clear hfz28_1
    try clear hfz28_2
    try clear hfz28_3
    try clear hfz29_0
    try clear hfz29_1
    try clear hfz29_2
    try clear hfz29_3
    try clear hfz31_0
    try clear hfz31_1
    try clear hfz31_2
    try clear hfz31_3
    try clear hfz33_0
    try clear hfz33_1
    try clear hfz33_2
    try clear hfz33_3
    try clear hfz7_0
    try clear hfz7_1
    try clear hfz7_2
    try clear hfz7_3
    obtain ⟨kq, x43_3, rfl, HA, HJ3, BK402, HB⟩ := hcut
    cases kq with
    | zero => exact absurd HA.out (by simp [riverbanklaw14_ValueAdds.j0])
    | succ kj3 =>
      have H := HA.out
      clear HA
      simp only [riverbanklaw14_ValueAdds.j0] at H
      by_cases c35 : x43_3 = true
      · subst c35
        have H1 : ((riverbanklaw14_live.f).bind fun t405 => (some t405)) = some r := by rw [if_pos rfl] at H; exact H
        clear H
        have H := H1
        clear H1
        replace H := Option.bind_eq_some_iff.mp H
        obtain ⟨t405, A360, H⟩ := H
        replace H : (some t405) = some r := H
        have A36 := Aside0.mk A360
        clear A360
        obtain rfl := Option.some.inj H
        go_wp2_with (first | ((with_reducible refine gate_callee (f := 36) rfl ?_); refine goesL_ (some 44) rfl rfl Try.func36 (by kernel_rfl) rfl #[] rfl (by (try simp only [List.map_toArray, List.map_cons, List.map_nil]); first | done | rfl | (simp only [List.length_drop, List.length_take]; rfl)) ?_; (with_reducible refine (riverbanklaw14_live.calls  t405 _ A36.out).mono ?_); rintro e w37 ⟨rfl, hb⟩; refine ⟨_, rfl, ?_⟩; have n0_ := Aside0.mk (blk_below (g := gb402) (o := .cells #[.string a0_0, .int .i64 a0_1, .int .i64 a0_2, .int .i64 a0_3] 29 (0, 0)) (by (with_reducible repeat (first | refine blk_drewN ?_ _ | refine blk_drew ?_ | refine blk_alloc ?_ _)); exact BK402.out) hb); have n1_ := Aside0.mk (below_step (by repeat (first | (with_reducible first | exact HB.out | apply below_alloc | apply pw_below_drewN | apply below_drew1 | refine below_set ?_ GE402.out) | exact HB.out)) hb); clear BK402; clear HB; have BK402 := n0_; have HB := n1_; clear n0_ n1_; (try clear hb); (try clear hb2); (try clear hk); (try clear hi)))
        go_ret
        exact ⟨by first | rfl | (simp [errW_none, errW_some] <;> rfl) | (simp [*, errW_none, errW_some] <;> rfl), by repeat (first | (with_reducible first | exact HB.out | apply below_alloc | apply pw_below_drewN | apply below_drew1 | refine below_set ?_ GE402.out) | exact HB.out)⟩
      · replace c35 := Bool.eq_false_iff.mpr c35
        subst c35
        have H1 : ((board_Put.f a0_0 a1 a2).bind fun t407 => ((value_Piece.f kj3 a2 a1).bind fun t408 => ((board_Side.f a2).bind fun t409 => (if t409 = a0_1 then ((value_Of.f t407 a0_1 a0_2 a0_3).bind fun t410 => ((value_Of.f a0_0 a0_1 a0_2 a0_3).bind fun t411 => (if t410 = (wrap64 (t411 + t408)) then ((riverbanklaw14_live.f).bind fun t412 => (some t412)) else (some false)))) else ((value_Of.f t407 a0_1 a0_2 a0_3).bind fun t413 => ((value_Of.f a0_0 a0_1 a0_2 a0_3).bind fun t414 => (if t413 = (wrap64 (t414 + (wrap64 (-t408)))) then ((riverbanklaw14_live.f).bind fun t415 => (some t415)) else (some false)))))))) = some r := by rw [if_neg (show ¬ (false = true) by decide)] at H; exact H
        clear H
        have H := H1
        clear H1
        replace H := Option.bind_eq_some_iff.mp H
        obtain ⟨t407, A380, H⟩ := H
        replace H : ((value_Piece.f kj3 a2 a1).bind fun t408 => ((board_Side.f a2).bind fun t409 => (if t409 = a0_1 then ((value_Of.f t407 a0_1 a0_2 a0_3).bind fun t410 => ((value_Of.f a0_0 a0_1 a0_2 a0_3).bind fun t411 => (if t410 = (wrap64 (t411 + t408)) then ((riverbanklaw14_live.f).bind fun t412 => (some t412)) else (some false)))) else ((value_Of.f t407 a0_1 a0_2 a0_3).bind fun t413 => ((value_Of.f a0_0 a0_1 a0_2 a0_3).bind fun t414 => (if t413 = (wrap64 (t414 + (wrap64 (-t408)))) then ((riverbanklaw14_live.f).bind fun t415 => (some t415)) else (some false))))))) = some r := H
        have A38 := Aside0.mk A380
        clear A380
        replace H := Option.bind_eq_some_iff.mp H
        obtain ⟨t408, A390, H⟩ := H
        replace H : ((board_Side.f a2).bind fun t409 => (if t409 = a0_1 then ((value_Of.f t407 a0_1 a0_2 a0_3).bind fun t410 => ((value_Of.f a0_0 a0_1 a0_2 a0_3).bind fun t411 => (if t410 = (wrap64 (t411 + t408)) then ((riverbanklaw14_live.f).bind fun t412 => (some t412)) else (some false)))) else ((value_Of.f t407 a0_1 a0_2 a0_3).bind fun t413 => ((value_Of.f a0_0 a0_1 a0_2 a0_3).bind fun t414 => (if t413 = (wrap64 (t414 + (wrap64 (-t408)))) then ((riverbanklaw14_live.f).bind fun t415 => (some t415)) else (some false)))))) = some r := H
        have A39 := Aside0.mk A390
        clear A390
        replace H := Option.bind_eq_some_iff.mp H
        obtain ⟨t409, A400, H⟩ := H
        replace H : (if t409 = a0_1 then ((value_Of.f t407 a0_1 a0_2 a0_3).bind fun t410 => ((value_Of.f a0_0 a0_1 a0_2 a0_3).bind fun t411 => (if t410 = (wrap64 (t411 + t408)) then ((riverbanklaw14_live.f).bind fun t412 => (some t412)) else (some false)))) else ((value_Of.f t407 a0_1 a0_2 a0_3).bind fun t413 => ((value_Of.f a0_0 a0_1 a0_2 a0_3).bind fun t414 => (if t413 = (wrap64 (t414 + (wrap64 (-t408)))) then ((riverbanklaw14_live.f).bind fun t415 => (some t415)) else (some false))))) = some r := H
        have A40 := Aside0.mk A400
        clear A400
        by_cases c41 : t409 = a0_1
        · rw [if_pos c41] at H
          have c41b0 : (t409 == a0_1) = true := beq_iff_eq.mpr c41
          have c41b1 : (t409 != a0_1) = false := bne_eq_false_iff_eq.mpr c41
          clear c41
          replace H := Option.bind_eq_some_iff.mp H
          obtain ⟨t410, A420, H⟩ := H
          replace H : ((value_Of.f a0_0 a0_1 a0_2 a0_3).bind fun t411 => (if t410 = (wrap64 (t411 + t408)) then ((riverbanklaw14_live.f).bind fun t412 => (some t412)) else (some false))) = some r := H
          have A42 := Aside0.mk A420
          clear A420
          replace H := Option.bind_eq_some_iff.mp H
          obtain ⟨t411, A430, H⟩ := H
          replace H : (if t410 = (wrap64 (t411 + t408)) then ((riverbanklaw14_live.f).bind fun t412 => (some t412)) else (some false)) = some r := H
          have A43 := Aside0.mk A430
          clear A430
          by_cases c44 : t410 = (wrap64 (t411 + t408))
          · rw [if_pos c44] at H
            have c44b0 : (t410 == (wrap64 (t411 + t408))) = true := beq_iff_eq.mpr c44
            have c44b1 : (t410 != (wrap64 (t411 + t408))) = false := bne_eq_false_iff_eq.mpr c44
            clear c44
            replace H := Option.bind_eq_some_iff.mp H
            obtain ⟨t412, A450, H⟩ := H
            replace H : (some t412) = some r := H
            have A45 := Aside0.mk A450
            clear A450
            obtain rfl := Option.some.inj H
            have hcz46_0 : wc.cell? ⟨gb402, 0, none⟩ = some (.string a0_0) := (blk_cell BK402.out 0).trans rfl
            have hcz46_1 : wc.cell? ⟨gb402, 1, none⟩ = some (.int .i64 a0_1) := (blk_cell BK402.out 1).trans rfl
            have hcz46_2 : wc.cell? ⟨gb402, 2, none⟩ = some (.int .i64 a0_2) := (blk_cell BK402.out 2).trans rfl
            have hcz46_3 : wc.cell? ⟨gb402, 3, none⟩ = some (.int .i64 a0_3) := (blk_cell BK402.out 3).trans rfl
            have hfz46_0 := blk_frozen BK402.out 0
            have hfz46_1 := blk_frozen BK402.out 1
            have hfz46_2 := blk_frozen BK402.out 2
            have hfz46_3 := blk_frozen BK402.out 3
            try go_wp2_with (first | ((with_reducible refine gate_dst (N := 7) rfl ?_); refine box_event ?hg (N := 7) ?hd (cs := #[.string (⟨#[]⟩ : ByteArray), .int .i64 0, .int .i64 0, .int .i64 0]) (t := 29) ?hr ?_; (case hd => rfl); (case hg => rfl); (case hr => first | (go_simp; done) | (go_simp; rfl)); intro gb406 hg w47 hbox hb; have n0_ := Aside0.mk (blk_below (g := gb402) (o := .cells #[.string a0_0, .int .i64 a0_1, .int .i64 a0_2, .int .i64 a0_3] 29 (0, 0)) (by (with_reducible repeat (first | refine blk_drewN ?_ _ | refine blk_drew ?_ | refine blk_alloc ?_ _)); exact BK402.out) hb); have n1_ := Aside0.mk (below_step (by repeat (first | (with_reducible first | exact HB.out | apply below_alloc | apply pw_below_drewN | apply below_drew1 | refine below_set ?_ GE402.out) | exact HB.out)) hb); have n2_ := Aside0.mk (hbox); have n3_ := Aside0.mk ((by rw [hg]; exact (below_size (by repeat (first | (with_reducible first | exact HB.out | apply below_alloc | apply pw_below_drewN | apply below_drew1 | refine below_set ?_ GE402.out) | exact HB.out))) : w.heap.size ≤ gb406)); have n4_ := Aside0.mk ((by rw [hg]; exact (below_size (by repeat (first | (with_reducible first | exact HB.out | apply below_alloc | apply pw_below_drewN | apply below_drew1 | refine below_set ?_ GE402.out) | exact HB.out))) : w.heap.size ≤ gb406)); have n5_ := Aside0.mk ((by rw [hg]; exact Nat.ne_of_lt (blk_lt (g := gb402) (o := .cells #[.string a0_0, .int .i64 a0_1, .int .i64 a0_2, .int .i64 a0_3] 29 (0, 0)) (by (with_reducible repeat (first | refine blk_drewN ?_ _ | refine blk_drew ?_ | refine blk_alloc ?_ _)); exact BK402.out)) : gb402 ≠ gb406)); have n6_ := Aside0.mk ((by rw [hg]; exact Nat.ne_of_gt (blk_lt (g := gb402) (o := .cells #[.string a0_0, .int .i64 a0_1, .int .i64 a0_2, .int .i64 a0_3] 29 (0, 0)) (by (with_reducible repeat (first | refine blk_drewN ?_ _ | refine blk_drew ?_ | refine blk_alloc ?_ _)); exact BK402.out)) : gb406 ≠ gb402)); clear BK402; clear HB; have BK402 := n0_; have HB := n1_; have BK406 := n2_; have GW406 := n3_; have GE406 := n4_; have NB402_406 := n5_; have NB406_402 := n6_; clear n0_ n1_ n2_ n3_ n4_ n5_ n6_; clear hb hbox hg; have hnb48 := NB406_402.out; have hnc48 := NB402_406.out; have hcz49_0 : w47.cell? ⟨gb406, 0, none⟩ = some (.string (⟨#[]⟩ : ByteArray)) := (blk_cell BK406.out 0).trans rfl; have hcz49_1 : w47.cell? ⟨gb406, 1, none⟩ = some (.int .i64 0) := (blk_cell BK406.out 1).trans rfl; have hcz49_2 : w47.cell? ⟨gb406, 2, none⟩ = some (.int .i64 0) := (blk_cell BK406.out 2).trans rfl; have hcz49_3 : w47.cell? ⟨gb406, 3, none⟩ = some (.int .i64 0) := (blk_cell BK406.out 3).trans rfl; have hfz49_0 := blk_frozen BK406.out 0; have hfz49_1 := blk_frozen BK406.out 1; have hfz49_2 := blk_frozen BK406.out 2; have hfz49_3 := blk_frozen BK406.out 3; have hcz50_0 : w47.cell? ⟨gb402, 0, none⟩ = some (.string a0_0) := (blk_cell BK402.out 0).trans rfl; have hcz50_1 : w47.cell? ⟨gb402, 1, none⟩ = some (.int .i64 a0_1) := (blk_cell BK402.out 1).trans rfl; have hcz50_2 : w47.cell? ⟨gb402, 2, none⟩ = some (.int .i64 a0_2) := (blk_cell BK402.out 2).trans rfl; have hcz50_3 : w47.cell? ⟨gb402, 3, none⟩ = some (.int .i64 a0_3) := (blk_cell BK402.out 3).trans rfl; have hfz50_0 := blk_frozen BK402.out 0; have hfz50_1 := blk_frozen BK402.out 1; have hfz50_2 := blk_frozen BK402.out 2; have hfz50_3 := blk_frozen BK402.out 3) | ((with_reducible refine gate_callee (f := 46) rfl ?_); refine goesL_ (some 50) rfl rfl Try.func46 (by kernel_rfl) rfl #[.string a0_0, .int .i64 a1, .int .u8 a2] rfl (by (try simp only [List.map_toArray, List.map_cons, List.map_nil]); first | done | rfl | (simp only [List.length_drop, List.length_take]; rfl)) ?_; (with_reducible refine (board_Put.calls a0_0 a1 a2 t407 _ A38.out).mono ?_); rintro e w51 ⟨rfl, hb⟩; refine ⟨_, rfl, ?_⟩; have n0_ := Aside0.mk (blk_below (g := gb402) (o := .cells #[.string a0_0, .int .i64 a0_1, .int .i64 a0_2, .int .i64 a0_3] 29 (0, 0)) (by (with_reducible repeat (first | refine blk_drewN ?_ _ | refine blk_drew ?_ | refine blk_alloc ?_ _)); refine blk_far ?_ NB402_406.out _; (with_reducible repeat (first | refine blk_drewN ?_ _ | refine blk_drew ?_ | refine blk_alloc ?_ _)); refine blk_far ?_ NB402_406.out _; (with_reducible repeat (first | refine blk_drewN ?_ _ | refine blk_drew ?_ | refine blk_alloc ?_ _)); refine blk_far ?_ NB402_406.out _; (with_reducible repeat (first | refine blk_drewN ?_ _ | refine blk_drew ?_ | refine blk_alloc ?_ _)); refine blk_far ?_ NB402_406.out _; (with_reducible repeat (first | refine blk_drewN ?_ _ | refine blk_drew ?_ | refine blk_alloc ?_ _)); exact BK402.out) hb); have n1_ := Aside0.mk (blk_below (g := gb406) (o := .cells #[.string a0_0, .int .i64 a0_1, .int .i64 a0_2, .int .i64 a0_3] 29 (0, 0)) (by (with_reducible repeat (first | refine blk_drewN ?_ _ | refine blk_drew ?_ | refine blk_alloc ?_ _)); refine blk_put (cs := #[.string a0_0, .int .i64 a0_1, .int .i64 a0_2, .int .i64 0]) ?_ 3 _ rfl; (with_reducible repeat (first | refine blk_drewN ?_ _ | refine blk_drew ?_ | refine blk_alloc ?_ _)); refine blk_put (cs := #[.string a0_0, .int .i64 a0_1, .int .i64 0, .int .i64 0]) ?_ 2 _ rfl; (with_reducible repeat (first | refine blk_drewN ?_ _ | refine blk_drew ?_ | refine blk_alloc ?_ _)); refine blk_put (cs := #[.string a0_0, .int .i64 0, .int .i64 0, .int .i64 0]) ?_ 1 _ rfl; (with_reducible repeat (first | refine blk_drewN ?_ _ | refine blk_drew ?_ | refine blk_alloc ?_ _)); refine blk_put (cs := #[.string (⟨#[]⟩ : ByteArray), .int .i64 0, .int .i64 0, .int .i64 0]) ?_ 0 _ rfl; (with_reducible repeat (first | refine blk_drewN ?_ _ | refine blk_drew ?_ | refine blk_alloc ?_ _)); exact BK406.out) hb); have n2_ := Aside0.mk (below_step (by repeat (first | (with_reducible first | exact HB.out | apply below_alloc | apply pw_below_drewN | apply below_drew1 | refine below_set ?_ GE402.out | refine below_set ?_ GE406.out) | exact HB.out)) hb); clear BK402; clear BK406; clear HB; have BK402 := n0_; have BK406 := n1_; have HB := n2_; clear n0_ n1_ n2_; (try clear hb); (try clear hb2); (try clear hk); (try clear hi); have hcz52_0 : w51.cell? ⟨gb406, 0, none⟩ = some (.string a0_0) := (blk_cell BK406.out 0).trans rfl; have hcz52_1 : w51.cell? ⟨gb406, 1, none⟩ = some (.int .i64 a0_1) := (blk_cell BK406.out 1).trans rfl; have hcz52_2 : w51.cell? ⟨gb406, 2, none⟩ = some (.int .i64 a0_2) := (blk_cell BK406.out 2).trans rfl; have hcz52_3 : w51.cell? ⟨gb406, 3, none⟩ = some (.int .i64 a0_3) := (blk_cell BK406.out 3).trans rfl; have hfz52_0 := blk_frozen BK406.out 0; have hfz52_1 := blk_frozen BK406.out 1; have hfz52_2 := blk_frozen BK406.out 2; have hfz52_3 := blk_frozen BK406.out 3) | ((with_reducible refine gate_callee (f := 34) rfl ?_); refine goesL_ (some 54) rfl rfl Try.func34 (by kernel_rfl) rfl #[.int .u8 a2, .int .i64 a1] rfl (by (try simp only [List.map_toArray, List.map_cons, List.map_nil]); first | done | rfl | (simp only [List.length_drop, List.length_take]; rfl)) ?_; (with_reducible refine (value_Piece.calls kj3 a2 a1 t408 _ A39.out).mono ?_); rintro e w53 ⟨rfl, hb⟩; refine ⟨_, rfl, ?_⟩; have n0_ := Aside0.mk (blk_below (g := gb402) (o := .cells #[.string a0_0, .int .i64 a0_1, .int .i64 a0_2, .int .i64 a0_3] 29 (0, 0)) (by (with_reducible repeat (first | refine blk_drewN ?_ _ | refine blk_drew ?_ | refine blk_alloc ?_ _)); refine blk_far ?_ NB402_406.out _; (with_reducible repeat (first | refine blk_drewN ?_ _ | refine blk_drew ?_ | refine blk_alloc ?_ _)); exact BK402.out) hb); have n1_ := Aside0.mk (blk_below (g := gb406) (o := .cells #[.string t407, .int .i64 a0_1, .int .i64 a0_2, .int .i64 a0_3] 29 (0, 0)) (by (with_reducible repeat (first | refine blk_drewN ?_ _ | refine blk_drew ?_ | refine blk_alloc ?_ _)); refine blk_put (cs := #[.string a0_0, .int .i64 a0_1, .int .i64 a0_2, .int .i64 a0_3]) ?_ 0 _ rfl; (with_reducible repeat (first | refine blk_drewN ?_ _ | refine blk_drew ?_ | refine blk_alloc ?_ _)); exact BK406.out) hb); have n2_ := Aside0.mk (below_step (by repeat (first | (with_reducible first | exact HB.out | apply below_alloc | apply pw_below_drewN | apply below_drew1 | refine below_set ?_ GE402.out | refine below_set ?_ GE406.out) | exact HB.out)) hb); clear BK402; clear BK406; clear HB; have BK402 := n0_; have BK406 := n1_; have HB := n2_; clear n0_ n1_ n2_; (try clear hb); (try clear hb2); (try clear hk); (try clear hi)))
            have n0_ := Aside0.mk (blk_drew BK402.out)
            have n1_ := Aside0.mk (blk_drew BK406.out)
            have n2_ := Aside0.mk (below_drew1 HB.out)
            clear BK402
            clear BK406
            clear HB
            have BK402 := n0_
            have BK406 := n1_
            have HB := n2_
            clear n0_ n1_ n2_
            refine start_ (n := 5) (S := fun w' => w'.cell? ⟨gb402, 0, none⟩ = some (.string a0_0) ∧ w'.cell? ⟨gb402, 1, none⟩ = some (.int .i64 a0_1) ∧ w'.cell? ⟨gb402, 2, none⟩ = some (.int .i64 a0_2) ∧ w'.cell? ⟨gb402, 3, none⟩ = some (.int .i64 a0_3)) (ds := []) #[false, false, false, false, false] (by kernel_rfl) rfl rfl ⟨(blk_cell BK402.out 0).trans rfl, (blk_cell BK402.out 1).trans rfl, (blk_cell BK402.out 2).trans rfl, (blk_cell BK402.out 3).trans rfl⟩ (fun hHeld => ?_)
            generalize w53.drew = w54 at BK402 BK406 HB hHeld ⊢
            refine pure_ (i := 0) (N := some 55) (v := ?_) (a' := ?_) #[true, false, false, false, false] rfl rfl (by kernel_rfl) (fun _ _ _ h => h) (Or.inl ⟨by rfl, ?_⟩) ?_ ?_
            rotate_left
            · intro w'
              go_simp
              with_reducible rfl
            rotate_left
            · simp only [Act.put, List.setIfInBounds_toArray, List.set_cons_zero, List.set_cons_succ, i64_w, i32_w]
              rfl
            refine pure_ (i := 2) (N := some 57) (v := ?_) (a' := ?_) #[true, false, true, false, false] rfl rfl (by kernel_rfl) (fun _ _ _ h => h) (Or.inl ⟨by rfl, ?_⟩) ?_ ?_
            rotate_left
            · intro w'
              go_simp
              with_reducible rfl
            rotate_left
            · simp only [Act.put, List.setIfInBounds_toArray, List.set_cons_zero, List.set_cons_succ, i64_w, i32_w]
              rfl
            refine take_ (i := 3) (N := some 58) (v := ?_) (a' := ?_) #[true, false, true, true, false] rfl rfl (by kernel_rfl) (fun _ _ _ h => h) (Or.inl ⟨by rfl, ?_⟩) hHeld ?_ ?_
            rotate_left
            · rintro w' ⟨s0, s1, s2, s3⟩
              go_simp
              with_reducible rfl
            rotate_left
            · simp only [Act.put, List.setIfInBounds_toArray, List.set_cons_zero, List.set_cons_succ, i64_w, i32_w]
              rfl
            refine one_ (i := 1) (N := some 56) #[true, true, true, true, false] rfl rfl (by kernel_rfl) (by decide) (fun K hK => ?_)
            refine goes_ Try.func43 (by kernel_rfl) rfl #[.int .u8 a2] (by rfl) rfl rfl (by (try simp only [List.map_toArray, List.map_cons, List.map_nil]); first | done | rfl | (simp only [List.length_drop, List.length_take]; rfl)) ?_
            with_reducible refine (board_Side.calls a2 t409 _ A40.out).mono ?_
            rintro e w' ⟨rfl, ⟨nd, rfl⟩⟩
            refine ⟨_, rfl, ?_⟩
            refine hK.out _ _ ⟨(blk_cell BK402.out 0).trans rfl, (blk_cell BK402.out 1).trans rfl, (blk_cell BK402.out 2).trans rfl, (blk_cell BK402.out 3).trans rfl⟩ (fun hHeld => ?_)
            clear hK K
            refine norm_ (a' := ?_) ?_ ?_
            rotate_left
            · show Act.put _ (some 56) _ = _
              simp only [Act.put, List.setIfInBounds_toArray, List.set_cons_zero, List.set_cons_succ, i64_w, i32_w]
              rfl
            refine pure_ (i := 4) (N := some 59) (v := ?_) (a' := ?_) #[true, true, true, true, true] rfl rfl (by kernel_rfl) (fun _ _ _ h => h) (Or.inl ⟨by rfl, ?_⟩) ?_ ?_
            rotate_left
            · intro w'
              go_simp
              with_reducible rfl
            rotate_left
            · simp only [Act.put, List.setIfInBounds_toArray, List.set_cons_zero, List.set_cons_succ, i64_w, i32_w]
              rfl
            refine done_ (by kernel_rfl) ?_
            try go_wp2
            (try (rw [drewN_self w54]; generalize hq_ : World.drewN w54 _ = w54; have n0_ : Aside0 (w54.heap[gb402]? = some (.cells #[.string a0_0, .int .i64 a0_1, .int .i64 a0_2, .int .i64 a0_3] 29 (0, 0))) := ⟨by rw [← hq_]; exact (by (with_reducible repeat (first | refine blk_drewN ?_ _ | refine blk_drew ?_ | refine blk_alloc ?_ _)); exact BK402.out)⟩; have n1_ : Aside0 (w54.heap[gb406]? = some (.cells #[.string t407, .int .i64 a0_1, .int .i64 a0_2, .int .i64 a0_3] 29 (0, 0))) := ⟨by rw [← hq_]; exact (by (with_reducible repeat (first | refine blk_drewN ?_ _ | refine blk_drew ?_ | refine blk_alloc ?_ _)); exact BK406.out)⟩; have n2_ : Aside0 (Below w.heap.size w w54) := ⟨by rw [← hq_]; exact (by repeat (first | (with_reducible first | exact HB.out | apply below_alloc | apply pw_below_drewN | apply below_drew1 | refine below_set ?_ GE402.out | refine below_set ?_ GE406.out) | exact HB.out))⟩; clear BK402 BK406 HB hq_; have BK402 := n0_; have BK406 := n1_; have HB := n2_; clear n0_ n1_ n2_))
            have n0_ := Aside0.mk (blk_drew BK402.out)
            have n1_ := Aside0.mk (blk_drew BK406.out)
            have n2_ := Aside0.mk (below_drew1 HB.out)
            clear BK402
            clear BK406
            clear HB
            have BK402 := n0_
            have BK406 := n1_
            have HB := n2_
            clear n0_ n1_ n2_
            refine start_ (n := 11) (S := fun w' => w'.cell? ⟨gb406, 0, none⟩ = some (.string t407) ∧ w'.cell? ⟨gb406, 1, none⟩ = some (.int .i64 a0_1) ∧ w'.cell? ⟨gb406, 2, none⟩ = some (.int .i64 a0_2) ∧ w'.cell? ⟨gb406, 3, none⟩ = some (.int .i64 a0_3) ∧ w'.cell? ⟨gb402, 0, none⟩ = some (.string a0_0) ∧ w'.cell? ⟨gb402, 1, none⟩ = some (.int .i64 a0_1) ∧ w'.cell? ⟨gb402, 2, none⟩ = some (.int .i64 a0_2) ∧ w'.cell? ⟨gb402, 3, none⟩ = some (.int .i64 a0_3)) (ds := []) #[false, false, false, false, false, false, false, false, false, false, false] (by kernel_rfl) rfl rfl ⟨(blk_cell BK406.out 0).trans rfl, (blk_cell BK406.out 1).trans rfl, (blk_cell BK406.out 2).trans rfl, (blk_cell BK406.out 3).trans rfl, (blk_cell BK402.out 0).trans rfl, (blk_cell BK402.out 1).trans rfl, (blk_cell BK402.out 2).trans rfl, (blk_cell BK402.out 3).trans rfl⟩ (fun hHeld => ?_); refine with_tabW riverbanklaw14_ValueAdds.tab8 riverbanklaw14_ValueAdds.bits8 (fun HT_ HW_ => ?_)
            generalize w54.drew = w55 at BK402 BK406 HB hHeld ⊢
            refine pure_ (i := 4) (N := some 66) (v := ?_) (a' := ?_) #[false, false, false, false, true, false, false, false, false, false, false] rfl rfl (any_of HT_.out (by kernel_rfl)) (fun _ _ _ h => h) (Or.inl ⟨by rfl, ?_⟩) ?_ ?_
            rotate_left
            · intro w'
              go_simp
              with_reducible rfl
            rotate_left
            · simp only [Act.put, List.setIfInBounds_toArray, List.set_cons_zero, List.set_cons_succ, i64_w, i32_w]
              rfl
            refine take_ (i := 0) (N := some 62) (v := ?_) (a' := ?_) #[true, false, false, false, true, false, false, false, false, false, false] rfl rfl (take_ofW HT_.out HW_.out (by kernel_rfl)) (fun _ _ _ h => h) (Or.inl ⟨by rfl, ?_⟩) hHeld ?_ ?_
            rotate_left
            · rintro w' ⟨s0, s1, s2, s3, s4, s5, s6, s7⟩
              go_simp
              with_reducible rfl
            rotate_left
            · simp only [Act.put, List.setIfInBounds_toArray, List.set_cons_zero, List.set_cons_succ, i64_w, i32_w]
              rfl
            refine take_ (i := 2) (N := some 64) (v := ?_) (a' := ?_) #[true, false, true, false, true, false, false, false, false, false, false] rfl rfl (take_ofW HT_.out HW_.out (by kernel_rfl)) (fun _ _ _ h => h) (Or.inl ⟨by rfl, ?_⟩) hHeld ?_ ?_
            rotate_left
            · rintro w' ⟨s0, s1, s2, s3, s4, s5, s6, s7⟩
              go_simp
              with_reducible rfl
            rotate_left
            · simp only [Act.put, List.setIfInBounds_toArray, List.set_cons_zero, List.set_cons_succ, i64_w, i32_w]
              rfl
            refine one_ (i := 1) (N := some 63) #[true, true, true, false, true, false, false, false, false, false, false] rfl rfl (one_of HT_.out (by kernel_rfl)) (by decide) (fun K hK => ?_)
            refine goes_ Try.func37 (by kernel_rfl) rfl #[.agg #[.string t407, .int .i64 a0_1, .int .i64 a0_2, .int .i64 a0_3]] (by rfl) rfl rfl (by (try simp only [List.map_toArray, List.map_cons, List.map_nil]); first | done | rfl | (simp only [List.length_drop, List.length_take]; rfl)) ?_
            with_reducible refine (value_Of.calls t407 a0_1 a0_2 a0_3 t410 _ A42.out).mono ?_
            rintro e w56 ⟨rfl, hb⟩
            refine ⟨_, rfl, ?_⟩
            have n0_ := Aside0.mk (blk_below (g := gb402) (o := .cells #[.string a0_0, .int .i64 a0_1, .int .i64 a0_2, .int .i64 a0_3] 29 (0, 0)) (by (with_reducible repeat (first | refine blk_drewN ?_ _ | refine blk_drew ?_ | refine blk_alloc ?_ _)); exact BK402.out) hb)
            have n1_ := Aside0.mk (blk_below (g := gb406) (o := .cells #[.string t407, .int .i64 a0_1, .int .i64 a0_2, .int .i64 a0_3] 29 (0, 0)) (by (with_reducible repeat (first | refine blk_drewN ?_ _ | refine blk_drew ?_ | refine blk_alloc ?_ _)); exact BK406.out) hb)
            have n2_ := Aside0.mk (below_step (by repeat (first | (with_reducible first | exact HB.out | apply below_alloc | apply pw_below_drewN | apply below_drew1 | refine below_set ?_ GE402.out | refine below_set ?_ GE406.out) | exact HB.out)) hb)
            clear BK402
            clear BK406
            clear HB
            have BK402 := n0_
            have BK406 := n1_
            have HB := n2_
            clear n0_ n1_ n2_
            (try clear hb)
            (try clear hb2)
            (try clear hk)
            (try clear hi)
            refine hK.out _ _ ⟨(blk_cell BK406.out 0).trans rfl, (blk_cell BK406.out 1).trans rfl, (blk_cell BK406.out 2).trans rfl, (blk_cell BK406.out 3).trans rfl, (blk_cell BK402.out 0).trans rfl, (blk_cell BK402.out 1).trans rfl, (blk_cell BK402.out 2).trans rfl, (blk_cell BK402.out 3).trans rfl⟩ (fun hHeld => ?_)
            clear hK K
            refine norm_ (a' := ?_) ?_ ?_
            rotate_left
            · show Act.put _ (some 63) _ = _
              simp only [Act.put, List.setIfInBounds_toArray, List.set_cons_zero, List.set_cons_succ, i64_w, i32_w]
              rfl
            refine one_ (i := 3) (N := some 65) #[true, true, true, true, true, false, false, false, false, false, false] rfl rfl (one_of HT_.out (by kernel_rfl)) (by decide) (fun K hK => ?_)
            refine goes_ Try.func37 (by kernel_rfl) rfl #[.agg #[.string a0_0, .int .i64 a0_1, .int .i64 a0_2, .int .i64 a0_3]] (by rfl) rfl rfl (by (try simp only [List.map_toArray, List.map_cons, List.map_nil]); first | done | rfl | (simp only [List.length_drop, List.length_take]; rfl)) ?_
            with_reducible refine (value_Of.calls a0_0 a0_1 a0_2 a0_3 t411 _ A43.out).mono ?_
            rintro e w57 ⟨rfl, hb⟩
            refine ⟨_, rfl, ?_⟩
            have n0_ := Aside0.mk (blk_below (g := gb402) (o := .cells #[.string a0_0, .int .i64 a0_1, .int .i64 a0_2, .int .i64 a0_3] 29 (0, 0)) (by (with_reducible repeat (first | refine blk_drewN ?_ _ | refine blk_drew ?_ | refine blk_alloc ?_ _)); exact BK402.out) hb)
            have n1_ := Aside0.mk (blk_below (g := gb406) (o := .cells #[.string t407, .int .i64 a0_1, .int .i64 a0_2, .int .i64 a0_3] 29 (0, 0)) (by (with_reducible repeat (first | refine blk_drewN ?_ _ | refine blk_drew ?_ | refine blk_alloc ?_ _)); exact BK406.out) hb)
            have n2_ := Aside0.mk (below_step (by repeat (first | (with_reducible first | exact HB.out | apply below_alloc | apply pw_below_drewN | apply below_drew1 | refine below_set ?_ GE402.out | refine below_set ?_ GE406.out) | exact HB.out)) hb)
            clear BK402
            clear BK406
            clear HB
            have BK402 := n0_
            have BK406 := n1_
            have HB := n2_
            clear n0_ n1_ n2_
            (try clear hb)
            (try clear hb2)
            (try clear hk)
            (try clear hi)
            refine hK.out _ _ ⟨(blk_cell BK406.out 0).trans rfl, (blk_cell BK406.out 1).trans rfl, (blk_cell BK406.out 2).trans rfl, (blk_cell BK406.out 3).trans rfl, (blk_cell BK402.out 0).trans rfl, (blk_cell BK402.out 1).trans rfl, (blk_cell BK402.out 2).trans rfl, (blk_cell BK402.out 3).trans rfl⟩ (fun hHeld => ?_)
            clear hK K
            refine norm_ (a' := ?_) ?_ ?_
            rotate_left
            · show Act.put _ (some 65) _ = _
              simp only [Act.put, List.setIfInBounds_toArray, List.set_cons_zero, List.set_cons_succ, i64_w, i32_w]
              rfl
            refine pure_ (i := 5) (N := some 67) (v := ?_) (a' := ?_) #[true, true, true, true, true, true, false, false, false, false, false] rfl rfl (any_of HT_.out (by kernel_rfl)) (fun _ _ _ h => h) (Or.inl ⟨by rfl, ?_⟩) ?_ ?_
            rotate_left
            · intro w'
              go_simp
              with_reducible rfl
            rotate_left
            · simp only [Act.put, List.setIfInBounds_toArray, List.set_cons_zero, List.set_cons_succ, i64_w, i32_w]
              rfl
            refine pure_ (i := 6) (N := some 68) (v := ?_) (a' := ?_) #[true, true, true, true, true, true, true, false, false, false, false] rfl rfl (any_of HT_.out (by kernel_rfl)) (fun _ _ _ h => h) (Or.inl ⟨by rfl, ?_⟩) ?_ ?_
            rotate_left
            · intro w'
              go_simp
              with_reducible rfl
            rotate_left
            · simp only [Act.put, List.setIfInBounds_toArray, List.set_cons_zero, List.set_cons_succ, i64_w, i32_w]
              rfl
            refine pure_ (i := 7) (N := some 69) (v := ?_) (a' := ?_) #[true, true, true, true, true, true, true, true, false, false, false] rfl rfl (any_of HT_.out (by kernel_rfl)) (fun _ _ _ h => h) (Or.inl ⟨by rfl, ?_⟩) ?_ ?_
            rotate_left
            · intro w'
              go_simp
              with_reducible rfl
            rotate_left
            · simp only [Act.put, List.setIfInBounds_toArray, List.set_cons_zero, List.set_cons_succ, i64_w, i32_w]
              rfl
            refine one_ (i := 8) (N := some 70) #[true, true, true, true, true, true, true, true, true, false, false] rfl rfl (one_of HT_.out (by kernel_rfl)) (by decide) (fun K hK => ?_)
            refine goes_ Try.func36 (by kernel_rfl) rfl #[] (by rfl) rfl rfl (by (try simp only [List.map_toArray, List.map_cons, List.map_nil]); first | done | rfl | (simp only [List.length_drop, List.length_take]; rfl)) ?_
            with_reducible refine (riverbanklaw14_live.calls  t412 _ A45.out).mono ?_
            rintro e w58 ⟨rfl, hb⟩
            refine ⟨_, rfl, ?_⟩
            have n0_ := Aside0.mk (blk_below (g := gb402) (o := .cells #[.string a0_0, .int .i64 a0_1, .int .i64 a0_2, .int .i64 a0_3] 29 (0, 0)) (by (with_reducible repeat (first | refine blk_drewN ?_ _ | refine blk_drew ?_ | refine blk_alloc ?_ _)); exact BK402.out) hb)
            have n1_ := Aside0.mk (blk_below (g := gb406) (o := .cells #[.string t407, .int .i64 a0_1, .int .i64 a0_2, .int .i64 a0_3] 29 (0, 0)) (by (with_reducible repeat (first | refine blk_drewN ?_ _ | refine blk_drew ?_ | refine blk_alloc ?_ _)); exact BK406.out) hb)
            have n2_ := Aside0.mk (below_step (by repeat (first | (with_reducible first | exact HB.out | apply below_alloc | apply pw_below_drewN | apply below_drew1 | refine below_set ?_ GE402.out | refine below_set ?_ GE406.out) | exact HB.out)) hb)
            clear BK402
            clear BK406
            clear HB
            have BK402 := n0_
            have BK406 := n1_
            have HB := n2_
            clear n0_ n1_ n2_
            (try clear hb)
            (try clear hb2)
            (try clear hk)
            (try clear hi)
            refine hK.out _ _ ⟨(blk_cell BK406.out 0).trans rfl, (blk_cell BK406.out 1).trans rfl, (blk_cell BK406.out 2).trans rfl, (blk_cell BK406.out 3).trans rfl, (blk_cell BK402.out 0).trans rfl, (blk_cell BK402.out 1).trans rfl, (blk_cell BK402.out 2).trans rfl, (blk_cell BK402.out 3).trans rfl⟩ (fun hHeld => ?_)
            clear hK K
            refine norm_ (a' := ?_) ?_ ?_
            rotate_left
            · show Act.put _ (some 70) _ = _
              simp only [Act.put, List.setIfInBounds_toArray, List.set_cons_zero, List.set_cons_succ, i64_w, i32_w]
              rfl
            refine pure_ (i := 9) (N := some 71) (v := ?_) (a' := ?_) #[true, true, true, true, true, true, true, true, true, true, false] rfl rfl (any_of HT_.out (by kernel_rfl)) (fun _ _ _ h => h) (Or.inl ⟨by rfl, ?_⟩) ?_ ?_
            rotate_left
            · intro w'
              go_simp
              with_reducible rfl
            rotate_left
            · simp only [Act.put, List.setIfInBounds_toArray, List.set_cons_zero, List.set_cons_succ, i64_w, i32_w]
              rfl
            refine pure_ (i := 10) (N := some 6) (v := ?_) (a' := ?_) #[true, true, true, true, true, true, true, true, true, true, true] rfl rfl (any_of HT_.out (by kernel_rfl)) (fun _ _ _ h => h) (Or.inl ⟨by rfl, ?_⟩) ?_ ?_
            rotate_left
            · intro w'
              go_simp
              with_reducible rfl
            rotate_left
            · simp only [Act.put, List.setIfInBounds_toArray, List.set_cons_zero, List.set_cons_succ, i64_w, i32_w]
              rfl
            refine done_ (done_of HT_.out (by kernel_rfl)) ?_
            try go_wp2
            go_ret
            exact ⟨by first | rfl | (simp [errW_none, errW_some] <;> rfl) | (simp [*, errW_none, errW_some] <;> rfl), by repeat (first | (with_reducible first | exact HB.out | apply below_alloc | apply pw_below_drewN | apply below_drew1 | refine below_set ?_ GE402.out | refine below_set ?_ GE406.out) | exact HB.out)⟩
          · rw [if_neg c44] at H
            have c44b0 : (t410 == (wrap64 (t411 + t408))) = false := beq_eq_false_iff_ne.mpr c44
            have c44b1 : (t410 != (wrap64 (t411 + t408))) = true := bne_iff_ne.mpr c44
            obtain rfl := Option.some.inj H
            have hcz59_0 : wc.cell? ⟨gb402, 0, none⟩ = some (.string a0_0) := (blk_cell BK402.out 0).trans rfl
            have hcz59_1 : wc.cell? ⟨gb402, 1, none⟩ = some (.int .i64 a0_1) := (blk_cell BK402.out 1).trans rfl
            have hcz59_2 : wc.cell? ⟨gb402, 2, none⟩ = some (.int .i64 a0_2) := (blk_cell BK402.out 2).trans rfl
            have hcz59_3 : wc.cell? ⟨gb402, 3, none⟩ = some (.int .i64 a0_3) := (blk_cell BK402.out 3).trans rfl
            have hfz59_0 := blk_frozen BK402.out 0
            have hfz59_1 := blk_frozen BK402.out 1
            have hfz59_2 := blk_frozen BK402.out 2
            have hfz59_3 := blk_frozen BK402.out 3
            try go_wp2_with (first | ((with_reducible refine gate_dst (N := 7) rfl ?_); refine box_event ?hg (N := 7) ?hd (cs := #[.string (⟨#[]⟩ : ByteArray), .int .i64 0, .int .i64 0, .int .i64 0]) (t := 29) ?hr ?_; (case hd => rfl); (case hg => rfl); (case hr => first | (go_simp; done) | (go_simp; rfl)); intro gb406 hg w60 hbox hb; have n0_ := Aside0.mk (blk_below (g := gb402) (o := .cells #[.string a0_0, .int .i64 a0_1, .int .i64 a0_2, .int .i64 a0_3] 29 (0, 0)) (by (with_reducible repeat (first | refine blk_drewN ?_ _ | refine blk_drew ?_ | refine blk_alloc ?_ _)); exact BK402.out) hb); have n1_ := Aside0.mk (below_step (by repeat (first | (with_reducible first | exact HB.out | apply below_alloc | apply pw_below_drewN | apply below_drew1 | refine below_set ?_ GE402.out) | exact HB.out)) hb); have n2_ := Aside0.mk (hbox); have n3_ := Aside0.mk ((by rw [hg]; exact (below_size (by repeat (first | (with_reducible first | exact HB.out | apply below_alloc | apply pw_below_drewN | apply below_drew1 | refine below_set ?_ GE402.out) | exact HB.out))) : w.heap.size ≤ gb406)); have n4_ := Aside0.mk ((by rw [hg]; exact (below_size (by repeat (first | (with_reducible first | exact HB.out | apply below_alloc | apply pw_below_drewN | apply below_drew1 | refine below_set ?_ GE402.out) | exact HB.out))) : w.heap.size ≤ gb406)); have n5_ := Aside0.mk ((by rw [hg]; exact Nat.ne_of_lt (blk_lt (g := gb402) (o := .cells #[.string a0_0, .int .i64 a0_1, .int .i64 a0_2, .int .i64 a0_3] 29 (0, 0)) (by (with_reducible repeat (first | refine blk_drewN ?_ _ | refine blk_drew ?_ | refine blk_alloc ?_ _)); exact BK402.out)) : gb402 ≠ gb406)); have n6_ := Aside0.mk ((by rw [hg]; exact Nat.ne_of_gt (blk_lt (g := gb402) (o := .cells #[.string a0_0, .int .i64 a0_1, .int .i64 a0_2, .int .i64 a0_3] 29 (0, 0)) (by (with_reducible repeat (first | refine blk_drewN ?_ _ | refine blk_drew ?_ | refine blk_alloc ?_ _)); exact BK402.out)) : gb406 ≠ gb402)); clear BK402; clear HB; have BK402 := n0_; have HB := n1_; have BK406 := n2_; have GW406 := n3_; have GE406 := n4_; have NB402_406 := n5_; have NB406_402 := n6_; clear n0_ n1_ n2_ n3_ n4_ n5_ n6_; clear hb hbox hg; have hnb61 := NB406_402.out; have hnc61 := NB402_406.out; have hcz62_0 : w60.cell? ⟨gb406, 0, none⟩ = some (.string (⟨#[]⟩ : ByteArray)) := (blk_cell BK406.out 0).trans rfl; have hcz62_1 : w60.cell? ⟨gb406, 1, none⟩ = some (.int .i64 0) := (blk_cell BK406.out 1).trans rfl; have hcz62_2 : w60.cell? ⟨gb406, 2, none⟩ = some (.int .i64 0) := (blk_cell BK406.out 2).trans rfl; have hcz62_3 : w60.cell? ⟨gb406, 3, none⟩ = some (.int .i64 0) := (blk_cell BK406.out 3).trans rfl; have hfz62_0 := blk_frozen BK406.out 0; have hfz62_1 := blk_frozen BK406.out 1; have hfz62_2 := blk_frozen BK406.out 2; have hfz62_3 := blk_frozen BK406.out 3; have hcz63_0 : w60.cell? ⟨gb402, 0, none⟩ = some (.string a0_0) := (blk_cell BK402.out 0).trans rfl; have hcz63_1 : w60.cell? ⟨gb402, 1, none⟩ = some (.int .i64 a0_1) := (blk_cell BK402.out 1).trans rfl; have hcz63_2 : w60.cell? ⟨gb402, 2, none⟩ = some (.int .i64 a0_2) := (blk_cell BK402.out 2).trans rfl; have hcz63_3 : w60.cell? ⟨gb402, 3, none⟩ = some (.int .i64 a0_3) := (blk_cell BK402.out 3).trans rfl; have hfz63_0 := blk_frozen BK402.out 0; have hfz63_1 := blk_frozen BK402.out 1; have hfz63_2 := blk_frozen BK402.out 2; have hfz63_3 := blk_frozen BK402.out 3) | ((with_reducible refine gate_callee (f := 46) rfl ?_); refine goesL_ (some 50) rfl rfl Try.func46 (by kernel_rfl) rfl #[.string a0_0, .int .i64 a1, .int .u8 a2] rfl (by (try simp only [List.map_toArray, List.map_cons, List.map_nil]); first | done | rfl | (simp only [List.length_drop, List.length_take]; rfl)) ?_; (with_reducible refine (board_Put.calls a0_0 a1 a2 t407 _ A38.out).mono ?_); rintro e w64 ⟨rfl, hb⟩; refine ⟨_, rfl, ?_⟩; have n0_ := Aside0.mk (blk_below (g := gb402) (o := .cells #[.string a0_0, .int .i64 a0_1, .int .i64 a0_2, .int .i64 a0_3] 29 (0, 0)) (by (with_reducible repeat (first | refine blk_drewN ?_ _ | refine blk_drew ?_ | refine blk_alloc ?_ _)); refine blk_far ?_ NB402_406.out _; (with_reducible repeat (first | refine blk_drewN ?_ _ | refine blk_drew ?_ | refine blk_alloc ?_ _)); refine blk_far ?_ NB402_406.out _; (with_reducible repeat (first | refine blk_drewN ?_ _ | refine blk_drew ?_ | refine blk_alloc ?_ _)); refine blk_far ?_ NB402_406.out _; (with_reducible repeat (first | refine blk_drewN ?_ _ | refine blk_drew ?_ | refine blk_alloc ?_ _)); refine blk_far ?_ NB402_406.out _; (with_reducible repeat (first | refine blk_drewN ?_ _ | refine blk_drew ?_ | refine blk_alloc ?_ _)); exact BK402.out) hb); have n1_ := Aside0.mk (blk_below (g := gb406) (o := .cells #[.string a0_0, .int .i64 a0_1, .int .i64 a0_2, .int .i64 a0_3] 29 (0, 0)) (by (with_reducible repeat (first | refine blk_drewN ?_ _ | refine blk_drew ?_ | refine blk_alloc ?_ _)); refine blk_put (cs := #[.string a0_0, .int .i64 a0_1, .int .i64 a0_2, .int .i64 0]) ?_ 3 _ rfl; (with_reducible repeat (first | refine blk_drewN ?_ _ | refine blk_drew ?_ | refine blk_alloc ?_ _)); refine blk_put (cs := #[.string a0_0, .int .i64 a0_1, .int .i64 0, .int .i64 0]) ?_ 2 _ rfl; (with_reducible repeat (first | refine blk_drewN ?_ _ | refine blk_drew ?_ | refine blk_alloc ?_ _)); refine blk_put (cs := #[.string a0_0, .int .i64 0, .int .i64 0, .int .i64 0]) ?_ 1 _ rfl; (with_reducible repeat (first | refine blk_drewN ?_ _ | refine blk_drew ?_ | refine blk_alloc ?_ _)); refine blk_put (cs := #[.string (⟨#[]⟩ : ByteArray), .int .i64 0, .int .i64 0, .int .i64 0]) ?_ 0 _ rfl; (with_reducible repeat (first | refine blk_drewN ?_ _ | refine blk_drew ?_ | refine blk_alloc ?_ _)); exact BK406.out) hb); have n2_ := Aside0.mk (below_step (by repeat (first | (with_reducible first | exact HB.out | apply below_alloc | apply pw_below_drewN | apply below_drew1 | refine below_set ?_ GE402.out | refine below_set ?_ GE406.out) | exact HB.out)) hb); clear BK402; clear BK406; clear HB; have BK402 := n0_; have BK406 := n1_; have HB := n2_; clear n0_ n1_ n2_; (try clear hb); (try clear hb2); (try clear hk); (try clear hi); have hcz65_0 : w64.cell? ⟨gb406, 0, none⟩ = some (.string a0_0) := (blk_cell BK406.out 0).trans rfl; have hcz65_1 : w64.cell? ⟨gb406, 1, none⟩ = some (.int .i64 a0_1) := (blk_cell BK406.out 1).trans rfl; have hcz65_2 : w64.cell? ⟨gb406, 2, none⟩ = some (.int .i64 a0_2) := (blk_cell BK406.out 2).trans rfl; have hcz65_3 : w64.cell? ⟨gb406, 3, none⟩ = some (.int .i64 a0_3) := (blk_cell BK406.out 3).trans rfl; have hfz65_0 := blk_frozen BK406.out 0; have hfz65_1 := blk_frozen BK406.out 1; have hfz65_2 := blk_frozen BK406.out 2; have hfz65_3 := blk_frozen BK406.out 3) | ((with_reducible refine gate_callee (f := 34) rfl ?_); refine goesL_ (some 54) rfl rfl Try.func34 (by kernel_rfl) rfl #[.int .u8 a2, .int .i64 a1] rfl (by (try simp only [List.map_toArray, List.map_cons, List.map_nil]); first | done | rfl | (simp only [List.length_drop, List.length_take]; rfl)) ?_; (with_reducible refine (value_Piece.calls kj3 a2 a1 t408 _ A39.out).mono ?_); rintro e w66 ⟨rfl, hb⟩; refine ⟨_, rfl, ?_⟩; have n0_ := Aside0.mk (blk_below (g := gb402) (o := .cells #[.string a0_0, .int .i64 a0_1, .int .i64 a0_2, .int .i64 a0_3] 29 (0, 0)) (by (with_reducible repeat (first | refine blk_drewN ?_ _ | refine blk_drew ?_ | refine blk_alloc ?_ _)); refine blk_far ?_ NB402_406.out _; (with_reducible repeat (first | refine blk_drewN ?_ _ | refine blk_drew ?_ | refine blk_alloc ?_ _)); exact BK402.out) hb); have n1_ := Aside0.mk (blk_below (g := gb406) (o := .cells #[.string t407, .int .i64 a0_1, .int .i64 a0_2, .int .i64 a0_3] 29 (0, 0)) (by (with_reducible repeat (first | refine blk_drewN ?_ _ | refine blk_drew ?_ | refine blk_alloc ?_ _)); refine blk_put (cs := #[.string a0_0, .int .i64 a0_1, .int .i64 a0_2, .int .i64 a0_3]) ?_ 0 _ rfl; (with_reducible repeat (first | refine blk_drewN ?_ _ | refine blk_drew ?_ | refine blk_alloc ?_ _)); exact BK406.out) hb); have n2_ := Aside0.mk (below_step (by repeat (first | (with_reducible first | exact HB.out | apply below_alloc | apply pw_below_drewN | apply below_drew1 | refine below_set ?_ GE402.out | refine below_set ?_ GE406.out) | exact HB.out)) hb); clear BK402; clear BK406; clear HB; have BK402 := n0_; have BK406 := n1_; have HB := n2_; clear n0_ n1_ n2_; (try clear hb); (try clear hb2); (try clear hk); (try clear hi)))
            have n0_ := Aside0.mk (blk_drew BK402.out)
            have n1_ := Aside0.mk (blk_drew BK406.out)
            have n2_ := Aside0.mk (below_drew1 HB.out)
            clear BK402
            clear BK406
            clear HB
            have BK402 := n0_
            have BK406 := n1_
            have HB := n2_
            clear n0_ n1_ n2_
            refine start_ (n := 5) (S := fun w' => w'.cell? ⟨gb402, 0, none⟩ = some (.string a0_0) ∧ w'.cell? ⟨gb402, 1, none⟩ = some (.int .i64 a0_1) ∧ w'.cell? ⟨gb402, 2, none⟩ = some (.int .i64 a0_2) ∧ w'.cell? ⟨gb402, 3, none⟩ = some (.int .i64 a0_3)) (ds := []) #[false, false, false, false, false] (by kernel_rfl) rfl rfl ⟨(blk_cell BK402.out 0).trans rfl, (blk_cell BK402.out 1).trans rfl, (blk_cell BK402.out 2).trans rfl, (blk_cell BK402.out 3).trans rfl⟩ (fun hHeld => ?_)
            generalize w66.drew = w67 at BK402 BK406 HB hHeld ⊢
            refine pure_ (i := 0) (N := some 55) (v := ?_) (a' := ?_) #[true, false, false, false, false] rfl rfl (by kernel_rfl) (fun _ _ _ h => h) (Or.inl ⟨by rfl, ?_⟩) ?_ ?_
            rotate_left
            · intro w'
              go_simp
              with_reducible rfl
            rotate_left
            · simp only [Act.put, List.setIfInBounds_toArray, List.set_cons_zero, List.set_cons_succ, i64_w, i32_w]
              rfl
            refine pure_ (i := 2) (N := some 57) (v := ?_) (a' := ?_) #[true, false, true, false, false] rfl rfl (by kernel_rfl) (fun _ _ _ h => h) (Or.inl ⟨by rfl, ?_⟩) ?_ ?_
            rotate_left
            · intro w'
              go_simp
              with_reducible rfl
            rotate_left
            · simp only [Act.put, List.setIfInBounds_toArray, List.set_cons_zero, List.set_cons_succ, i64_w, i32_w]
              rfl
            refine take_ (i := 3) (N := some 58) (v := ?_) (a' := ?_) #[true, false, true, true, false] rfl rfl (by kernel_rfl) (fun _ _ _ h => h) (Or.inl ⟨by rfl, ?_⟩) hHeld ?_ ?_
            rotate_left
            · rintro w' ⟨s0, s1, s2, s3⟩
              go_simp
              with_reducible rfl
            rotate_left
            · simp only [Act.put, List.setIfInBounds_toArray, List.set_cons_zero, List.set_cons_succ, i64_w, i32_w]
              rfl
            refine one_ (i := 1) (N := some 56) #[true, true, true, true, false] rfl rfl (by kernel_rfl) (by decide) (fun K hK => ?_)
            refine goes_ Try.func43 (by kernel_rfl) rfl #[.int .u8 a2] (by rfl) rfl rfl (by (try simp only [List.map_toArray, List.map_cons, List.map_nil]); first | done | rfl | (simp only [List.length_drop, List.length_take]; rfl)) ?_
            with_reducible refine (board_Side.calls a2 t409 _ A40.out).mono ?_
            rintro e w' ⟨rfl, ⟨nd, rfl⟩⟩
            refine ⟨_, rfl, ?_⟩
            refine hK.out _ _ ⟨(blk_cell BK402.out 0).trans rfl, (blk_cell BK402.out 1).trans rfl, (blk_cell BK402.out 2).trans rfl, (blk_cell BK402.out 3).trans rfl⟩ (fun hHeld => ?_)
            clear hK K
            refine norm_ (a' := ?_) ?_ ?_
            rotate_left
            · show Act.put _ (some 56) _ = _
              simp only [Act.put, List.setIfInBounds_toArray, List.set_cons_zero, List.set_cons_succ, i64_w, i32_w]
              rfl
            refine pure_ (i := 4) (N := some 59) (v := ?_) (a' := ?_) #[true, true, true, true, true] rfl rfl (by kernel_rfl) (fun _ _ _ h => h) (Or.inl ⟨by rfl, ?_⟩) ?_ ?_
            rotate_left
            · intro w'
              go_simp
              with_reducible rfl
            rotate_left
            · simp only [Act.put, List.setIfInBounds_toArray, List.set_cons_zero, List.set_cons_succ, i64_w, i32_w]
              rfl
            refine done_ (by kernel_rfl) ?_
            try go_wp2
            (try (rw [drewN_self w67]; generalize hq_ : World.drewN w67 _ = w67; have n0_ : Aside0 (w67.heap[gb402]? = some (.cells #[.string a0_0, .int .i64 a0_1, .int .i64 a0_2, .int .i64 a0_3] 29 (0, 0))) := ⟨by rw [← hq_]; exact (by (with_reducible repeat (first | refine blk_drewN ?_ _ | refine blk_drew ?_ | refine blk_alloc ?_ _)); exact BK402.out)⟩; have n1_ : Aside0 (w67.heap[gb406]? = some (.cells #[.string t407, .int .i64 a0_1, .int .i64 a0_2, .int .i64 a0_3] 29 (0, 0))) := ⟨by rw [← hq_]; exact (by (with_reducible repeat (first | refine blk_drewN ?_ _ | refine blk_drew ?_ | refine blk_alloc ?_ _)); exact BK406.out)⟩; have n2_ : Aside0 (Below w.heap.size w w67) := ⟨by rw [← hq_]; exact (by repeat (first | (with_reducible first | exact HB.out | apply below_alloc | apply pw_below_drewN | apply below_drew1 | refine below_set ?_ GE402.out | refine below_set ?_ GE406.out) | exact HB.out))⟩; clear BK402 BK406 HB hq_; have BK402 := n0_; have BK406 := n1_; have HB := n2_; clear n0_ n1_ n2_))
            have n0_ := Aside0.mk (blk_drew BK402.out)
            have n1_ := Aside0.mk (blk_drew BK406.out)
            have n2_ := Aside0.mk (below_drew1 HB.out)
            clear BK402
            clear BK406
            clear HB
            have BK402 := n0_
            have BK406 := n1_
            have HB := n2_
            clear n0_ n1_ n2_
            refine start_ (n := 11) (S := fun w' => w'.cell? ⟨gb406, 0, none⟩ = some (.string t407) ∧ w'.cell? ⟨gb406, 1, none⟩ = some (.int .i64 a0_1) ∧ w'.cell? ⟨gb406, 2, none⟩ = some (.int .i64 a0_2) ∧ w'.cell? ⟨gb406, 3, none⟩ = some (.int .i64 a0_3) ∧ w'.cell? ⟨gb402, 0, none⟩ = some (.string a0_0) ∧ w'.cell? ⟨gb402, 1, none⟩ = some (.int .i64 a0_1) ∧ w'.cell? ⟨gb402, 2, none⟩ = some (.int .i64 a0_2) ∧ w'.cell? ⟨gb402, 3, none⟩ = some (.int .i64 a0_3)) (ds := []) #[false, false, false, false, false, false, false, false, false, false, false] (by kernel_rfl) rfl rfl ⟨(blk_cell BK406.out 0).trans rfl, (blk_cell BK406.out 1).trans rfl, (blk_cell BK406.out 2).trans rfl, (blk_cell BK406.out 3).trans rfl, (blk_cell BK402.out 0).trans rfl, (blk_cell BK402.out 1).trans rfl, (blk_cell BK402.out 2).trans rfl, (blk_cell BK402.out 3).trans rfl⟩ (fun hHeld => ?_); refine with_tabW riverbanklaw14_ValueAdds.tab8 riverbanklaw14_ValueAdds.bits8 (fun HT_ HW_ => ?_)
            generalize w67.drew = w68 at BK402 BK406 HB hHeld ⊢
            refine pure_ (i := 4) (N := some 66) (v := ?_) (a' := ?_) #[false, false, false, false, true, false, false, false, false, false, false] rfl rfl (any_of HT_.out (by kernel_rfl)) (fun _ _ _ h => h) (Or.inl ⟨by rfl, ?_⟩) ?_ ?_
            rotate_left
            · intro w'
              go_simp
              with_reducible rfl
            rotate_left
            · simp only [Act.put, List.setIfInBounds_toArray, List.set_cons_zero, List.set_cons_succ, i64_w, i32_w]
              rfl
            refine take_ (i := 0) (N := some 62) (v := ?_) (a' := ?_) #[true, false, false, false, true, false, false, false, false, false, false] rfl rfl (take_ofW HT_.out HW_.out (by kernel_rfl)) (fun _ _ _ h => h) (Or.inl ⟨by rfl, ?_⟩) hHeld ?_ ?_
            rotate_left
            · rintro w' ⟨s0, s1, s2, s3, s4, s5, s6, s7⟩
              go_simp
              with_reducible rfl
            rotate_left
            · simp only [Act.put, List.setIfInBounds_toArray, List.set_cons_zero, List.set_cons_succ, i64_w, i32_w]
              rfl
            refine take_ (i := 2) (N := some 64) (v := ?_) (a' := ?_) #[true, false, true, false, true, false, false, false, false, false, false] rfl rfl (take_ofW HT_.out HW_.out (by kernel_rfl)) (fun _ _ _ h => h) (Or.inl ⟨by rfl, ?_⟩) hHeld ?_ ?_
            rotate_left
            · rintro w' ⟨s0, s1, s2, s3, s4, s5, s6, s7⟩
              go_simp
              with_reducible rfl
            rotate_left
            · simp only [Act.put, List.setIfInBounds_toArray, List.set_cons_zero, List.set_cons_succ, i64_w, i32_w]
              rfl
            refine one_ (i := 1) (N := some 63) #[true, true, true, false, true, false, false, false, false, false, false] rfl rfl (one_of HT_.out (by kernel_rfl)) (by decide) (fun K hK => ?_)
            refine goes_ Try.func37 (by kernel_rfl) rfl #[.agg #[.string t407, .int .i64 a0_1, .int .i64 a0_2, .int .i64 a0_3]] (by rfl) rfl rfl (by (try simp only [List.map_toArray, List.map_cons, List.map_nil]); first | done | rfl | (simp only [List.length_drop, List.length_take]; rfl)) ?_
            with_reducible refine (value_Of.calls t407 a0_1 a0_2 a0_3 t410 _ A42.out).mono ?_
            rintro e w69 ⟨rfl, hb⟩
            refine ⟨_, rfl, ?_⟩
            have n0_ := Aside0.mk (blk_below (g := gb402) (o := .cells #[.string a0_0, .int .i64 a0_1, .int .i64 a0_2, .int .i64 a0_3] 29 (0, 0)) (by (with_reducible repeat (first | refine blk_drewN ?_ _ | refine blk_drew ?_ | refine blk_alloc ?_ _)); exact BK402.out) hb)
            have n1_ := Aside0.mk (blk_below (g := gb406) (o := .cells #[.string t407, .int .i64 a0_1, .int .i64 a0_2, .int .i64 a0_3] 29 (0, 0)) (by (with_reducible repeat (first | refine blk_drewN ?_ _ | refine blk_drew ?_ | refine blk_alloc ?_ _)); exact BK406.out) hb)
            have n2_ := Aside0.mk (below_step (by repeat (first | (with_reducible first | exact HB.out | apply below_alloc | apply pw_below_drewN | apply below_drew1 | refine below_set ?_ GE402.out | refine below_set ?_ GE406.out) | exact HB.out)) hb)
            clear BK402
            clear BK406
            clear HB
            have BK402 := n0_
            have BK406 := n1_
            have HB := n2_
            clear n0_ n1_ n2_
            (try clear hb)
            (try clear hb2)
            (try clear hk)
            (try clear hi)
            refine hK.out _ _ ⟨(blk_cell BK406.out 0).trans rfl, (blk_cell BK406.out 1).trans rfl, (blk_cell BK406.out 2).trans rfl, (blk_cell BK406.out 3).trans rfl, (blk_cell BK402.out 0).trans rfl, (blk_cell BK402.out 1).trans rfl, (blk_cell BK402.out 2).trans rfl, (blk_cell BK402.out 3).trans rfl⟩ (fun hHeld => ?_)
            clear hK K
            refine norm_ (a' := ?_) ?_ ?_
            rotate_left
            · show Act.put _ (some 63) _ = _
              simp only [Act.put, List.setIfInBounds_toArray, List.set_cons_zero, List.set_cons_succ, i64_w, i32_w]
              rfl
            refine one_ (i := 3) (N := some 65) #[true, true, true, true, true, false, false, false, false, false, false] rfl rfl (one_of HT_.out (by kernel_rfl)) (by decide) (fun K hK => ?_)
            refine goes_ Try.func37 (by kernel_rfl) rfl #[.agg #[.string a0_0, .int .i64 a0_1, .int .i64 a0_2, .int .i64 a0_3]] (by rfl) rfl rfl (by (try simp only [List.map_toArray, List.map_cons, List.map_nil]); first | done | rfl | (simp only [List.length_drop, List.length_take]; rfl)) ?_
            with_reducible refine (value_Of.calls a0_0 a0_1 a0_2 a0_3 t411 _ A43.out).mono ?_
            rintro e w70 ⟨rfl, hb⟩
            refine ⟨_, rfl, ?_⟩
            have n0_ := Aside0.mk (blk_below (g := gb402) (o := .cells #[.string a0_0, .int .i64 a0_1, .int .i64 a0_2, .int .i64 a0_3] 29 (0, 0)) (by (with_reducible repeat (first | refine blk_drewN ?_ _ | refine blk_drew ?_ | refine blk_alloc ?_ _)); exact BK402.out) hb)
            have n1_ := Aside0.mk (blk_below (g := gb406) (o := .cells #[.string t407, .int .i64 a0_1, .int .i64 a0_2, .int .i64 a0_3] 29 (0, 0)) (by (with_reducible repeat (first | refine blk_drewN ?_ _ | refine blk_drew ?_ | refine blk_alloc ?_ _)); exact BK406.out) hb)
            have n2_ := Aside0.mk (below_step (by repeat (first | (with_reducible first | exact HB.out | apply below_alloc | apply pw_below_drewN | apply below_drew1 | refine below_set ?_ GE402.out | refine below_set ?_ GE406.out) | exact HB.out)) hb)
            clear BK402
            clear BK406
            clear HB
            have BK402 := n0_
            have BK406 := n1_
            have HB := n2_
            clear n0_ n1_ n2_
            (try clear hb)
            (try clear hb2)
            (try clear hk)
            (try clear hi)
            refine hK.out _ _ ⟨(blk_cell BK406.out 0).trans rfl, (blk_cell BK406.out 1).trans rfl, (blk_cell BK406.out 2).trans rfl, (blk_cell BK406.out 3).trans rfl, (blk_cell BK402.out 0).trans rfl, (blk_cell BK402.out 1).trans rfl, (blk_cell BK402.out 2).trans rfl, (blk_cell BK402.out 3).trans rfl⟩ (fun hHeld => ?_)
            clear hK K
            refine norm_ (a' := ?_) ?_ ?_
            rotate_left
            · show Act.put _ (some 65) _ = _
              simp only [Act.put, List.setIfInBounds_toArray, List.set_cons_zero, List.set_cons_succ, i64_w, i32_w]
              rfl
            refine pure_ (i := 5) (N := some 67) (v := ?_) (a' := ?_) #[true, true, true, true, true, true, false, false, false, false, false] rfl rfl (any_of HT_.out (by kernel_rfl)) (fun _ _ _ h => h) (Or.inl ⟨by rfl, ?_⟩) ?_ ?_
            rotate_left
            · intro w'
              go_simp
              with_reducible rfl
            rotate_left
            · simp only [Act.put, List.setIfInBounds_toArray, List.set_cons_zero, List.set_cons_succ, i64_w, i32_w]
              rfl
            refine pure_ (i := 6) (N := some 68) (v := ?_) (a' := ?_) #[true, true, true, true, true, true, true, false, false, false, false] rfl rfl (any_of HT_.out (by kernel_rfl)) (fun _ _ _ h => h) (Or.inl ⟨by rfl, ?_⟩) ?_ ?_
            rotate_left
            · intro w'
              go_simp
              with_reducible rfl
            rotate_left
            · simp only [Act.put, List.setIfInBounds_toArray, List.set_cons_zero, List.set_cons_succ, i64_w, i32_w]
              rfl
            refine pure_ (i := 7) (N := some 69) (v := ?_) (a' := ?_) #[true, true, true, true, true, true, true, true, false, false, false] rfl rfl (any_of HT_.out (by kernel_rfl)) (fun _ _ _ h => h) (Or.inl ⟨by rfl, ?_⟩) ?_ ?_
            rotate_left
            · intro w'
              go_simp
              with_reducible rfl
            rotate_left
            · simp only [Act.put, List.setIfInBounds_toArray, List.set_cons_zero, List.set_cons_succ, i64_w, i32_w]
              rfl
            refine pure_ (i := 8) (N := some 70) (v := undef) (a' := ?_) #[true, true, true, true, true, true, true, true, true, false, false] rfl rfl (any_of HT_.out (by kernel_rfl)) (fun _ _ _ h => h) (Or.inr ⟨by rfl, rfl⟩) ?_ ?_
            rotate_left
            · simp only [Act.put, List.setIfInBounds_toArray, List.set_cons_zero, List.set_cons_succ, i64_w, i32_w]
              rfl
            refine pure_ (i := 9) (N := some 71) (v := ?_) (a' := ?_) #[true, true, true, true, true, true, true, true, true, true, false] rfl rfl (any_of HT_.out (by kernel_rfl)) (fun _ _ _ h => h) (Or.inl ⟨by rfl, ?_⟩) ?_ ?_
            rotate_left
            · intro w'
              go_simp
              with_reducible rfl
            rotate_left
            · simp only [Act.put, List.setIfInBounds_toArray, List.set_cons_zero, List.set_cons_succ, i64_w, i32_w]
              rfl
            refine pure_ (i := 10) (N := some 6) (v := ?_) (a' := ?_) #[true, true, true, true, true, true, true, true, true, true, true] rfl rfl (any_of HT_.out (by kernel_rfl)) (fun _ _ _ h => h) (Or.inl ⟨by rfl, ?_⟩) ?_ ?_
            rotate_left
            · intro w'
              go_simp
              with_reducible rfl
            rotate_left
            · simp only [Act.put, List.setIfInBounds_toArray, List.set_cons_zero, List.set_cons_succ, i64_w, i32_w]
              rfl
            refine done_ (done_of HT_.out (by kernel_rfl)) ?_
            try go_wp2
            go_ret
            exact ⟨by first | rfl | (simp [errW_none, errW_some] <;> rfl) | (simp [*, errW_none, errW_some] <;> rfl), by repeat (first | (with_reducible first | exact HB.out | apply below_alloc | apply pw_below_drewN | apply below_drew1 | refine below_set ?_ GE402.out | refine below_set ?_ GE406.out) | exact HB.out)⟩
        · rw [if_neg c41] at H
          have c41b0 : (t409 == a0_1) = false := beq_eq_false_iff_ne.mpr c41
          have c41b1 : (t409 != a0_1) = true := bne_iff_ne.mpr c41
          replace H := Option.bind_eq_some_iff.mp H
          obtain ⟨t413, A710, H⟩ := H
          replace H : ((value_Of.f a0_0 a0_1 a0_2 a0_3).bind fun t414 => (if t413 = (wrap64 (t414 + (wrap64 (-t408)))) then ((riverbanklaw14_live.f).bind fun t415 => (some t415)) else (some false))) = some r := H
          have A71 := Aside0.mk A710
          clear A710
          replace H := Option.bind_eq_some_iff.mp H
          obtain ⟨t414, A720, H⟩ := H
          replace H : (if t413 = (wrap64 (t414 + (wrap64 (-t408)))) then ((riverbanklaw14_live.f).bind fun t415 => (some t415)) else (some false)) = some r := H
          have A72 := Aside0.mk A720
          clear A720
          by_cases c73 : t413 = (wrap64 (t414 + (wrap64 (-t408))))
          · rw [if_pos c73] at H
            have c73b0 : (t413 == (wrap64 (t414 + (wrap64 (-t408))))) = true := beq_iff_eq.mpr c73
            have c73b1 : (t413 != (wrap64 (t414 + (wrap64 (-t408))))) = false := bne_eq_false_iff_eq.mpr c73
            clear c73
            replace H := Option.bind_eq_some_iff.mp H
            obtain ⟨t415, A740, H⟩ := H
            replace H : (some t415) = some r := H
            have A74 := Aside0.mk A740
            clear A740
            obtain rfl := Option.some.inj H
            have hcz75_0 : wc.cell? ⟨gb402, 0, none⟩ = some (.string a0_0) := (blk_cell BK402.out 0).trans rfl
            have hcz75_1 : wc.cell? ⟨gb402, 1, none⟩ = some (.int .i64 a0_1) := (blk_cell BK402.out 1).trans rfl
            have hcz75_2 : wc.cell? ⟨gb402, 2, none⟩ = some (.int .i64 a0_2) := (blk_cell BK402.out 2).trans rfl
            have hcz75_3 : wc.cell? ⟨gb402, 3, none⟩ = some (.int .i64 a0_3) := (blk_cell BK402.out 3).trans rfl
            have hfz75_0 := blk_frozen BK402.out 0
            have hfz75_1 := blk_frozen BK402.out 1
            have hfz75_2 := blk_frozen BK402.out 2
            have hfz75_3 := blk_frozen BK402.out 3
            try go_wp2_with (first | ((with_reducible refine gate_dst (N := 7) rfl ?_); refine box_event ?hg (N := 7) ?hd (cs := #[.string (⟨#[]⟩ : ByteArray), .int .i64 0, .int .i64 0, .int .i64 0]) (t := 29) ?hr ?_; (case hd => rfl); (case hg => rfl); (case hr => first | (go_simp; done) | (go_simp; rfl)); intro gb406 hg w76 hbox hb; have n0_ := Aside0.mk (blk_below (g := gb402) (o := .cells #[.string a0_0, .int .i64 a0_1, .int .i64 a0_2, .int .i64 a0_3] 29 (0, 0)) (by (with_reducible repeat (first | refine blk_drewN ?_ _ | refine blk_drew ?_ | refine blk_alloc ?_ _)); exact BK402.out) hb); have n1_ := Aside0.mk (below_step (by repeat (first | (with_reducible first | exact HB.out | apply below_alloc | apply pw_below_drewN | apply below_drew1 | refine below_set ?_ GE402.out) | exact HB.out)) hb); have n2_ := Aside0.mk (hbox); have n3_ := Aside0.mk ((by rw [hg]; exact (below_size (by repeat (first | (with_reducible first | exact HB.out | apply below_alloc | apply pw_below_drewN | apply below_drew1 | refine below_set ?_ GE402.out) | exact HB.out))) : w.heap.size ≤ gb406)); have n4_ := Aside0.mk ((by rw [hg]; exact (below_size (by repeat (first | (with_reducible first | exact HB.out | apply below_alloc | apply pw_below_drewN | apply below_drew1 | refine below_set ?_ GE402.out) | exact HB.out))) : w.heap.size ≤ gb406)); have n5_ := Aside0.mk ((by rw [hg]; exact Nat.ne_of_lt (blk_lt (g := gb402) (o := .cells #[.string a0_0, .int .i64 a0_1, .int .i64 a0_2, .int .i64 a0_3] 29 (0, 0)) (by (with_reducible repeat (first | refine blk_drewN ?_ _ | refine blk_drew ?_ | refine blk_alloc ?_ _)); exact BK402.out)) : gb402 ≠ gb406)); have n6_ := Aside0.mk ((by rw [hg]; exact Nat.ne_of_gt (blk_lt (g := gb402) (o := .cells #[.string a0_0, .int .i64 a0_1, .int .i64 a0_2, .int .i64 a0_3] 29 (0, 0)) (by (with_reducible repeat (first | refine blk_drewN ?_ _ | refine blk_drew ?_ | refine blk_alloc ?_ _)); exact BK402.out)) : gb406 ≠ gb402)); clear BK402; clear HB; have BK402 := n0_; have HB := n1_; have BK406 := n2_; have GW406 := n3_; have GE406 := n4_; have NB402_406 := n5_; have NB406_402 := n6_; clear n0_ n1_ n2_ n3_ n4_ n5_ n6_; clear hb hbox hg; have hnb77 := NB406_402.out; have hnc77 := NB402_406.out; have hcz78_0 : w76.cell? ⟨gb406, 0, none⟩ = some (.string (⟨#[]⟩ : ByteArray)) := (blk_cell BK406.out 0).trans rfl; have hcz78_1 : w76.cell? ⟨gb406, 1, none⟩ = some (.int .i64 0) := (blk_cell BK406.out 1).trans rfl; have hcz78_2 : w76.cell? ⟨gb406, 2, none⟩ = some (.int .i64 0) := (blk_cell BK406.out 2).trans rfl; have hcz78_3 : w76.cell? ⟨gb406, 3, none⟩ = some (.int .i64 0) := (blk_cell BK406.out 3).trans rfl; have hfz78_0 := blk_frozen BK406.out 0; have hfz78_1 := blk_frozen BK406.out 1; have hfz78_2 := blk_frozen BK406.out 2; have hfz78_3 := blk_frozen BK406.out 3; have hcz79_0 : w76.cell? ⟨gb402, 0, none⟩ = some (.string a0_0) := (blk_cell BK402.out 0).trans rfl; have hcz79_1 : w76.cell? ⟨gb402, 1, none⟩ = some (.int .i64 a0_1) := (blk_cell BK402.out 1).trans rfl; have hcz79_2 : w76.cell? ⟨gb402, 2, none⟩ = some (.int .i64 a0_2) := (blk_cell BK402.out 2).trans rfl; have hcz79_3 : w76.cell? ⟨gb402, 3, none⟩ = some (.int .i64 a0_3) := (blk_cell BK402.out 3).trans rfl; have hfz79_0 := blk_frozen BK402.out 0; have hfz79_1 := blk_frozen BK402.out 1; have hfz79_2 := blk_frozen BK402.out 2; have hfz79_3 := blk_frozen BK402.out 3) | ((with_reducible refine gate_callee (f := 46) rfl ?_); refine goesL_ (some 50) rfl rfl Try.func46 (by kernel_rfl) rfl #[.string a0_0, .int .i64 a1, .int .u8 a2] rfl (by (try simp only [List.map_toArray, List.map_cons, List.map_nil]); first | done | rfl | (simp only [List.length_drop, List.length_take]; rfl)) ?_; (with_reducible refine (board_Put.calls a0_0 a1 a2 t407 _ A38.out).mono ?_); rintro e w80 ⟨rfl, hb⟩; refine ⟨_, rfl, ?_⟩; have n0_ := Aside0.mk (blk_below (g := gb402) (o := .cells #[.string a0_0, .int .i64 a0_1, .int .i64 a0_2, .int .i64 a0_3] 29 (0, 0)) (by (with_reducible repeat (first | refine blk_drewN ?_ _ | refine blk_drew ?_ | refine blk_alloc ?_ _)); refine blk_far ?_ NB402_406.out _; (with_reducible repeat (first | refine blk_drewN ?_ _ | refine blk_drew ?_ | refine blk_alloc ?_ _)); refine blk_far ?_ NB402_406.out _; (with_reducible repeat (first | refine blk_drewN ?_ _ | refine blk_drew ?_ | refine blk_alloc ?_ _)); refine blk_far ?_ NB402_406.out _; (with_reducible repeat (first | refine blk_drewN ?_ _ | refine blk_drew ?_ | refine blk_alloc ?_ _)); refine blk_far ?_ NB402_406.out _; (with_reducible repeat (first | refine blk_drewN ?_ _ | refine blk_drew ?_ | refine blk_alloc ?_ _)); exact BK402.out) hb); have n1_ := Aside0.mk (blk_below (g := gb406) (o := .cells #[.string a0_0, .int .i64 a0_1, .int .i64 a0_2, .int .i64 a0_3] 29 (0, 0)) (by (with_reducible repeat (first | refine blk_drewN ?_ _ | refine blk_drew ?_ | refine blk_alloc ?_ _)); refine blk_put (cs := #[.string a0_0, .int .i64 a0_1, .int .i64 a0_2, .int .i64 0]) ?_ 3 _ rfl; (with_reducible repeat (first | refine blk_drewN ?_ _ | refine blk_drew ?_ | refine blk_alloc ?_ _)); refine blk_put (cs := #[.string a0_0, .int .i64 a0_1, .int .i64 0, .int .i64 0]) ?_ 2 _ rfl; (with_reducible repeat (first | refine blk_drewN ?_ _ | refine blk_drew ?_ | refine blk_alloc ?_ _)); refine blk_put (cs := #[.string a0_0, .int .i64 0, .int .i64 0, .int .i64 0]) ?_ 1 _ rfl; (with_reducible repeat (first | refine blk_drewN ?_ _ | refine blk_drew ?_ | refine blk_alloc ?_ _)); refine blk_put (cs := #[.string (⟨#[]⟩ : ByteArray), .int .i64 0, .int .i64 0, .int .i64 0]) ?_ 0 _ rfl; (with_reducible repeat (first | refine blk_drewN ?_ _ | refine blk_drew ?_ | refine blk_alloc ?_ _)); exact BK406.out) hb); have n2_ := Aside0.mk (below_step (by repeat (first | (with_reducible first | exact HB.out | apply below_alloc | apply pw_below_drewN | apply below_drew1 | refine below_set ?_ GE402.out | refine below_set ?_ GE406.out) | exact HB.out)) hb); clear BK402; clear BK406; clear HB; have BK402 := n0_; have BK406 := n1_; have HB := n2_; clear n0_ n1_ n2_; (try clear hb); (try clear hb2); (try clear hk); (try clear hi); have hcz81_0 : w80.cell? ⟨gb406, 0, none⟩ = some (.string a0_0) := (blk_cell BK406.out 0).trans rfl; have hcz81_1 : w80.cell? ⟨gb406, 1, none⟩ = some (.int .i64 a0_1) := (blk_cell BK406.out 1).trans rfl; have hcz81_2 : w80.cell? ⟨gb406, 2, none⟩ = some (.int .i64 a0_2) := (blk_cell BK406.out 2).trans rfl; have hcz81_3 : w80.cell? ⟨gb406, 3, none⟩ = some (.int .i64 a0_3) := (blk_cell BK406.out 3).trans rfl; have hfz81_0 := blk_frozen BK406.out 0; have hfz81_1 := blk_frozen BK406.out 1; have hfz81_2 := blk_frozen BK406.out 2; have hfz81_3 := blk_frozen BK406.out 3) | ((with_reducible refine gate_callee (f := 34) rfl ?_); refine goesL_ (some 54) rfl rfl Try.func34 (by kernel_rfl) rfl #[.int .u8 a2, .int .i64 a1] rfl (by (try simp only [List.map_toArray, List.map_cons, List.map_nil]); first | done | rfl | (simp only [List.length_drop, List.length_take]; rfl)) ?_; (with_reducible refine (value_Piece.calls kj3 a2 a1 t408 _ A39.out).mono ?_); rintro e w82 ⟨rfl, hb⟩; refine ⟨_, rfl, ?_⟩; have n0_ := Aside0.mk (blk_below (g := gb402) (o := .cells #[.string a0_0, .int .i64 a0_1, .int .i64 a0_2, .int .i64 a0_3] 29 (0, 0)) (by (with_reducible repeat (first | refine blk_drewN ?_ _ | refine blk_drew ?_ | refine blk_alloc ?_ _)); refine blk_far ?_ NB402_406.out _; (with_reducible repeat (first | refine blk_drewN ?_ _ | refine blk_drew ?_ | refine blk_alloc ?_ _)); exact BK402.out) hb); have n1_ := Aside0.mk (blk_below (g := gb406) (o := .cells #[.string t407, .int .i64 a0_1, .int .i64 a0_2, .int .i64 a0_3] 29 (0, 0)) (by (with_reducible repeat (first | refine blk_drewN ?_ _ | refine blk_drew ?_ | refine blk_alloc ?_ _)); refine blk_put (cs := #[.string a0_0, .int .i64 a0_1, .int .i64 a0_2, .int .i64 a0_3]) ?_ 0 _ rfl; (with_reducible repeat (first | refine blk_drewN ?_ _ | refine blk_drew ?_ | refine blk_alloc ?_ _)); exact BK406.out) hb); have n2_ := Aside0.mk (below_step (by repeat (first | (with_reducible first | exact HB.out | apply below_alloc | apply pw_below_drewN | apply below_drew1 | refine below_set ?_ GE402.out | refine below_set ?_ GE406.out) | exact HB.out)) hb); clear BK402; clear BK406; clear HB; have BK402 := n0_; have BK406 := n1_; have HB := n2_; clear n0_ n1_ n2_; (try clear hb); (try clear hb2); (try clear hk); (try clear hi)))
            have n0_ := Aside0.mk (blk_drew BK402.out)
            have n1_ := Aside0.mk (blk_drew BK406.out)
            have n2_ := Aside0.mk (below_drew1 HB.out)
            clear BK402
            clear BK406
            clear HB
            have BK402 := n0_
            have BK406 := n1_
            have HB := n2_
            clear n0_ n1_ n2_
            refine start_ (n := 5) (S := fun w' => w'.cell? ⟨gb402, 0, none⟩ = some (.string a0_0) ∧ w'.cell? ⟨gb402, 1, none⟩ = some (.int .i64 a0_1) ∧ w'.cell? ⟨gb402, 2, none⟩ = some (.int .i64 a0_2) ∧ w'.cell? ⟨gb402, 3, none⟩ = some (.int .i64 a0_3)) (ds := []) #[false, false, false, false, false] (by kernel_rfl) rfl rfl ⟨(blk_cell BK402.out 0).trans rfl, (blk_cell BK402.out 1).trans rfl, (blk_cell BK402.out 2).trans rfl, (blk_cell BK402.out 3).trans rfl⟩ (fun hHeld => ?_)
            generalize w82.drew = w83 at BK402 BK406 HB hHeld ⊢
            refine pure_ (i := 0) (N := some 55) (v := ?_) (a' := ?_) #[true, false, false, false, false] rfl rfl (by kernel_rfl) (fun _ _ _ h => h) (Or.inl ⟨by rfl, ?_⟩) ?_ ?_
            rotate_left
            · intro w'
              go_simp
              with_reducible rfl
            rotate_left
            · simp only [Act.put, List.setIfInBounds_toArray, List.set_cons_zero, List.set_cons_succ, i64_w, i32_w]
              rfl
            refine pure_ (i := 2) (N := some 57) (v := ?_) (a' := ?_) #[true, false, true, false, false] rfl rfl (by kernel_rfl) (fun _ _ _ h => h) (Or.inl ⟨by rfl, ?_⟩) ?_ ?_
            rotate_left
            · intro w'
              go_simp
              with_reducible rfl
            rotate_left
            · simp only [Act.put, List.setIfInBounds_toArray, List.set_cons_zero, List.set_cons_succ, i64_w, i32_w]
              rfl
            refine take_ (i := 3) (N := some 58) (v := ?_) (a' := ?_) #[true, false, true, true, false] rfl rfl (by kernel_rfl) (fun _ _ _ h => h) (Or.inl ⟨by rfl, ?_⟩) hHeld ?_ ?_
            rotate_left
            · rintro w' ⟨s0, s1, s2, s3⟩
              go_simp
              with_reducible rfl
            rotate_left
            · simp only [Act.put, List.setIfInBounds_toArray, List.set_cons_zero, List.set_cons_succ, i64_w, i32_w]
              rfl
            refine one_ (i := 1) (N := some 56) #[true, true, true, true, false] rfl rfl (by kernel_rfl) (by decide) (fun K hK => ?_)
            refine goes_ Try.func43 (by kernel_rfl) rfl #[.int .u8 a2] (by rfl) rfl rfl (by (try simp only [List.map_toArray, List.map_cons, List.map_nil]); first | done | rfl | (simp only [List.length_drop, List.length_take]; rfl)) ?_
            with_reducible refine (board_Side.calls a2 t409 _ A40.out).mono ?_
            rintro e w' ⟨rfl, ⟨nd, rfl⟩⟩
            refine ⟨_, rfl, ?_⟩
            refine hK.out _ _ ⟨(blk_cell BK402.out 0).trans rfl, (blk_cell BK402.out 1).trans rfl, (blk_cell BK402.out 2).trans rfl, (blk_cell BK402.out 3).trans rfl⟩ (fun hHeld => ?_)
            clear hK K
            refine norm_ (a' := ?_) ?_ ?_
            rotate_left
            · show Act.put _ (some 56) _ = _
              simp only [Act.put, List.setIfInBounds_toArray, List.set_cons_zero, List.set_cons_succ, i64_w, i32_w]
              rfl
            refine pure_ (i := 4) (N := some 59) (v := ?_) (a' := ?_) #[true, true, true, true, true] rfl rfl (by kernel_rfl) (fun _ _ _ h => h) (Or.inl ⟨by rfl, ?_⟩) ?_ ?_
            rotate_left
            · intro w'
              go_simp
              with_reducible rfl
            rotate_left
            · simp only [Act.put, List.setIfInBounds_toArray, List.set_cons_zero, List.set_cons_succ, i64_w, i32_w]
              rfl
            refine done_ (by kernel_rfl) ?_
            try go_wp2
            (try (rw [drewN_self w83]; generalize hq_ : World.drewN w83 _ = w83; have n0_ : Aside0 (w83.heap[gb402]? = some (.cells #[.string a0_0, .int .i64 a0_1, .int .i64 a0_2, .int .i64 a0_3] 29 (0, 0))) := ⟨by rw [← hq_]; exact (by (with_reducible repeat (first | refine blk_drewN ?_ _ | refine blk_drew ?_ | refine blk_alloc ?_ _)); exact BK402.out)⟩; have n1_ : Aside0 (w83.heap[gb406]? = some (.cells #[.string t407, .int .i64 a0_1, .int .i64 a0_2, .int .i64 a0_3] 29 (0, 0))) := ⟨by rw [← hq_]; exact (by (with_reducible repeat (first | refine blk_drewN ?_ _ | refine blk_drew ?_ | refine blk_alloc ?_ _)); exact BK406.out)⟩; have n2_ : Aside0 (Below w.heap.size w w83) := ⟨by rw [← hq_]; exact (by repeat (first | (with_reducible first | exact HB.out | apply below_alloc | apply pw_below_drewN | apply below_drew1 | refine below_set ?_ GE402.out | refine below_set ?_ GE406.out) | exact HB.out))⟩; clear BK402 BK406 HB hq_; have BK402 := n0_; have BK406 := n1_; have HB := n2_; clear n0_ n1_ n2_))
            have n0_ := Aside0.mk (blk_drew BK402.out)
            have n1_ := Aside0.mk (blk_drew BK406.out)
            have n2_ := Aside0.mk (below_drew1 HB.out)
            clear BK402
            clear BK406
            clear HB
            have BK402 := n0_
            have BK406 := n1_
            have HB := n2_
            clear n0_ n1_ n2_
            refine start_ (n := 11) (S := fun w' => w'.cell? ⟨gb406, 0, none⟩ = some (.string t407) ∧ w'.cell? ⟨gb406, 1, none⟩ = some (.int .i64 a0_1) ∧ w'.cell? ⟨gb406, 2, none⟩ = some (.int .i64 a0_2) ∧ w'.cell? ⟨gb406, 3, none⟩ = some (.int .i64 a0_3) ∧ w'.cell? ⟨gb402, 0, none⟩ = some (.string a0_0) ∧ w'.cell? ⟨gb402, 1, none⟩ = some (.int .i64 a0_1) ∧ w'.cell? ⟨gb402, 2, none⟩ = some (.int .i64 a0_2) ∧ w'.cell? ⟨gb402, 3, none⟩ = some (.int .i64 a0_3)) (ds := []) #[false, false, false, false, false, false, false, false, false, false, false] (by kernel_rfl) rfl rfl ⟨(blk_cell BK406.out 0).trans rfl, (blk_cell BK406.out 1).trans rfl, (blk_cell BK406.out 2).trans rfl, (blk_cell BK406.out 3).trans rfl, (blk_cell BK402.out 0).trans rfl, (blk_cell BK402.out 1).trans rfl, (blk_cell BK402.out 2).trans rfl, (blk_cell BK402.out 3).trans rfl⟩ (fun hHeld => ?_); refine with_tabW riverbanklaw14_ValueAdds.tab8 riverbanklaw14_ValueAdds.bits8 (fun HT_ HW_ => ?_)
            generalize w83.drew = w84 at BK402 BK406 HB hHeld ⊢
            refine pure_ (i := 4) (N := some 66) (v := ?_) (a' := ?_) #[false, false, false, false, true, false, false, false, false, false, false] rfl rfl (any_of HT_.out (by kernel_rfl)) (fun _ _ _ h => h) (Or.inl ⟨by rfl, ?_⟩) ?_ ?_
            rotate_left
            · intro w'
              go_simp
              with_reducible rfl
            rotate_left
            · simp only [Act.put, List.setIfInBounds_toArray, List.set_cons_zero, List.set_cons_succ, i64_w, i32_w]
              rfl
            refine take_ (i := 0) (N := some 62) (v := ?_) (a' := ?_) #[true, false, false, false, true, false, false, false, false, false, false] rfl rfl (take_ofW HT_.out HW_.out (by kernel_rfl)) (fun _ _ _ h => h) (Or.inl ⟨by rfl, ?_⟩) hHeld ?_ ?_
            rotate_left
            · rintro w' ⟨s0, s1, s2, s3, s4, s5, s6, s7⟩
              go_simp
              with_reducible rfl
            rotate_left
            · simp only [Act.put, List.setIfInBounds_toArray, List.set_cons_zero, List.set_cons_succ, i64_w, i32_w]
              rfl
            refine take_ (i := 2) (N := some 64) (v := ?_) (a' := ?_) #[true, false, true, false, true, false, false, false, false, false, false] rfl rfl (take_ofW HT_.out HW_.out (by kernel_rfl)) (fun _ _ _ h => h) (Or.inl ⟨by rfl, ?_⟩) hHeld ?_ ?_
            rotate_left
            · rintro w' ⟨s0, s1, s2, s3, s4, s5, s6, s7⟩
              go_simp
              with_reducible rfl
            rotate_left
            · simp only [Act.put, List.setIfInBounds_toArray, List.set_cons_zero, List.set_cons_succ, i64_w, i32_w]
              rfl
            refine one_ (i := 1) (N := some 63) #[true, true, true, false, true, false, false, false, false, false, false] rfl rfl (one_of HT_.out (by kernel_rfl)) (by decide) (fun K hK => ?_)
            refine goes_ Try.func37 (by kernel_rfl) rfl #[.agg #[.string t407, .int .i64 a0_1, .int .i64 a0_2, .int .i64 a0_3]] (by rfl) rfl rfl (by (try simp only [List.map_toArray, List.map_cons, List.map_nil]); first | done | rfl | (simp only [List.length_drop, List.length_take]; rfl)) ?_
            with_reducible refine (value_Of.calls t407 a0_1 a0_2 a0_3 t413 _ A71.out).mono ?_
            rintro e w85 ⟨rfl, hb⟩
            refine ⟨_, rfl, ?_⟩
            have n0_ := Aside0.mk (blk_below (g := gb402) (o := .cells #[.string a0_0, .int .i64 a0_1, .int .i64 a0_2, .int .i64 a0_3] 29 (0, 0)) (by (with_reducible repeat (first | refine blk_drewN ?_ _ | refine blk_drew ?_ | refine blk_alloc ?_ _)); exact BK402.out) hb)
            have n1_ := Aside0.mk (blk_below (g := gb406) (o := .cells #[.string t407, .int .i64 a0_1, .int .i64 a0_2, .int .i64 a0_3] 29 (0, 0)) (by (with_reducible repeat (first | refine blk_drewN ?_ _ | refine blk_drew ?_ | refine blk_alloc ?_ _)); exact BK406.out) hb)
            have n2_ := Aside0.mk (below_step (by repeat (first | (with_reducible first | exact HB.out | apply below_alloc | apply pw_below_drewN | apply below_drew1 | refine below_set ?_ GE402.out | refine below_set ?_ GE406.out) | exact HB.out)) hb)
            clear BK402
            clear BK406
            clear HB
            have BK402 := n0_
            have BK406 := n1_
            have HB := n2_
            clear n0_ n1_ n2_
            (try clear hb)
            (try clear hb2)
            (try clear hk)
            (try clear hi)
            refine hK.out _ _ ⟨(blk_cell BK406.out 0).trans rfl, (blk_cell BK406.out 1).trans rfl, (blk_cell BK406.out 2).trans rfl, (blk_cell BK406.out 3).trans rfl, (blk_cell BK402.out 0).trans rfl, (blk_cell BK402.out 1).trans rfl, (blk_cell BK402.out 2).trans rfl, (blk_cell BK402.out 3).trans rfl⟩ (fun hHeld => ?_)
            clear hK K
            refine norm_ (a' := ?_) ?_ ?_
            rotate_left
            · show Act.put _ (some 63) _ = _
              simp only [Act.put, List.setIfInBounds_toArray, List.set_cons_zero, List.set_cons_succ, i64_w, i32_w]
              rfl
            refine one_ (i := 3) (N := some 65) #[true, true, true, true, true, false, false, false, false, false, false] rfl rfl (one_of HT_.out (by kernel_rfl)) (by decide) (fun K hK => ?_)
            refine goes_ Try.func37 (by kernel_rfl) rfl #[.agg #[.string a0_0, .int .i64 a0_1, .int .i64 a0_2, .int .i64 a0_3]] (by rfl) rfl rfl (by (try simp only [List.map_toArray, List.map_cons, List.map_nil]); first | done | rfl | (simp only [List.length_drop, List.length_take]; rfl)) ?_
            with_reducible refine (value_Of.calls a0_0 a0_1 a0_2 a0_3 t414 _ A72.out).mono ?_
            rintro e w86 ⟨rfl, hb⟩
            refine ⟨_, rfl, ?_⟩
            have n0_ := Aside0.mk (blk_below (g := gb402) (o := .cells #[.string a0_0, .int .i64 a0_1, .int .i64 a0_2, .int .i64 a0_3] 29 (0, 0)) (by (with_reducible repeat (first | refine blk_drewN ?_ _ | refine blk_drew ?_ | refine blk_alloc ?_ _)); exact BK402.out) hb)
            have n1_ := Aside0.mk (blk_below (g := gb406) (o := .cells #[.string t407, .int .i64 a0_1, .int .i64 a0_2, .int .i64 a0_3] 29 (0, 0)) (by (with_reducible repeat (first | refine blk_drewN ?_ _ | refine blk_drew ?_ | refine blk_alloc ?_ _)); exact BK406.out) hb)
            have n2_ := Aside0.mk (below_step (by repeat (first | (with_reducible first | exact HB.out | apply below_alloc | apply pw_below_drewN | apply below_drew1 | refine below_set ?_ GE402.out | refine below_set ?_ GE406.out) | exact HB.out)) hb)
            clear BK402
            clear BK406
            clear HB
            have BK402 := n0_
            have BK406 := n1_
            have HB := n2_
            clear n0_ n1_ n2_
            (try clear hb)
            (try clear hb2)
            (try clear hk)
            (try clear hi)
            refine hK.out _ _ ⟨(blk_cell BK406.out 0).trans rfl, (blk_cell BK406.out 1).trans rfl, (blk_cell BK406.out 2).trans rfl, (blk_cell BK406.out 3).trans rfl, (blk_cell BK402.out 0).trans rfl, (blk_cell BK402.out 1).trans rfl, (blk_cell BK402.out 2).trans rfl, (blk_cell BK402.out 3).trans rfl⟩ (fun hHeld => ?_)
            clear hK K
            refine norm_ (a' := ?_) ?_ ?_
            rotate_left
            · show Act.put _ (some 65) _ = _
              simp only [Act.put, List.setIfInBounds_toArray, List.set_cons_zero, List.set_cons_succ, i64_w, i32_w]
              rfl
            refine pure_ (i := 5) (N := some 67) (v := ?_) (a' := ?_) #[true, true, true, true, true, true, false, false, false, false, false] rfl rfl (any_of HT_.out (by kernel_rfl)) (fun _ _ _ h => h) (Or.inl ⟨by rfl, ?_⟩) ?_ ?_
            rotate_left
            · intro w'
              go_simp
              with_reducible rfl
            rotate_left
            · simp only [Act.put, List.setIfInBounds_toArray, List.set_cons_zero, List.set_cons_succ, i64_w, i32_w]
              rfl
            refine pure_ (i := 6) (N := some 68) (v := ?_) (a' := ?_) #[true, true, true, true, true, true, true, false, false, false, false] rfl rfl (any_of HT_.out (by kernel_rfl)) (fun _ _ _ h => h) (Or.inl ⟨by rfl, ?_⟩) ?_ ?_
            rotate_left
            · intro w'
              go_simp
              with_reducible rfl
            rotate_left
            · simp only [Act.put, List.setIfInBounds_toArray, List.set_cons_zero, List.set_cons_succ, i64_w, i32_w]
              rfl
            refine pure_ (i := 7) (N := some 69) (v := ?_) (a' := ?_) #[true, true, true, true, true, true, true, true, false, false, false] rfl rfl (any_of HT_.out (by kernel_rfl)) (fun _ _ _ h => h) (Or.inl ⟨by rfl, ?_⟩) ?_ ?_
            rotate_left
            · intro w'
              go_simp
              with_reducible rfl
            rotate_left
            · simp only [Act.put, List.setIfInBounds_toArray, List.set_cons_zero, List.set_cons_succ, i64_w, i32_w]
              rfl
            refine one_ (i := 8) (N := some 70) #[true, true, true, true, true, true, true, true, true, false, false] rfl rfl (one_of HT_.out (by kernel_rfl)) (by decide) (fun K hK => ?_)
            refine goes_ Try.func36 (by kernel_rfl) rfl #[] (by rfl) rfl rfl (by (try simp only [List.map_toArray, List.map_cons, List.map_nil]); first | done | rfl | (simp only [List.length_drop, List.length_take]; rfl)) ?_
            with_reducible refine (riverbanklaw14_live.calls  t415 _ A74.out).mono ?_
            rintro e w87 ⟨rfl, hb⟩
            refine ⟨_, rfl, ?_⟩
            have n0_ := Aside0.mk (blk_below (g := gb402) (o := .cells #[.string a0_0, .int .i64 a0_1, .int .i64 a0_2, .int .i64 a0_3] 29 (0, 0)) (by (with_reducible repeat (first | refine blk_drewN ?_ _ | refine blk_drew ?_ | refine blk_alloc ?_ _)); exact BK402.out) hb)
            have n1_ := Aside0.mk (blk_below (g := gb406) (o := .cells #[.string t407, .int .i64 a0_1, .int .i64 a0_2, .int .i64 a0_3] 29 (0, 0)) (by (with_reducible repeat (first | refine blk_drewN ?_ _ | refine blk_drew ?_ | refine blk_alloc ?_ _)); exact BK406.out) hb)
            have n2_ := Aside0.mk (below_step (by repeat (first | (with_reducible first | exact HB.out | apply below_alloc | apply pw_below_drewN | apply below_drew1 | refine below_set ?_ GE402.out | refine below_set ?_ GE406.out) | exact HB.out)) hb)
            clear BK402
            clear BK406
            clear HB
            have BK402 := n0_
            have BK406 := n1_
            have HB := n2_
            clear n0_ n1_ n2_
            (try clear hb)
            (try clear hb2)
            (try clear hk)
            (try clear hi)
            refine hK.out _ _ ⟨(blk_cell BK406.out 0).trans rfl, (blk_cell BK406.out 1).trans rfl, (blk_cell BK406.out 2).trans rfl, (blk_cell BK406.out 3).trans rfl, (blk_cell BK402.out 0).trans rfl, (blk_cell BK402.out 1).trans rfl, (blk_cell BK402.out 2).trans rfl, (blk_cell BK402.out 3).trans rfl⟩ (fun hHeld => ?_)
            clear hK K
            refine norm_ (a' := ?_) ?_ ?_
            rotate_left
            · show Act.put _ (some 70) _ = _
              simp only [Act.put, List.setIfInBounds_toArray, List.set_cons_zero, List.set_cons_succ, i64_w, i32_w]
              rfl
            refine pure_ (i := 9) (N := some 71) (v := ?_) (a' := ?_) #[true, true, true, true, true, true, true, true, true, true, false] rfl rfl (any_of HT_.out (by kernel_rfl)) (fun _ _ _ h => h) (Or.inl ⟨by rfl, ?_⟩) ?_ ?_
            rotate_left
            · intro w'
              go_simp
              with_reducible rfl
            rotate_left
            · simp only [Act.put, List.setIfInBounds_toArray, List.set_cons_zero, List.set_cons_succ, i64_w, i32_w]
              rfl
            refine pure_ (i := 10) (N := some 6) (v := ?_) (a' := ?_) #[true, true, true, true, true, true, true, true, true, true, true] rfl rfl (any_of HT_.out (by kernel_rfl)) (fun _ _ _ h => h) (Or.inl ⟨by rfl, ?_⟩) ?_ ?_
            rotate_left
            · intro w'
              go_simp
              with_reducible rfl
            rotate_left
            · simp only [Act.put, List.setIfInBounds_toArray, List.set_cons_zero, List.set_cons_succ, i64_w, i32_w]
              rfl
            refine done_ (done_of HT_.out (by kernel_rfl)) ?_
            try go_wp2
            go_ret
            exact ⟨by first | rfl | (simp [errW_none, errW_some] <;> rfl) | (simp [*, errW_none, errW_some] <;> rfl), by repeat (first | (with_reducible first | exact HB.out | apply below_alloc | apply pw_below_drewN | apply below_drew1 | refine below_set ?_ GE402.out | refine below_set ?_ GE406.out) | exact HB.out)⟩
          · rw [if_neg c73] at H
            have c73b0 : (t413 == (wrap64 (t414 + (wrap64 (-t408))))) = false := beq_eq_false_iff_ne.mpr c73
            have c73b1 : (t413 != (wrap64 (t414 + (wrap64 (-t408))))) = true := bne_iff_ne.mpr c73
            obtain rfl := Option.some.inj H
            have hcz88_0 : wc.cell? ⟨gb402, 0, none⟩ = some (.string a0_0) := (blk_cell BK402.out 0).trans rfl
            have hcz88_1 : wc.cell? ⟨gb402, 1, none⟩ = some (.int .i64 a0_1) := (blk_cell BK402.out 1).trans rfl
            have hcz88_2 : wc.cell? ⟨gb402, 2, none⟩ = some (.int .i64 a0_2) := (blk_cell BK402.out 2).trans rfl
            have hcz88_3 : wc.cell? ⟨gb402, 3, none⟩ = some (.int .i64 a0_3) := (blk_cell BK402.out 3).trans rfl
            have hfz88_0 := blk_frozen BK402.out 0
            have hfz88_1 := blk_frozen BK402.out 1
            have hfz88_2 := blk_frozen BK402.out 2
            have hfz88_3 := blk_frozen BK402.out 3
            try go_wp2_with (first | ((with_reducible refine gate_dst (N := 7) rfl ?_); refine box_event ?hg (N := 7) ?hd (cs := #[.string (⟨#[]⟩ : ByteArray), .int .i64 0, .int .i64 0, .int .i64 0]) (t := 29) ?hr ?_; (case hd => rfl); (case hg => rfl); (case hr => first | (go_simp; done) | (go_simp; rfl)); intro gb406 hg w89 hbox hb; have n0_ := Aside0.mk (blk_below (g := gb402) (o := .cells #[.string a0_0, .int .i64 a0_1, .int .i64 a0_2, .int .i64 a0_3] 29 (0, 0)) (by (with_reducible repeat (first | refine blk_drewN ?_ _ | refine blk_drew ?_ | refine blk_alloc ?_ _)); exact BK402.out) hb); have n1_ := Aside0.mk (below_step (by repeat (first | (with_reducible first | exact HB.out | apply below_alloc | apply pw_below_drewN | apply below_drew1 | refine below_set ?_ GE402.out) | exact HB.out)) hb); have n2_ := Aside0.mk (hbox); have n3_ := Aside0.mk ((by rw [hg]; exact (below_size (by repeat (first | (with_reducible first | exact HB.out | apply below_alloc | apply pw_below_drewN | apply below_drew1 | refine below_set ?_ GE402.out) | exact HB.out))) : w.heap.size ≤ gb406)); have n4_ := Aside0.mk ((by rw [hg]; exact (below_size (by repeat (first | (with_reducible first | exact HB.out | apply below_alloc | apply pw_below_drewN | apply below_drew1 | refine below_set ?_ GE402.out) | exact HB.out))) : w.heap.size ≤ gb406)); have n5_ := Aside0.mk ((by rw [hg]; exact Nat.ne_of_lt (blk_lt (g := gb402) (o := .cells #[.string a0_0, .int .i64 a0_1, .int .i64 a0_2, .int .i64 a0_3] 29 (0, 0)) (by (with_reducible repeat (first | refine blk_drewN ?_ _ | refine blk_drew ?_ | refine blk_alloc ?_ _)); exact BK402.out)) : gb402 ≠ gb406)); have n6_ := Aside0.mk ((by rw [hg]; exact Nat.ne_of_gt (blk_lt (g := gb402) (o := .cells #[.string a0_0, .int .i64 a0_1, .int .i64 a0_2, .int .i64 a0_3] 29 (0, 0)) (by (with_reducible repeat (first | refine blk_drewN ?_ _ | refine blk_drew ?_ | refine blk_alloc ?_ _)); exact BK402.out)) : gb406 ≠ gb402)); clear BK402; clear HB; have BK402 := n0_; have HB := n1_; have BK406 := n2_; have GW406 := n3_; have GE406 := n4_; have NB402_406 := n5_; have NB406_402 := n6_; clear n0_ n1_ n2_ n3_ n4_ n5_ n6_; clear hb hbox hg; have hnb90 := NB406_402.out; have hnc90 := NB402_406.out; have hcz91_0 : w89.cell? ⟨gb406, 0, none⟩ = some (.string (⟨#[]⟩ : ByteArray)) := (blk_cell BK406.out 0).trans rfl; have hcz91_1 : w89.cell? ⟨gb406, 1, none⟩ = some (.int .i64 0) := (blk_cell BK406.out 1).trans rfl; have hcz91_2 : w89.cell? ⟨gb406, 2, none⟩ = some (.int .i64 0) := (blk_cell BK406.out 2).trans rfl; have hcz91_3 : w89.cell? ⟨gb406, 3, none⟩ = some (.int .i64 0) := (blk_cell BK406.out 3).trans rfl; have hfz91_0 := blk_frozen BK406.out 0; have hfz91_1 := blk_frozen BK406.out 1; have hfz91_2 := blk_frozen BK406.out 2; have hfz91_3 := blk_frozen BK406.out 3; have hcz92_0 : w89.cell? ⟨gb402, 0, none⟩ = some (.string a0_0) := (blk_cell BK402.out 0).trans rfl; have hcz92_1 : w89.cell? ⟨gb402, 1, none⟩ = some (.int .i64 a0_1) := (blk_cell BK402.out 1).trans rfl; have hcz92_2 : w89.cell? ⟨gb402, 2, none⟩ = some (.int .i64 a0_2) := (blk_cell BK402.out 2).trans rfl; have hcz92_3 : w89.cell? ⟨gb402, 3, none⟩ = some (.int .i64 a0_3) := (blk_cell BK402.out 3).trans rfl; have hfz92_0 := blk_frozen BK402.out 0; have hfz92_1 := blk_frozen BK402.out 1; have hfz92_2 := blk_frozen BK402.out 2; have hfz92_3 := blk_frozen BK402.out 3) | ((with_reducible refine gate_callee (f := 46) rfl ?_); refine goesL_ (some 50) rfl rfl Try.func46 (by kernel_rfl) rfl #[.string a0_0, .int .i64 a1, .int .u8 a2] rfl (by (try simp only [List.map_toArray, List.map_cons, List.map_nil]); first | done | rfl | (simp only [List.length_drop, List.length_take]; rfl)) ?_; (with_reducible refine (board_Put.calls a0_0 a1 a2 t407 _ A38.out).mono ?_); rintro e w93 ⟨rfl, hb⟩; refine ⟨_, rfl, ?_⟩; have n0_ := Aside0.mk (blk_below (g := gb402) (o := .cells #[.string a0_0, .int .i64 a0_1, .int .i64 a0_2, .int .i64 a0_3] 29 (0, 0)) (by (with_reducible repeat (first | refine blk_drewN ?_ _ | refine blk_drew ?_ | refine blk_alloc ?_ _)); refine blk_far ?_ NB402_406.out _; (with_reducible repeat (first | refine blk_drewN ?_ _ | refine blk_drew ?_ | refine blk_alloc ?_ _)); refine blk_far ?_ NB402_406.out _; (with_reducible repeat (first | refine blk_drewN ?_ _ | refine blk_drew ?_ | refine blk_alloc ?_ _)); refine blk_far ?_ NB402_406.out _; (with_reducible repeat (first | refine blk_drewN ?_ _ | refine blk_drew ?_ | refine blk_alloc ?_ _)); refine blk_far ?_ NB402_406.out _; (with_reducible repeat (first | refine blk_drewN ?_ _ | refine blk_drew ?_ | refine blk_alloc ?_ _)); exact BK402.out) hb); have n1_ := Aside0.mk (blk_below (g := gb406) (o := .cells #[.string a0_0, .int .i64 a0_1, .int .i64 a0_2, .int .i64 a0_3] 29 (0, 0)) (by (with_reducible repeat (first | refine blk_drewN ?_ _ | refine blk_drew ?_ | refine blk_alloc ?_ _)); refine blk_put (cs := #[.string a0_0, .int .i64 a0_1, .int .i64 a0_2, .int .i64 0]) ?_ 3 _ rfl; (with_reducible repeat (first | refine blk_drewN ?_ _ | refine blk_drew ?_ | refine blk_alloc ?_ _)); refine blk_put (cs := #[.string a0_0, .int .i64 a0_1, .int .i64 0, .int .i64 0]) ?_ 2 _ rfl; (with_reducible repeat (first | refine blk_drewN ?_ _ | refine blk_drew ?_ | refine blk_alloc ?_ _)); refine blk_put (cs := #[.string a0_0, .int .i64 0, .int .i64 0, .int .i64 0]) ?_ 1 _ rfl; (with_reducible repeat (first | refine blk_drewN ?_ _ | refine blk_drew ?_ | refine blk_alloc ?_ _)); refine blk_put (cs := #[.string (⟨#[]⟩ : ByteArray), .int .i64 0, .int .i64 0, .int .i64 0]) ?_ 0 _ rfl; (with_reducible repeat (first | refine blk_drewN ?_ _ | refine blk_drew ?_ | refine blk_alloc ?_ _)); exact BK406.out) hb); have n2_ := Aside0.mk (below_step (by repeat (first | (with_reducible first | exact HB.out | apply below_alloc | apply pw_below_drewN | apply below_drew1 | refine below_set ?_ GE402.out | refine below_set ?_ GE406.out) | exact HB.out)) hb); clear BK402; clear BK406; clear HB; have BK402 := n0_; have BK406 := n1_; have HB := n2_; clear n0_ n1_ n2_; (try clear hb); (try clear hb2); (try clear hk); (try clear hi); have hcz94_0 : w93.cell? ⟨gb406, 0, none⟩ = some (.string a0_0) := (blk_cell BK406.out 0).trans rfl; have hcz94_1 : w93.cell? ⟨gb406, 1, none⟩ = some (.int .i64 a0_1) := (blk_cell BK406.out 1).trans rfl; have hcz94_2 : w93.cell? ⟨gb406, 2, none⟩ = some (.int .i64 a0_2) := (blk_cell BK406.out 2).trans rfl; have hcz94_3 : w93.cell? ⟨gb406, 3, none⟩ = some (.int .i64 a0_3) := (blk_cell BK406.out 3).trans rfl; have hfz94_0 := blk_frozen BK406.out 0; have hfz94_1 := blk_frozen BK406.out 1; have hfz94_2 := blk_frozen BK406.out 2; have hfz94_3 := blk_frozen BK406.out 3) | ((with_reducible refine gate_callee (f := 34) rfl ?_); refine goesL_ (some 54) rfl rfl Try.func34 (by kernel_rfl) rfl #[.int .u8 a2, .int .i64 a1] rfl (by (try simp only [List.map_toArray, List.map_cons, List.map_nil]); first | done | rfl | (simp only [List.length_drop, List.length_take]; rfl)) ?_; (with_reducible refine (value_Piece.calls kj3 a2 a1 t408 _ A39.out).mono ?_); rintro e w95 ⟨rfl, hb⟩; refine ⟨_, rfl, ?_⟩; have n0_ := Aside0.mk (blk_below (g := gb402) (o := .cells #[.string a0_0, .int .i64 a0_1, .int .i64 a0_2, .int .i64 a0_3] 29 (0, 0)) (by (with_reducible repeat (first | refine blk_drewN ?_ _ | refine blk_drew ?_ | refine blk_alloc ?_ _)); refine blk_far ?_ NB402_406.out _; (with_reducible repeat (first | refine blk_drewN ?_ _ | refine blk_drew ?_ | refine blk_alloc ?_ _)); exact BK402.out) hb); have n1_ := Aside0.mk (blk_below (g := gb406) (o := .cells #[.string t407, .int .i64 a0_1, .int .i64 a0_2, .int .i64 a0_3] 29 (0, 0)) (by (with_reducible repeat (first | refine blk_drewN ?_ _ | refine blk_drew ?_ | refine blk_alloc ?_ _)); refine blk_put (cs := #[.string a0_0, .int .i64 a0_1, .int .i64 a0_2, .int .i64 a0_3]) ?_ 0 _ rfl; (with_reducible repeat (first | refine blk_drewN ?_ _ | refine blk_drew ?_ | refine blk_alloc ?_ _)); exact BK406.out) hb); have n2_ := Aside0.mk (below_step (by repeat (first | (with_reducible first | exact HB.out | apply below_alloc | apply pw_below_drewN | apply below_drew1 | refine below_set ?_ GE402.out | refine below_set ?_ GE406.out) | exact HB.out)) hb); clear BK402; clear BK406; clear HB; have BK402 := n0_; have BK406 := n1_; have HB := n2_; clear n0_ n1_ n2_; (try clear hb); (try clear hb2); (try clear hk); (try clear hi)))
            have n0_ := Aside0.mk (blk_drew BK402.out)
            have n1_ := Aside0.mk (blk_drew BK406.out)
            have n2_ := Aside0.mk (below_drew1 HB.out)
            clear BK402
            clear BK406
            clear HB
            have BK402 := n0_
            have BK406 := n1_
            have HB := n2_
            clear n0_ n1_ n2_
            refine start_ (n := 5) (S := fun w' => w'.cell? ⟨gb402, 0, none⟩ = some (.string a0_0) ∧ w'.cell? ⟨gb402, 1, none⟩ = some (.int .i64 a0_1) ∧ w'.cell? ⟨gb402, 2, none⟩ = some (.int .i64 a0_2) ∧ w'.cell? ⟨gb402, 3, none⟩ = some (.int .i64 a0_3)) (ds := []) #[false, false, false, false, false] (by kernel_rfl) rfl rfl ⟨(blk_cell BK402.out 0).trans rfl, (blk_cell BK402.out 1).trans rfl, (blk_cell BK402.out 2).trans rfl, (blk_cell BK402.out 3).trans rfl⟩ (fun hHeld => ?_)
            generalize w95.drew = w96 at BK402 BK406 HB hHeld ⊢
            refine pure_ (i := 0) (N := some 55) (v := ?_) (a' := ?_) #[true, false, false, false, false] rfl rfl (by kernel_rfl) (fun _ _ _ h => h) (Or.inl ⟨by rfl, ?_⟩) ?_ ?_
            rotate_left
            · intro w'
              go_simp
              with_reducible rfl
            rotate_left
            · simp only [Act.put, List.setIfInBounds_toArray, List.set_cons_zero, List.set_cons_succ, i64_w, i32_w]
              rfl
            refine pure_ (i := 2) (N := some 57) (v := ?_) (a' := ?_) #[true, false, true, false, false] rfl rfl (by kernel_rfl) (fun _ _ _ h => h) (Or.inl ⟨by rfl, ?_⟩) ?_ ?_
            rotate_left
            · intro w'
              go_simp
              with_reducible rfl
            rotate_left
            · simp only [Act.put, List.setIfInBounds_toArray, List.set_cons_zero, List.set_cons_succ, i64_w, i32_w]
              rfl
            refine take_ (i := 3) (N := some 58) (v := ?_) (a' := ?_) #[true, false, true, true, false] rfl rfl (by kernel_rfl) (fun _ _ _ h => h) (Or.inl ⟨by rfl, ?_⟩) hHeld ?_ ?_
            rotate_left
            · rintro w' ⟨s0, s1, s2, s3⟩
              go_simp
              with_reducible rfl
            rotate_left
            · simp only [Act.put, List.setIfInBounds_toArray, List.set_cons_zero, List.set_cons_succ, i64_w, i32_w]
              rfl
            refine one_ (i := 1) (N := some 56) #[true, true, true, true, false] rfl rfl (by kernel_rfl) (by decide) (fun K hK => ?_)
            refine goes_ Try.func43 (by kernel_rfl) rfl #[.int .u8 a2] (by rfl) rfl rfl (by (try simp only [List.map_toArray, List.map_cons, List.map_nil]); first | done | rfl | (simp only [List.length_drop, List.length_take]; rfl)) ?_
            with_reducible refine (board_Side.calls a2 t409 _ A40.out).mono ?_
            rintro e w' ⟨rfl, ⟨nd, rfl⟩⟩
            refine ⟨_, rfl, ?_⟩
            refine hK.out _ _ ⟨(blk_cell BK402.out 0).trans rfl, (blk_cell BK402.out 1).trans rfl, (blk_cell BK402.out 2).trans rfl, (blk_cell BK402.out 3).trans rfl⟩ (fun hHeld => ?_)
            clear hK K
            refine norm_ (a' := ?_) ?_ ?_
            rotate_left
            · show Act.put _ (some 56) _ = _
              simp only [Act.put, List.setIfInBounds_toArray, List.set_cons_zero, List.set_cons_succ, i64_w, i32_w]
              rfl
            refine pure_ (i := 4) (N := some 59) (v := ?_) (a' := ?_) #[true, true, true, true, true] rfl rfl (by kernel_rfl) (fun _ _ _ h => h) (Or.inl ⟨by rfl, ?_⟩) ?_ ?_
            rotate_left
            · intro w'
              go_simp
              with_reducible rfl
            rotate_left
            · simp only [Act.put, List.setIfInBounds_toArray, List.set_cons_zero, List.set_cons_succ, i64_w, i32_w]
              rfl
            refine done_ (by kernel_rfl) ?_
            try go_wp2
            (try (rw [drewN_self w96]; generalize hq_ : World.drewN w96 _ = w96; have n0_ : Aside0 (w96.heap[gb402]? = some (.cells #[.string a0_0, .int .i64 a0_1, .int .i64 a0_2, .int .i64 a0_3] 29 (0, 0))) := ⟨by rw [← hq_]; exact (by (with_reducible repeat (first | refine blk_drewN ?_ _ | refine blk_drew ?_ | refine blk_alloc ?_ _)); exact BK402.out)⟩; have n1_ : Aside0 (w96.heap[gb406]? = some (.cells #[.string t407, .int .i64 a0_1, .int .i64 a0_2, .int .i64 a0_3] 29 (0, 0))) := ⟨by rw [← hq_]; exact (by (with_reducible repeat (first | refine blk_drewN ?_ _ | refine blk_drew ?_ | refine blk_alloc ?_ _)); exact BK406.out)⟩; have n2_ : Aside0 (Below w.heap.size w w96) := ⟨by rw [← hq_]; exact (by repeat (first | (with_reducible first | exact HB.out | apply below_alloc | apply pw_below_drewN | apply below_drew1 | refine below_set ?_ GE402.out | refine below_set ?_ GE406.out) | exact HB.out))⟩; clear BK402 BK406 HB hq_; have BK402 := n0_; have BK406 := n1_; have HB := n2_; clear n0_ n1_ n2_))
            have n0_ := Aside0.mk (blk_drew BK402.out)
            have n1_ := Aside0.mk (blk_drew BK406.out)
            have n2_ := Aside0.mk (below_drew1 HB.out)
            clear BK402
            clear BK406
            clear HB
            have BK402 := n0_
            have BK406 := n1_
            have HB := n2_
            clear n0_ n1_ n2_
            refine start_ (n := 11) (S := fun w' => w'.cell? ⟨gb406, 0, none⟩ = some (.string t407) ∧ w'.cell? ⟨gb406, 1, none⟩ = some (.int .i64 a0_1) ∧ w'.cell? ⟨gb406, 2, none⟩ = some (.int .i64 a0_2) ∧ w'.cell? ⟨gb406, 3, none⟩ = some (.int .i64 a0_3) ∧ w'.cell? ⟨gb402, 0, none⟩ = some (.string a0_0) ∧ w'.cell? ⟨gb402, 1, none⟩ = some (.int .i64 a0_1) ∧ w'.cell? ⟨gb402, 2, none⟩ = some (.int .i64 a0_2) ∧ w'.cell? ⟨gb402, 3, none⟩ = some (.int .i64 a0_3)) (ds := []) #[false, false, false, false, false, false, false, false, false, false, false] (by kernel_rfl) rfl rfl ⟨(blk_cell BK406.out 0).trans rfl, (blk_cell BK406.out 1).trans rfl, (blk_cell BK406.out 2).trans rfl, (blk_cell BK406.out 3).trans rfl, (blk_cell BK402.out 0).trans rfl, (blk_cell BK402.out 1).trans rfl, (blk_cell BK402.out 2).trans rfl, (blk_cell BK402.out 3).trans rfl⟩ (fun hHeld => ?_); refine with_tabW riverbanklaw14_ValueAdds.tab8 riverbanklaw14_ValueAdds.bits8 (fun HT_ HW_ => ?_)
            generalize w96.drew = w97 at BK402 BK406 HB hHeld ⊢
            refine pure_ (i := 4) (N := some 66) (v := ?_) (a' := ?_) #[false, false, false, false, true, false, false, false, false, false, false] rfl rfl (any_of HT_.out (by kernel_rfl)) (fun _ _ _ h => h) (Or.inl ⟨by rfl, ?_⟩) ?_ ?_
            rotate_left
            · intro w'
              go_simp
              with_reducible rfl
            rotate_left
            · simp only [Act.put, List.setIfInBounds_toArray, List.set_cons_zero, List.set_cons_succ, i64_w, i32_w]
              rfl
            refine take_ (i := 0) (N := some 62) (v := ?_) (a' := ?_) #[true, false, false, false, true, false, false, false, false, false, false] rfl rfl (take_ofW HT_.out HW_.out (by kernel_rfl)) (fun _ _ _ h => h) (Or.inl ⟨by rfl, ?_⟩) hHeld ?_ ?_
            rotate_left
            · rintro w' ⟨s0, s1, s2, s3, s4, s5, s6, s7⟩
              go_simp
              with_reducible rfl
            rotate_left
            · simp only [Act.put, List.setIfInBounds_toArray, List.set_cons_zero, List.set_cons_succ, i64_w, i32_w]
              rfl
            refine take_ (i := 2) (N := some 64) (v := ?_) (a' := ?_) #[true, false, true, false, true, false, false, false, false, false, false] rfl rfl (take_ofW HT_.out HW_.out (by kernel_rfl)) (fun _ _ _ h => h) (Or.inl ⟨by rfl, ?_⟩) hHeld ?_ ?_
            rotate_left
            · rintro w' ⟨s0, s1, s2, s3, s4, s5, s6, s7⟩
              go_simp
              with_reducible rfl
            rotate_left
            · simp only [Act.put, List.setIfInBounds_toArray, List.set_cons_zero, List.set_cons_succ, i64_w, i32_w]
              rfl
            refine one_ (i := 1) (N := some 63) #[true, true, true, false, true, false, false, false, false, false, false] rfl rfl (one_of HT_.out (by kernel_rfl)) (by decide) (fun K hK => ?_)
            refine goes_ Try.func37 (by kernel_rfl) rfl #[.agg #[.string t407, .int .i64 a0_1, .int .i64 a0_2, .int .i64 a0_3]] (by rfl) rfl rfl (by (try simp only [List.map_toArray, List.map_cons, List.map_nil]); first | done | rfl | (simp only [List.length_drop, List.length_take]; rfl)) ?_
            with_reducible refine (value_Of.calls t407 a0_1 a0_2 a0_3 t413 _ A71.out).mono ?_
            rintro e w98 ⟨rfl, hb⟩
            refine ⟨_, rfl, ?_⟩
            have n0_ := Aside0.mk (blk_below (g := gb402) (o := .cells #[.string a0_0, .int .i64 a0_1, .int .i64 a0_2, .int .i64 a0_3] 29 (0, 0)) (by (with_reducible repeat (first | refine blk_drewN ?_ _ | refine blk_drew ?_ | refine blk_alloc ?_ _)); exact BK402.out) hb)
            have n1_ := Aside0.mk (blk_below (g := gb406) (o := .cells #[.string t407, .int .i64 a0_1, .int .i64 a0_2, .int .i64 a0_3] 29 (0, 0)) (by (with_reducible repeat (first | refine blk_drewN ?_ _ | refine blk_drew ?_ | refine blk_alloc ?_ _)); exact BK406.out) hb)
            have n2_ := Aside0.mk (below_step (by repeat (first | (with_reducible first | exact HB.out | apply below_alloc | apply pw_below_drewN | apply below_drew1 | refine below_set ?_ GE402.out | refine below_set ?_ GE406.out) | exact HB.out)) hb)
            clear BK402
            clear BK406
            clear HB
            have BK402 := n0_
            have BK406 := n1_
            have HB := n2_
            clear n0_ n1_ n2_
            (try clear hb)
            (try clear hb2)
            (try clear hk)
            (try clear hi)
            refine hK.out _ _ ⟨(blk_cell BK406.out 0).trans rfl, (blk_cell BK406.out 1).trans rfl, (blk_cell BK406.out 2).trans rfl, (blk_cell BK406.out 3).trans rfl, (blk_cell BK402.out 0).trans rfl, (blk_cell BK402.out 1).trans rfl, (blk_cell BK402.out 2).trans rfl, (blk_cell BK402.out 3).trans rfl⟩ (fun hHeld => ?_)
            clear hK K
            refine norm_ (a' := ?_) ?_ ?_
            rotate_left
            · show Act.put _ (some 63) _ = _
              simp only [Act.put, List.setIfInBounds_toArray, List.set_cons_zero, List.set_cons_succ, i64_w, i32_w]
              rfl
            refine one_ (i := 3) (N := some 65) #[true, true, true, true, true, false, false, false, false, false, false] rfl rfl (one_of HT_.out (by kernel_rfl)) (by decide) (fun K hK => ?_)
            refine goes_ Try.func37 (by kernel_rfl) rfl #[.agg #[.string a0_0, .int .i64 a0_1, .int .i64 a0_2, .int .i64 a0_3]] (by rfl) rfl rfl (by (try simp only [List.map_toArray, List.map_cons, List.map_nil]); first | done | rfl | (simp only [List.length_drop, List.length_take]; rfl)) ?_
            with_reducible refine (value_Of.calls a0_0 a0_1 a0_2 a0_3 t414 _ A72.out).mono ?_
            rintro e w99 ⟨rfl, hb⟩
            refine ⟨_, rfl, ?_⟩
            have n0_ := Aside0.mk (blk_below (g := gb402) (o := .cells #[.string a0_0, .int .i64 a0_1, .int .i64 a0_2, .int .i64 a0_3] 29 (0, 0)) (by (with_reducible repeat (first | refine blk_drewN ?_ _ | refine blk_drew ?_ | refine blk_alloc ?_ _)); exact BK402.out) hb)
            have n1_ := Aside0.mk (blk_below (g := gb406) (o := .cells #[.string t407, .int .i64 a0_1, .int .i64 a0_2, .int .i64 a0_3] 29 (0, 0)) (by (with_reducible repeat (first | refine blk_drewN ?_ _ | refine blk_drew ?_ | refine blk_alloc ?_ _)); exact BK406.out) hb)
            have n2_ := Aside0.mk (below_step (by repeat (first | (with_reducible first | exact HB.out | apply below_alloc | apply pw_below_drewN | apply below_drew1 | refine below_set ?_ GE402.out | refine below_set ?_ GE406.out) | exact HB.out)) hb)
            clear BK402
            clear BK406
            clear HB
            have BK402 := n0_
            have BK406 := n1_
            have HB := n2_
            clear n0_ n1_ n2_
            (try clear hb)
            (try clear hb2)
            (try clear hk)
            (try clear hi)
            refine hK.out _ _ ⟨(blk_cell BK406.out 0).trans rfl, (blk_cell BK406.out 1).trans rfl, (blk_cell BK406.out 2).trans rfl, (blk_cell BK406.out 3).trans rfl, (blk_cell BK402.out 0).trans rfl, (blk_cell BK402.out 1).trans rfl, (blk_cell BK402.out 2).trans rfl, (blk_cell BK402.out 3).trans rfl⟩ (fun hHeld => ?_)
            clear hK K
            refine norm_ (a' := ?_) ?_ ?_
            rotate_left
            · show Act.put _ (some 65) _ = _
              simp only [Act.put, List.setIfInBounds_toArray, List.set_cons_zero, List.set_cons_succ, i64_w, i32_w]
              rfl
            refine pure_ (i := 5) (N := some 67) (v := ?_) (a' := ?_) #[true, true, true, true, true, true, false, false, false, false, false] rfl rfl (any_of HT_.out (by kernel_rfl)) (fun _ _ _ h => h) (Or.inl ⟨by rfl, ?_⟩) ?_ ?_
            rotate_left
            · intro w'
              go_simp
              with_reducible rfl
            rotate_left
            · simp only [Act.put, List.setIfInBounds_toArray, List.set_cons_zero, List.set_cons_succ, i64_w, i32_w]
              rfl
            refine pure_ (i := 6) (N := some 68) (v := ?_) (a' := ?_) #[true, true, true, true, true, true, true, false, false, false, false] rfl rfl (any_of HT_.out (by kernel_rfl)) (fun _ _ _ h => h) (Or.inl ⟨by rfl, ?_⟩) ?_ ?_
            rotate_left
            · intro w'
              go_simp
              with_reducible rfl
            rotate_left
            · simp only [Act.put, List.setIfInBounds_toArray, List.set_cons_zero, List.set_cons_succ, i64_w, i32_w]
              rfl
            refine pure_ (i := 7) (N := some 69) (v := ?_) (a' := ?_) #[true, true, true, true, true, true, true, true, false, false, false] rfl rfl (any_of HT_.out (by kernel_rfl)) (fun _ _ _ h => h) (Or.inl ⟨by rfl, ?_⟩) ?_ ?_
            rotate_left
            · intro w'
              go_simp
              with_reducible rfl
            rotate_left
            · simp only [Act.put, List.setIfInBounds_toArray, List.set_cons_zero, List.set_cons_succ, i64_w, i32_w]
              rfl
            refine pure_ (i := 8) (N := some 70) (v := undef) (a' := ?_) #[true, true, true, true, true, true, true, true, true, false, false] rfl rfl (any_of HT_.out (by kernel_rfl)) (fun _ _ _ h => h) (Or.inr ⟨by rfl, rfl⟩) ?_ ?_
            rotate_left
            · simp only [Act.put, List.setIfInBounds_toArray, List.set_cons_zero, List.set_cons_succ, i64_w, i32_w]
              rfl
            refine pure_ (i := 9) (N := some 71) (v := ?_) (a' := ?_) #[true, true, true, true, true, true, true, true, true, true, false] rfl rfl (any_of HT_.out (by kernel_rfl)) (fun _ _ _ h => h) (Or.inl ⟨by rfl, ?_⟩) ?_ ?_
            rotate_left
            · intro w'
              go_simp
              with_reducible rfl
            rotate_left
            · simp only [Act.put, List.setIfInBounds_toArray, List.set_cons_zero, List.set_cons_succ, i64_w, i32_w]
              rfl
            refine pure_ (i := 10) (N := some 6) (v := ?_) (a' := ?_) #[true, true, true, true, true, true, true, true, true, true, true] rfl rfl (any_of HT_.out (by kernel_rfl)) (fun _ _ _ h => h) (Or.inl ⟨by rfl, ?_⟩) ?_ ?_
            rotate_left
            · intro w'
              go_simp
              with_reducible rfl
            rotate_left
            · simp only [Act.put, List.setIfInBounds_toArray, List.set_cons_zero, List.set_cons_succ, i64_w, i32_w]
              rfl
            refine done_ (done_of HT_.out (by kernel_rfl)) ?_
            try go_wp2
            go_ret
            exact ⟨by first | rfl | (simp [errW_none, errW_some] <;> rfl) | (simp [*, errW_none, errW_some] <;> rfl), by repeat (first | (with_reducible first | exact HB.out | apply below_alloc | apply pw_below_drewN | apply below_drew1 | refine below_set ?_ GE402.out | refine below_set ?_ GE406.out) | exact HB.out)⟩

end Go.Proofs.Ytmfbgcimfmgobaa.Print

-- of YtmfbgcimfmgobaaKeyRef
/- The document's row and numbers, and that they are the program's. -/
namespace Go.Proofs.Ytmfbgcimfmgobaa.KeyRef
open Go.RowKit Go.Proofs.Ytmfbgcimfmgobaa.Print Go.Proofs.Ytmfbgcimfmgobaa.KeyMath Go.Proofs.YtmfbgcimfmgobaaW.PrintWords Go.Proofs.YtmfbgcimfmgobaaW.PrintLast
theorem u8_of (c : Int) (h : (Lit.int .u8 c).wf = true) : ∃ b : UInt8, c = (b.toNat : Int) := by
  have h2 : 0 ≤ c ∧ c ≤ 255 := by
    simp [Lit.wf, IntKind.min, IntKind.max, IntKind.signed, IntKind.bits] at h; omega
  exact ⟨c.toNat.toUInt8, by simp; omega⟩
end Go.Proofs.Ytmfbgcimfmgobaa.KeyRef

-- of YtmfbgcimfmgobaaKeyRefTwo
/- The document's boards and keys, and that they are the program's. -/
namespace Go.Proofs.Ytmfbgcimfmgobaa.KeyRef
open Go.RowKit Go.Proofs.Ytmfbgcimfmgobaa.Print Go.Proofs.Ytmfbgcimfmgobaa.KeyMath Go.Proofs.YtmfbgcimfmgobaaW.PrintWords Go.Proofs.YtmfbgcimfmgobaaW.PrintLast
theorem rside_k (k : Nat) (a : Int) : riverbankref02_Side.f (k + 1) a = riverbankref02_Side.f 1 a := rfl
theorem rside_eq (k : Nat) (b : UInt8) : riverbankref02_Side.f (k + 1) (b.toNat : Int) = board_Side.f (b.toNat : Int) := by
  rw [rside_k]
  have := u8_all (fun b => riverbankref02_Side.f 1 (b.toNat : Int) == board_Side.f (b.toNat : Int)) (by decide +kernel) b
  simpa using this
/-- A byte's side. -/
def sideU (b : UInt8) : Int := (board_Side.f (b.toNat : Int)).getD 0
theorem side_f (b : UInt8) : board_Side.f (b.toNat : Int) = some (sideU b) := by
  have := u8_all (fun b => board_Side.f (b.toNat : Int) == some (sideU b)) (by decide +kernel) b
  simpa using this
theorem side_cell (b : UInt8) : okCell b = (b == 46 || decide (0 ≤ sideU b)) := by
  have := u8_all (fun b => okCell b == (b == 46 || decide (0 ≤ sideU b))) (by decide +kernel) b
  simpa using this
theorem side_range (b : UInt8) : sideU b = -1 ∨ sideU b = 0 ∨ sideU b = 1 := by
  have := u8_all (fun b => sideU b == -1 || (sideU b == 0 || sideU b == 1)) (by decide +kernel) b
  simpa using this
theorem bt_get (s : ByteArray) (i : Nat) (h : i < s.size) : bt s (i : Int) = ((s.get! i).toNat : Int) := by
  unfold bt
  rw [dif_pos (by simpa using h)]
  have e : s.get! i = s.data[i]'h := by
    simp [ByteArray.get!, h]
  rw [e]; rfl
theorem rside_eq' (k : Nat) (hk : 1 ≤ k) (b : UInt8) : riverbankref02_Side.f k (b.toNat : Int) = some (sideU b) := by
  obtain ⟨m, rfl⟩ : ∃ m, k = m + 1 := ⟨k - 1, by omega⟩
  rw [rside_eq, side_f]
theorem eq46 (b : UInt8) : ((b.toNat : Int) = 46) = (b = 46) := by
  apply propext
  constructor
  · intro h; exact UInt8.toNat_inj.mp (by simpa using (by omega : b.toNat = 46))
  · intro h; subst h; rfl
theorem board_size {s : ByteArray} (h : board_Is.f s = some true) : s.size = 90 := by
  unfold board_Is.f at h; have := Option.some.inj h; simp at this; exact this.1
theorem board_cell {s : ByteArray} (h : board_Is.f s = some true) (j : Nat) (hj : j < 90) : okCell (s.get! j) = true := by
  have hs := board_size h
  unfold board_Is.f at h; have := Option.some.inj h; simp only [Bool.and_eq_true] at this
  exact (all_okCell s).mp this.2 j (by omega)
theorem board_tf (s : ByteArray) : board_Is.f s = some true ∨ board_Is.f s = some false := by
  unfold board_Is.f
  cases (decide (s.size = 90) && s.data.toList.all okCell) <;> simp

end Go.Proofs.Ytmfbgcimfmgobaa.KeyRef

-- of YtmfbgcimfmgobaaKeyRefThree
/- Boards with one byte turned, and their keys. -/
namespace Go.Proofs.Ytmfbgcimfmgobaa.KeyRef
open Go.RowKit Go.Proofs.Ytmfbgcimfmgobaa.Print Go.Proofs.Ytmfbgcimfmgobaa.KeyMath Go.Proofs.YtmfbgcimfmgobaaW.PrintWords Go.Proofs.YtmfbgcimfmgobaaW.PrintLast
/-- A text with byte n turned to c. -/
def setL (s : ByteArray) (n : Nat) (c : UInt8) : ByteArray := ⟨(s.data.toList.set n c).toArray⟩
theorem setL_size (s : ByteArray) (n : Nat) (c : UInt8) : (setL s n c).size = s.size := by
  show (s.data.toList.set n c).toArray.size = s.data.size
  simp
theorem get_list (s : ByteArray) (j : Nat) (h : j < s.size) : s.get! j = s.data.toList[j]'(by simpa using h) := by
  have e : s.get! j = s.data[j]'h := by simp [ByteArray.get!, h]
  rw [e]; simp
theorem setL_get (s : ByteArray) (n : Nat) (c : UInt8) (j : Nat) (h : j < s.size) : (setL s n c).get! j = if n = j then c else s.get! j := by
  rw [get_list _ _ (by rw [setL_size]; exact h), get_list _ _ h]
  have e : (setL s n c).data.toList = s.data.toList.set n c := by simp [setL]
  rw [List.getElem_of_eq e, List.getElem_set]
theorem setL_board (s : ByteArray) (n : Nat) (c : UInt8) (h : board_Is.f s = some true) (hc : okCell c = true) : board_Is.f (setL s n c) = some true := by
  have hs := board_size h
  unfold board_Is.f
  have h2 := (all_okCell (setL s n c)).mpr (fun j hj => by
    rw [setL_size] at hj
    rw [setL_get s n c j hj]
    split
    · exact hc
    · exact board_cell h j (by omega))
  rw [h2, setL_size, hs]; rfl
end Go.Proofs.Ytmfbgcimfmgobaa.KeyRef

-- of YtmfbgcimfmgobaaValueMath
/- What pieces are worth, read off all bytes and squares at once; sums over a board. -/
namespace Go.Proofs.Ytmfbgcimfmgobaa.ValueMath
open Go.RowKit Go.Proofs.Ytmfbgcimfmgobaa.Print Go.Proofs.Ytmfbgcimfmgobaa.KeyMath Go.Proofs.Ytmfbgcimfmgobaa.KeyRef Go.Proofs.YtmfbgcimfmgobaaW.PrintWords Go.Proofs.YtmfbgcimfmgobaaW.PrintLast
/-- The piece's worth on a square is the document's, lies between its kind's worth and 50 more, and is nothing for a general and for what is no piece. -/
def pieceOk (c n : Nat) : Bool :=
  match value_Piece.f 200 (c : Int) (n : Int), riverbankref14_Piece.f 200 (c : Int) (n : Int), value_Kind.f (c : Int), board_Kind.f (c : Int) with
  | some a, some b, some k, some d => decide (a = b ∧ 0 ≤ a ∧ a ≤ 250 ∧ (board_Side.f (c : Int) = some (-1) → a = 0) ∧ (board_Side.f (c : Int) ≠ some (-1) → k ≤ a ∧ a ≤ k + 50 ∧ (d = 75 → a = 0)))
  | _, _, _, _ => false
set_option maxRecDepth 100000 in
theorem piece_dec : ((List.range 256).all fun c => (List.range 90).all fun n => pieceOk c n) = true := by decide +kernel
theorem piece_ok (b : UInt8) (n : Nat) (hn : n < 90) : pieceOk b.toNat n = true := by
  have h := List.all_eq_true.mp (List.all_eq_true.mp piece_dec b.toNat (List.mem_range.mpr b.toNat_lt)) n (List.mem_range.mpr hn)
  exact h
def pv (b : UInt8) (n : Int) : Int := (value_Piece.f 200 (b.toNat : Int) n).getD 0
theorem piece_in (b : UInt8) (n : Nat) (hn : n < 90) : value_Piece.f 200 (b.toNat : Int) n = some (pv b n) ∧ riverbankref14_Piece.f 200 (b.toNat : Int) n = some (pv b n) ∧ 0 ≤ pv b n ∧ pv b n ≤ 250 ∧ (sideU b = -1 → pv b n = 0) ∧
    ∃ k d, value_Kind.f (b.toNat : Int) = some k ∧ board_Kind.f (b.toNat : Int) = some d ∧ (sideU b ≠ -1 → k ≤ pv b n ∧ pv b n ≤ k + 50 ∧ (d = 75 → pv b n = 0)) := by
  have h := piece_ok b n hn
  unfold pieceOk at h
  rw [side_f b] at h
  split at h
  · rename_i a c k d h1 h2 h3 h4
    have h := of_decide_eq_true h
    obtain ⟨rfl, h5, h6, h7, h8⟩ := h
    have e : pv b n = a := by unfold pv; rw [h1]; rfl
    rw [e]
    refine ⟨h1, h2, h5, h6, fun hs => h7 (by rw [hs]), k, d, h3, h4, fun hs => h8 (by simpa using hs)⟩
  · cases h
theorem piece_out (k : Nat) (b : UInt8) (n : Int) (hn : n < 0 ∨ 89 < n) : value_Piece.f (k + 1) (b.toNat : Int) n = some 0 ∧ riverbankref14_Piece.f (k + 1) (b.toNat : Int) n = some 0 := by
  have hq : board_isSquare.f n = some false := by
    unfold board_isSquare.f
    split
    · rw [decide_eq_false (by omega)]
    · rfl
  obtain ⟨r, hr⟩ := brank_some n
  have hf : board_File.f n = some (-1) := by unfold board_File.f; rw [hq]; rfl
  constructor
  · unfold value_Piece.f
    rw [side_f, hf, hr]
    simp only [Option.bind_some]
    split <;> simp [value_Piece.j0]
  · unfold riverbankref14_Piece.f
    rw [rside_eq' (k + 1) (by omega)]
    simp only [Option.bind_some]
    split
    · simp [riverbankref14_Piece.j0]
    · split
      · simp [riverbankref14_Piece.j0]
      · rw [decide_eq_true (by omega)]; simp [riverbankref14_Piece.j0]
theorem piece_200 (b : UInt8) (n : Int) : value_Piece.f 200 (b.toNat : Int) n = some (pv b n) ∧ riverbankref14_Piece.f 200 (b.toNat : Int) n = some (pv b n) ∧ 0 ≤ pv b n ∧ pv b n ≤ 250 ∧ (sideU b = -1 → pv b n = 0) := by
  by_cases hn : n < 0 ∨ 89 < n
  · obtain ⟨h1, h2⟩ := piece_out 199 b n hn
    have e : pv b n = 0 := by unfold pv; rw [h1]; rfl
    rw [e]; exact ⟨h1, h2, by omega, by omega, fun _ => rfl⟩
  · obtain ⟨m, rfl⟩ : ∃ m : Nat, n = m := ⟨n.toNat, by omega⟩
    have h := piece_in b m (by omega)
    exact ⟨h.1, h.2.1, h.2.2.1, h.2.2.2.1, h.2.2.2.2.1⟩
theorem piece_k (k : Nat) (h : 200 ≤ k) (b : UInt8) (n : Int) : value_Piece.f k (b.toNat : Int) n = some (pv b n) := by
  obtain ⟨d, rfl⟩ : ∃ d, k = 200 + d := ⟨k - 200, by omega⟩
  induction d with
  | zero => exact (piece_200 b n).1
  | succ d ih => exact value_Piece.mono _ _ _ _ (ih (by omega))
theorem pv_range (b : UInt8) (n : Int) : 0 ≤ pv b n ∧ pv b n ≤ 250 := ⟨(piece_200 b n).2.2.1, (piece_200 b n).2.2.2.1⟩
theorem pv_none (b : UInt8) (n : Int) (h : sideU b = -1) : pv b n = 0 := (piece_200 b n).2.2.2.2 h

/-! ### sums -/
/-- What the first m squares are worth to a side, without wraps. -/
def sSum (s : ByteArray) (side : Int) : Nat → Int
  | 0 => 0
  | n + 1 => sSum s side n + (if sideU (s.get! n) = side then pv (s.get! n) n else 0)
theorem sSum_range (s : ByteArray) (side : Int) (n : Nat) : 0 ≤ sSum s side n ∧ sSum s side n ≤ 250 * n := by
  induction n with
  | zero => exact ⟨Int.le_refl _, Int.le_refl _⟩
  | succ n ih =>
    unfold sSum
    have := pv_range (s.get! n) n
    split <;> omega
theorem wrap_mid {x : Int} (h : -1000000 ≤ x) (h2 : x ≤ 1000000) : wrap64 x = x := by unfold wrap64; omega
theorem sideSum_eq (s : ByteArray) (hs : s.size = 90) (side : Int) (n : Nat) (hn : n ≤ 90) : sideSum s side n = sSum s side n := by
  induction n with
  | zero => rfl
  | succ n ih =>
    unfold sideSum sSum
    have hp : pieceN s n = pv (s.get! n) n := by unfold pieceN pv; rw [bt_get s n (by omega)]
    rw [ih (by omega), hp, bt_get s n (by omega), side_f]
    have := pv_range (s.get! n) n
    have := sSum_range s side n
    by_cases h : sideU (s.get! n) = side
    · rw [if_pos (by rw [h]), if_pos h]; exact wrap_mid (by omega) (by omega)
    · rw [if_neg (by intro e; exact h (Option.some.inj e)), if_neg h]; omega
/-- What a board is worth to the side whose move it is. -/
def ofV (s : ByteArray) (side : Int) : Int := if side = 0 then sSum s 0 90 - sSum s 1 90 else sSum s 1 90 - sSum s 0 90
theorem ofV_range (s : ByteArray) (side : Int) : -22500 ≤ ofV s side ∧ ofV s side ≤ 22500 := by
  have := sSum_range s 0 90
  have := sSum_range s 1 90
  unfold ofV; split <;> omega
theorem of_board (s : ByteArray) (a b c : Int) (h : board_Is.f s = some true) : value_Of.f s a b c = some (ofV s a) := by
  have hs := board_size h
  have := sSum_range s 0 90
  have := sSum_range s 1 90
  unfold value_Of.f
  rw [h, sideSum_eq s hs 0 90 (by omega), sideSum_eq s hs 1 90 (by omega)]
  simp only [Option.bind_some, if_true]
  unfold ofV
  split
  · rw [wrap_mid (by omega) (by omega)]
  · rw [wrap_mid (x := _ - _) (by omega) (by omega), wrap_mid (by omega) (by omega), Int.neg_sub]
theorem sSum_same {s t : ByteArray} (side : Int) (m : Nat) (h : ∀ j, j < m → s.get! j = t.get! j) : sSum s side m = sSum t side m := by
  induction m with
  | zero => rfl
  | succ m ih => unfold sSum; rw [ih (fun j hj => h j (by omega)), h m (by omega)]
theorem sSum_set (s : ByteArray) (hs : s.size = 90) (side : Int) (n : Nat) (hn : n < 90) (c : UInt8) (m : Nat) (hm : m ≤ 90) (hnm : n < m) :
    sSum (setL s n c) side m = sSum s side m - (if sideU (s.get! n) = side then pv (s.get! n) n else 0) + (if sideU c = side then pv c n else 0) := by
  induction m with
  | zero => omega
  | succ m ih =>
    unfold sSum
    rw [setL_get s n c m (by omega)]
    by_cases e : n = m
    · subst e
      rw [if_pos rfl, sSum_same (s := setL s n c) (t := s) side n (fun j hj => by rw [setL_get s n c j (by omega), if_neg (by omega)])]
      omega
    · rw [if_neg e, ih (by omega) (by omega)]; omega
end Go.Proofs.Ytmfbgcimfmgobaa.ValueMath
