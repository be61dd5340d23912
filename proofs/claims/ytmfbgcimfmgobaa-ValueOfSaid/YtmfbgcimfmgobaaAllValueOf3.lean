/- Merged by a program of this session (wip/gprint/merge.py): what this claim needs of this session's texts, each part as it was. -/
import Derived.Test.YtmfbgcimfmgobaaAllValueOf2

-- of YtmfbgcimfmgobaaPrint35
-- Written by a program of this session (wip/gprint/gprint.py) over the kit's print; the parts marked GIVEN by hand.
namespace Go.Proofs.Ytmfbgcimfmgobaa.Print
open Go.RowKit Go.Proofs.YtmfbgcimfmgobaaW.PrintWords Go.Proofs.YtmfbgcimfmgobaaW.PrintLast Go.Proofs.YtmfbgcimfmgobaaW.PrintMore
attribute [local go_sem] max2_int min2_int max_two min_two max_three min_three max_four min_four   -- for this text's walks alone
set_option linter.unusedVariables false
set_option linter.unusedSimpArgs false
/-! ### riverbanklaw14_ValueOf: function 11 -/
def riverbanklaw14_ValueOf.f (k : Nat) (a0_0 : ByteArray) (a0_1 : Int) (a0_2 : Int) (a0_3 : Int) (a0_4 : Int) (a0_5 : Int) (a0_6 : Int) (a0_7 : Int) : Option (Bool) := if (a0_0.size : Int) > 200 then ((riverbanklaw14_live.f).bind fun t352 => (some t352)) else ((value_Of.f a0_0 a0_1 a0_2 a0_3).bind fun t353 => ((riverbankref14_Of.f k a0_0 a0_1 a0_2 a0_3).bind fun t354 => (if t353 = t354 then ((value_Moved.f k t353 a0_4 a0_5 a0_6 a0_7).bind fun t355 => ((riverbankref14_Moved.f k t353 a0_4 a0_5 a0_6 a0_7).bind fun t356 => (if t355 = t356 then ((riverbanklaw14_live.f).bind fun t357 => (some t357)) else (some false)))) else (some false))))
theorem riverbanklaw14_ValueOf.mono : ∀ a0 a1 a2 a3 a4 a5 a6 a7 k, LeO (riverbanklaw14_ValueOf.f k a0 a1 a2 a3 a4 a5 a6 a7) (riverbanklaw14_ValueOf.f (k + 1) a0 a1 a2 a3 a4 a5 a6 a7) := by
  intro a0 a1 a2 a3 a4 a5 a6 a7 k
  unfold riverbanklaw14_ValueOf.f
  repeat' first
      | (with_reducible exact riverbankref14_Moved.mono _ _ _ _ _ _)
      | (with_reducible exact riverbankref14_Of.mono _ _ _ _ _)
      | (with_reducible exact value_Moved.mono _ _ _ _ _ _)
      | (with_reducible exact LeO.refl _)
      | (with_reducible exact LeO.none _)
      | (with_reducible refine LeO.ite ?_ ?_)
      | (with_reducible refine LeO.bind ?_ (fun _ => ?_))
      | exact riverbankref14_Moved.mono _ _ _ _ _ _
      | exact riverbankref14_Of.mono _ _ _ _ _
      | exact value_Moved.mono _ _ _ _ _ _
      | exact LeO.none _
      | refine LeO.ite ?_ ?_
      | refine LeO.bind ?_ (fun _ => ?_)
def riverbanklaw14_ValueOf.T1 : Bool × List (List Nat × List Nat) := (true, [([], []), ([0], [0]), ([], []), ([2], [2]), ([], []), ([4], [4]), ([], []), ([6], [6]), ([], []), ([], []), ([8, 1, 0, 1, 8, 9], [1, 8]), ([3, 10, 0, 1, 2, 3, 8, 9, 10], [3]), ([9, 5, 11, 0, 1, 2, 3, 4, 5, 8, 9, 10, 11], [5, 9]), ([7, 12, 0, 1, 2, 3, 4, 5, 6, 7, 8, 9, 10, 11, 12], [7])])
def riverbanklaw14_ValueOf.B1 : List Nat := [0, 1, 0, 4, 0, 16, 0, 64, 0, 0, 771, 1807, 3903, 8191]
theorem riverbanklaw14_ValueOf.tab1 : rtab .any (opsOf Try.f11 1) = riverbanklaw14_ValueOf.T1 := by kernel_rfl
theorem riverbanklaw14_ValueOf.bits1 : waitsOk riverbanklaw14_ValueOf.T1.2 riverbanklaw14_ValueOf.B1 = true := by kernel_rfl
def riverbanklaw14_ValueOf.T5 : Bool × List (List Nat × List Nat) := (true, [([], []), ([], []), ([1], [1]), ([0, 2], [0, 2]), ([3, 2], [3]), ([4], [4]), ([4], [4]), ([4], [4]), ([4], [4]), ([5, 6, 7, 8, 4, 4], [4, 5, 6, 7, 8]), ([4], [4]), ([4], [4]), ([4], [4]), ([4], [4]), ([10, 11, 12, 13, 9, 4], [4, 10, 11, 12, 13]), ([9, 14, 4], [4, 9, 14]), ([4, 15], [4, 15]), ([16, 14], [16]), ([17, 17], [17]), ([17, 18], [17, 18]), ([19, 18, 0, 1, 2, 3, 4, 5, 6, 7, 8, 9, 10, 11, 12, 13, 14, 15, 16, 17, 18, 19], [19])])
def riverbanklaw14_ValueOf.B5 : List Nat := [0, 0, 2, 7, 15, 31, 31, 31, 31, 511, 31, 31, 31, 31, 16383, 32767, 65535, 131071, 262143, 524287, 1048575]
theorem riverbanklaw14_ValueOf.tab5 : rtab .any (opsOf Try.f11 5) = riverbanklaw14_ValueOf.T5 := by kernel_rfl
theorem riverbanklaw14_ValueOf.bits5 : waitsOk riverbanklaw14_ValueOf.T5.2 riverbanklaw14_ValueOf.B5 = true := by kernel_rfl
set_option maxHeartbeats 8000000 in
set_option maxRecDepth 100000 in
theorem riverbanklaw14_ValueOf.calls (k : Nat) (a0_0 : ByteArray) (a0_1 : Int) (a0_2 : Int) (a0_3 : Int) (a0_4 : Int) (a0_5 : Int) (a0_6 : Int) (a0_7 : Int) (r : Bool) (w : World) (h : riverbanklaw14_ValueOf.f k a0_0 a0_1 a0_2 a0_3 a0_4 a0_5 a0_6 a0_7 = some r) :
    Calls Try.prog 11 #[.agg #[.string a0_0, .int .i64 a0_1, .int .i64 a0_2, .int .i64 a0_3, .int .u8 a0_4, .int .i64 a0_5, .int .i64 a0_6, .int .u8 a0_7]] w fun e w' => e = .returned (.bool r) ∧ Below w.heap.size w w' := by
  have hu54 := Try.underlying54
  have hu29 := Try.underlying29
  have hu41 := Try.underlying41
  have HB := Aside0.mk (Below.refl w.heap.size w)
  have H : (if (a0_0.size : Int) > 200 then ((riverbanklaw14_live.f).bind fun t352 => (some t352)) else ((value_Of.f a0_0 a0_1 a0_2 a0_3).bind fun t353 => ((riverbankref14_Of.f k a0_0 a0_1 a0_2 a0_3).bind fun t354 => (if t353 = t354 then ((value_Moved.f k t353 a0_4 a0_5 a0_6 a0_7).bind fun t355 => ((riverbankref14_Moved.f k t353 a0_4 a0_5 a0_6 a0_7).bind fun t356 => (if t355 = t356 then ((riverbanklaw14_live.f).bind fun t357 => (some t357)) else (some false)))) else (some false))))) = some r := h
  clear h
  by_cases c2 : (a0_0.size : Int) > 200
  · rw [if_pos c2] at H
    have c2b0 : decide (200 < (a0_0.size : Int)) = true := decide_eq_true c2
    have c2b1 : decide (200 < a0_0.size) = true := decide_eq_true (by omega)
    clear c2
    replace H := Option.bind_eq_some_iff.mp H
    obtain ⟨t352, A30, H⟩ := H
    replace H : (some t352) = some r := H
    have A3 := Aside0.mk A30
    clear A30
    obtain rfl := Option.some.inj H
    go_enter Try.func11, Try.ntmps11
    try go_wp2_with (first | ((with_reducible refine gate_dst (N := 1) rfl ?_); refine box_event ?hg (N := 1) ?hd (cs := #[.string a0_0, .int .i64 a0_1, .int .i64 a0_2, .int .i64 a0_3, .int .u8 a0_4, .int .i64 a0_5, .int .i64 a0_6, .int .u8 a0_7]) (t := 54) ?hr ?_; (case hd => rfl); (case hg => rfl); (case hr => first | (go_simp; done) | (go_simp; rfl)); intro gb349 hg w4 hbox hb; have n0_ := Aside0.mk (below_step (by repeat (first | (with_reducible first | exact HB.out | apply below_alloc | apply pw_below_drewN | apply below_drew1) | exact HB.out)) hb); have n1_ := Aside0.mk (hbox); have n2_ := Aside0.mk ((by rw [hg]; exact (below_size (by repeat (first | (with_reducible first | exact HB.out | apply below_alloc | apply pw_below_drewN | apply below_drew1) | exact HB.out))) : w.heap.size ≤ gb349)); have n3_ := Aside0.mk ((by rw [hg]; exact (below_size (by repeat (first | (with_reducible first | exact HB.out | apply below_alloc | apply pw_below_drewN | apply below_drew1) | exact HB.out))) : w.heap.size ≤ gb349)); clear HB; have HB := n0_; have BK349 := n1_; have GW349 := n2_; have GE349 := n3_; clear n0_ n1_ n2_ n3_; clear hb hbox hg))
    have n0_ := Aside0.mk (blk_drew BK349.out)
    have n1_ := Aside0.mk (below_drew1 HB.out)
    clear BK349
    clear HB
    have BK349 := n0_
    have HB := n1_
    clear n0_ n1_
    refine start_ (n := 14) (S := fun w' => w'.cell? ⟨gb349, 0, none⟩ = some (.string a0_0) ∧ w'.cell? ⟨gb349, 1, none⟩ = some (.int .i64 a0_1) ∧ w'.cell? ⟨gb349, 2, none⟩ = some (.int .i64 a0_2) ∧ w'.cell? ⟨gb349, 3, none⟩ = some (.int .i64 a0_3) ∧ w'.cell? ⟨gb349, 4, none⟩ = some (.int .u8 a0_4) ∧ w'.cell? ⟨gb349, 5, none⟩ = some (.int .i64 a0_5) ∧ w'.cell? ⟨gb349, 6, none⟩ = some (.int .i64 a0_6) ∧ w'.cell? ⟨gb349, 7, none⟩ = some (.int .u8 a0_7)) (ds := []) #[false, false, false, false, false, false, false, false, false, false, false, false, false, false] (by kernel_rfl) rfl rfl ⟨(blk_cell BK349.out 0).trans rfl, (blk_cell BK349.out 1).trans rfl, (blk_cell BK349.out 2).trans rfl, (blk_cell BK349.out 3).trans rfl, (blk_cell BK349.out 4).trans rfl, (blk_cell BK349.out 5).trans rfl, (blk_cell BK349.out 6).trans rfl, (blk_cell BK349.out 7).trans rfl⟩ (fun hHeld => ?_); refine with_tabW riverbanklaw14_ValueOf.tab1 riverbanklaw14_ValueOf.bits1 (fun HT_ HW_ => ?_)
    generalize w4.drew = w5 at BK349 HB hHeld ⊢
    refine pure_ (i := 0) (N := some 8) (v := ?_) (a' := ?_) #[true, false, false, false, false, false, false, false, false, false, false, false, false, false] rfl rfl (any_of HT_.out (by kernel_rfl)) (fun _ _ _ h => h) (Or.inl ⟨by rfl, ?_⟩) ?_ ?_
    rotate_left
    · intro w'
      go_simp
      with_reducible rfl
    rotate_left
    · simp only [Act.put, List.setIfInBounds_toArray, List.set_cons_zero, List.set_cons_succ, i64_w, i32_w]
      rfl
    refine pure_ (i := 2) (N := some 10) (v := ?_) (a' := ?_) #[true, false, true, false, false, false, false, false, false, false, false, false, false, false] rfl rfl (any_of HT_.out (by kernel_rfl)) (fun _ _ _ h => h) (Or.inl ⟨by rfl, ?_⟩) ?_ ?_
    rotate_left
    · intro w'
      go_simp
      with_reducible rfl
    rotate_left
    · simp only [Act.put, List.setIfInBounds_toArray, List.set_cons_zero, List.set_cons_succ, i64_w, i32_w]
      rfl
    refine pure_ (i := 4) (N := some 12) (v := ?_) (a' := ?_) #[true, false, true, false, true, false, false, false, false, false, false, false, false, false] rfl rfl (any_of HT_.out (by kernel_rfl)) (fun _ _ _ h => h) (Or.inl ⟨by rfl, ?_⟩) ?_ ?_
    rotate_left
    · intro w'
      go_simp
      with_reducible rfl
    rotate_left
    · simp only [Act.put, List.setIfInBounds_toArray, List.set_cons_zero, List.set_cons_succ, i64_w, i32_w]
      rfl
    refine pure_ (i := 6) (N := some 14) (v := ?_) (a' := ?_) #[true, false, true, false, true, false, true, false, false, false, false, false, false, false] rfl rfl (any_of HT_.out (by kernel_rfl)) (fun _ _ _ h => h) (Or.inl ⟨by rfl, ?_⟩) ?_ ?_
    rotate_left
    · intro w'
      go_simp
      with_reducible rfl
    rotate_left
    · simp only [Act.put, List.setIfInBounds_toArray, List.set_cons_zero, List.set_cons_succ, i64_w, i32_w]
      rfl
    refine take_ (i := 1) (N := some 9) (v := ?_) (a' := ?_) #[true, true, true, false, true, false, true, false, false, false, false, false, false, false] rfl rfl (take_ofW HT_.out HW_.out (by kernel_rfl)) (fun _ _ _ h => h) (Or.inl ⟨by rfl, ?_⟩) hHeld ?_ ?_
    rotate_left
    · rintro w' ⟨s0, s1, s2, s3, s4, s5, s6, s7⟩
      go_simp
      with_reducible rfl
    rotate_left
    · simp only [Act.put, List.setIfInBounds_toArray, List.set_cons_zero, List.set_cons_succ, i64_w, i32_w]
      rfl
    refine take_ (i := 3) (N := some 11) (v := ?_) (a' := ?_) #[true, true, true, true, true, false, true, false, false, false, false, false, false, false] rfl rfl (take_ofW HT_.out HW_.out (by kernel_rfl)) (fun _ _ _ h => h) (Or.inl ⟨by rfl, ?_⟩) hHeld ?_ ?_
    rotate_left
    · rintro w' ⟨s0, s1, s2, s3, s4, s5, s6, s7⟩
      go_simp
      with_reducible rfl
    rotate_left
    · simp only [Act.put, List.setIfInBounds_toArray, List.set_cons_zero, List.set_cons_succ, i64_w, i32_w]
      rfl
    refine take_ (i := 5) (N := some 13) (v := ?_) (a' := ?_) #[true, true, true, true, true, true, true, false, false, false, false, false, false, false] rfl rfl (take_ofW HT_.out HW_.out (by kernel_rfl)) (fun _ _ _ h => h) (Or.inl ⟨by rfl, ?_⟩) hHeld ?_ ?_
    rotate_left
    · rintro w' ⟨s0, s1, s2, s3, s4, s5, s6, s7⟩
      go_simp
      with_reducible rfl
    rotate_left
    · simp only [Act.put, List.setIfInBounds_toArray, List.set_cons_zero, List.set_cons_succ, i64_w, i32_w]
      rfl
    refine take_ (i := 7) (N := some 15) (v := ?_) (a' := ?_) #[true, true, true, true, true, true, true, true, false, false, false, false, false, false] rfl rfl (take_ofW HT_.out HW_.out (by kernel_rfl)) (fun _ _ _ h => h) (Or.inl ⟨by rfl, ?_⟩) hHeld ?_ ?_
    rotate_left
    · rintro w' ⟨s0, s1, s2, s3, s4, s5, s6, s7⟩
      go_simp
      with_reducible rfl
    rotate_left
    · simp only [Act.put, List.setIfInBounds_toArray, List.set_cons_zero, List.set_cons_succ, i64_w, i32_w]
      rfl
    refine join_ (σ := Nat × Nat) 4 #[true, true, true, true, true, true, true, true, true, true, false, false, false, false] (fun s_ => [(3, .pointer (some ⟨s_.1, 0, none⟩)), (5, .pointer (some ⟨s_.2, 0, none⟩))]) (fun s_ w' => (w'.cell? ⟨gb349, 0, none⟩ = some (.string a0_0) ∧ w'.cell? ⟨gb349, 1, none⟩ = some (.int .i64 a0_1) ∧ w'.cell? ⟨gb349, 2, none⟩ = some (.int .i64 a0_2) ∧ w'.cell? ⟨gb349, 3, none⟩ = some (.int .i64 a0_3) ∧ w'.cell? ⟨gb349, 4, none⟩ = some (.int .u8 a0_4) ∧ w'.cell? ⟨gb349, 5, none⟩ = some (.int .i64 a0_5) ∧ w'.cell? ⟨gb349, 6, none⟩ = some (.int .i64 a0_6) ∧ w'.cell? ⟨gb349, 7, none⟩ = some (.int .u8 a0_7)) ∧ (w'.heap[gb349]? = some (.cells #[.string a0_0, .int .i64 a0_1, .int .i64 a0_2, .int .i64 a0_3, .int .u8 a0_4, .int .i64 a0_5, .int .i64 a0_6, .int .u8 a0_7] 54 (0, 0))) ∧ (w'.heap[s_.1]? = some (.cells #[.string (⟨#[]⟩ : ByteArray), .int .i64 0, .int .i64 0, .int .i64 0] 29 (0, 0))) ∧ (w'.heap[s_.2]? = some (.cells #[.int .i64 0, .int .i64 0] 41 (0, 0))) ∧ (w.heap.size ≤ s_.1) ∧ (w.heap.size ≤ s_.1) ∧ (gb349 ≠ s_.1) ∧ (s_.1 ≠ gb349) ∧ (s_.2 ≠ s_.1) ∧ (s_.1 ≠ s_.2) ∧ (w.heap.size ≤ s_.2) ∧ (w.heap.size ≤ s_.2) ∧ (gb349 ≠ s_.2) ∧ (s_.2 ≠ gb349) ∧ (Below w.heap.size w w')) ?_ ?_
    rotate_left
    · intro hCont
      refine two_ (i := 8) (j := 9) (Ni := some 3) (Nj := some 5) #[true, true, true, true, true, true, true, true, true, false, false, false, false, false] #[true, true, true, true, true, true, true, true, false, true, false, false, false, false] rfl rfl rfl rfl (two_of HT_.out (by kernel_rfl)) (by decide) (by decide) (fun K hK => ?_) (fun K hK => ?_)
      · skip
        refine box_step ?hg (N := 3) ?hd (cs := #[.string (⟨#[]⟩ : ByteArray), .int .i64 0, .int .i64 0, .int .i64 0]) (t := 29) ?hr ?_; (case hd => rfl); (case hg => rfl); (case hr => first | (go_simp; done) | (go_simp; rfl))
        intro gb350 hg w6 hbox hb
        have n0_ := Aside0.mk (blk_below (g := gb349) (o := .cells #[.string a0_0, .int .i64 a0_1, .int .i64 a0_2, .int .i64 a0_3, .int .u8 a0_4, .int .i64 a0_5, .int .i64 a0_6, .int .u8 a0_7] 54 (0, 0)) (by (with_reducible repeat (first | refine blk_drewN ?_ _ | refine blk_drew ?_ | refine blk_alloc ?_ _)); exact BK349.out) hb)
        have n1_ := Aside0.mk (below_step (by repeat (first | (with_reducible first | exact HB.out | apply below_alloc | apply pw_below_drewN | apply below_drew1 | refine below_set ?_ GE349.out) | exact HB.out)) hb)
        have n2_ := Aside0.mk (hbox)
        have n3_ := Aside0.mk ((by rw [hg]; exact (below_size (by repeat (first | (with_reducible first | exact HB.out | apply below_alloc | apply pw_below_drewN | apply below_drew1 | refine below_set ?_ GE349.out) | exact HB.out))) : w.heap.size ≤ gb350))
        have n4_ := Aside0.mk ((by rw [hg]; exact (below_size (by repeat (first | (with_reducible first | exact HB.out | apply below_alloc | apply pw_below_drewN | apply below_drew1 | refine below_set ?_ GE349.out) | exact HB.out))) : w.heap.size ≤ gb350))
        have n5_ := Aside0.mk ((by rw [hg]; exact Nat.ne_of_lt (blk_lt (g := gb349) (o := .cells #[.string a0_0, .int .i64 a0_1, .int .i64 a0_2, .int .i64 a0_3, .int .u8 a0_4, .int .i64 a0_5, .int .i64 a0_6, .int .u8 a0_7] 54 (0, 0)) (by (with_reducible repeat (first | refine blk_drewN ?_ _ | refine blk_drew ?_ | refine blk_alloc ?_ _)); exact BK349.out)) : gb349 ≠ gb350))
        have n6_ := Aside0.mk ((by rw [hg]; exact Nat.ne_of_gt (blk_lt (g := gb349) (o := .cells #[.string a0_0, .int .i64 a0_1, .int .i64 a0_2, .int .i64 a0_3, .int .u8 a0_4, .int .i64 a0_5, .int .i64 a0_6, .int .u8 a0_7] 54 (0, 0)) (by (with_reducible repeat (first | refine blk_drewN ?_ _ | refine blk_drew ?_ | refine blk_alloc ?_ _)); exact BK349.out)) : gb350 ≠ gb349))
        clear BK349
        clear HB
        have BK349 := n0_
        have HB := n1_
        have BK350 := n2_
        have GW350 := n3_
        have GE350 := n4_
        have NB349_350 := n5_
        have NB350_349 := n6_
        clear n0_ n1_ n2_ n3_ n4_ n5_ n6_
        clear hb hbox hg
        refine hK.out _ _ ⟨(blk_cell BK349.out 0).trans rfl, (blk_cell BK349.out 1).trans rfl, (blk_cell BK349.out 2).trans rfl, (blk_cell BK349.out 3).trans rfl, (blk_cell BK349.out 4).trans rfl, (blk_cell BK349.out 5).trans rfl, (blk_cell BK349.out 6).trans rfl, (blk_cell BK349.out 7).trans rfl⟩ (fun hHeld => ?_)
        clear hK K
        refine norm_ (a' := ?_) ?_ ?_
        rotate_left
        · show Act.put _ (some 3) _ = _
          simp only [Act.put, List.setIfInBounds_toArray, List.set_cons_zero, List.set_cons_succ, i64_w, i32_w]
          rfl
        refine one_ (i := 9) (N := some 5) #[true, true, true, true, true, true, true, true, true, true, false, false, false, false] rfl rfl (one_of HT_.out (by kernel_rfl)) (by decide) (fun K hK => ?_)
        refine box_step ?hg (N := 5) ?hd (cs := #[.int .i64 0, .int .i64 0]) (t := 41) ?hr ?_; (case hd => rfl); (case hg => rfl); (case hr => first | (go_simp; done) | (go_simp; rfl))
        intro gb351 hg w7 hbox hb
        have n0_ := Aside0.mk (blk_below (g := gb349) (o := .cells #[.string a0_0, .int .i64 a0_1, .int .i64 a0_2, .int .i64 a0_3, .int .u8 a0_4, .int .i64 a0_5, .int .i64 a0_6, .int .u8 a0_7] 54 (0, 0)) (by (with_reducible repeat (first | refine blk_drewN ?_ _ | refine blk_drew ?_ | refine blk_alloc ?_ _)); exact BK349.out) hb)
        have n1_ := Aside0.mk (blk_below (g := gb350) (o := .cells #[.string (⟨#[]⟩ : ByteArray), .int .i64 0, .int .i64 0, .int .i64 0] 29 (0, 0)) (by (with_reducible repeat (first | refine blk_drewN ?_ _ | refine blk_drew ?_ | refine blk_alloc ?_ _)); exact BK350.out) hb)
        have n2_ := Aside0.mk (below_step (by repeat (first | (with_reducible first | exact HB.out | apply below_alloc | apply pw_below_drewN | apply below_drew1 | refine below_set ?_ GE349.out | refine below_set ?_ GE350.out) | exact HB.out)) hb)
        have n3_ := Aside0.mk (hbox)
        have n4_ := Aside0.mk ((by rw [hg]; exact (below_size (by repeat (first | (with_reducible first | exact HB.out | apply below_alloc | apply pw_below_drewN | apply below_drew1 | refine below_set ?_ GE349.out | refine below_set ?_ GE350.out) | exact HB.out))) : w.heap.size ≤ gb351))
        have n5_ := Aside0.mk ((by rw [hg]; exact (below_size (by repeat (first | (with_reducible first | exact HB.out | apply below_alloc | apply pw_below_drewN | apply below_drew1 | refine below_set ?_ GE349.out | refine below_set ?_ GE350.out) | exact HB.out))) : w.heap.size ≤ gb351))
        have n6_ := Aside0.mk ((by rw [hg]; exact Nat.ne_of_lt (blk_lt (g := gb349) (o := .cells #[.string a0_0, .int .i64 a0_1, .int .i64 a0_2, .int .i64 a0_3, .int .u8 a0_4, .int .i64 a0_5, .int .i64 a0_6, .int .u8 a0_7] 54 (0, 0)) (by (with_reducible repeat (first | refine blk_drewN ?_ _ | refine blk_drew ?_ | refine blk_alloc ?_ _)); exact BK349.out)) : gb349 ≠ gb351))
        have n7_ := Aside0.mk ((by rw [hg]; exact Nat.ne_of_gt (blk_lt (g := gb349) (o := .cells #[.string a0_0, .int .i64 a0_1, .int .i64 a0_2, .int .i64 a0_3, .int .u8 a0_4, .int .i64 a0_5, .int .i64 a0_6, .int .u8 a0_7] 54 (0, 0)) (by (with_reducible repeat (first | refine blk_drewN ?_ _ | refine blk_drew ?_ | refine blk_alloc ?_ _)); exact BK349.out)) : gb351 ≠ gb349))
        have n8_ := Aside0.mk ((by rw [hg]; exact Nat.ne_of_lt (blk_lt (g := gb350) (o := .cells #[.string (⟨#[]⟩ : ByteArray), .int .i64 0, .int .i64 0, .int .i64 0] 29 (0, 0)) (by (with_reducible repeat (first | refine blk_drewN ?_ _ | refine blk_drew ?_ | refine blk_alloc ?_ _)); exact BK350.out)) : gb350 ≠ gb351))
        have n9_ := Aside0.mk ((by rw [hg]; exact Nat.ne_of_gt (blk_lt (g := gb350) (o := .cells #[.string (⟨#[]⟩ : ByteArray), .int .i64 0, .int .i64 0, .int .i64 0] 29 (0, 0)) (by (with_reducible repeat (first | refine blk_drewN ?_ _ | refine blk_drew ?_ | refine blk_alloc ?_ _)); exact BK350.out)) : gb351 ≠ gb350))
        clear BK349
        clear BK350
        clear HB
        have BK349 := n0_
        have BK350 := n1_
        have HB := n2_
        have BK351 := n3_
        have GW351 := n4_
        have GE351 := n5_
        have NB349_351 := n6_
        have NB351_349 := n7_
        have NB350_351 := n8_
        have NB351_350 := n9_
        clear n0_ n1_ n2_ n3_ n4_ n5_ n6_ n7_ n8_ n9_
        clear hb hbox hg
        refine hK.out _ _ ⟨(blk_cell BK349.out 0).trans rfl, (blk_cell BK349.out 1).trans rfl, (blk_cell BK349.out 2).trans rfl, (blk_cell BK349.out 3).trans rfl, (blk_cell BK349.out 4).trans rfl, (blk_cell BK349.out 5).trans rfl, (blk_cell BK349.out 6).trans rfl, (blk_cell BK349.out 7).trans rfl⟩ (fun hHeld => ?_)
        clear hK K
        refine norm_ (a' := ?_) ?_ ?_
        rotate_left
        · show Act.put _ (some 5) _ = _
          simp only [Act.put, List.setIfInBounds_toArray, List.set_cons_zero, List.set_cons_succ, i64_w, i32_w]
          rfl
        exact norm_ (by simp only [putAll, Act.put, List.setIfInBounds_toArray, List.set_cons_zero, List.set_cons_succ]) (hCont (gb350, gb351) _ ⟨hHeld, (by (with_reducible repeat (first | refine blk_drewN ?_ _ | refine blk_drew ?_ | refine blk_alloc ?_ _)); exact BK349.out), (by (with_reducible repeat (first | refine blk_drewN ?_ _ | refine blk_drew ?_ | refine blk_alloc ?_ _)); exact BK350.out), (by (with_reducible repeat (first | refine blk_drewN ?_ _ | refine blk_drew ?_ | refine blk_alloc ?_ _)); exact BK351.out), GW350.out, GE350.out, NB349_350.out, NB350_349.out, NB351_350.out, NB350_351.out, GW351.out, GE351.out, NB349_351.out, NB351_349.out, (by repeat (first | (with_reducible first | exact HB.out | apply below_alloc | apply pw_below_drewN | apply below_drew1 | refine below_set ?_ GE349.out | refine below_set ?_ GE350.out | refine below_set ?_ GE351.out) | exact HB.out))⟩)
      · skip
        refine box_step ?hg (N := 5) ?hd (cs := #[.int .i64 0, .int .i64 0]) (t := 41) ?hr ?_; (case hd => rfl); (case hg => rfl); (case hr => first | (go_simp; done) | (go_simp; rfl))
        intro gb351 hg w6 hbox hb
        have n0_ := Aside0.mk (blk_below (g := gb349) (o := .cells #[.string a0_0, .int .i64 a0_1, .int .i64 a0_2, .int .i64 a0_3, .int .u8 a0_4, .int .i64 a0_5, .int .i64 a0_6, .int .u8 a0_7] 54 (0, 0)) (by (with_reducible repeat (first | refine blk_drewN ?_ _ | refine blk_drew ?_ | refine blk_alloc ?_ _)); exact BK349.out) hb)
        have n1_ := Aside0.mk (below_step (by repeat (first | (with_reducible first | exact HB.out | apply below_alloc | apply pw_below_drewN | apply below_drew1 | refine below_set ?_ GE349.out) | exact HB.out)) hb)
        have n2_ := Aside0.mk (hbox)
        have n3_ := Aside0.mk ((by rw [hg]; exact (below_size (by repeat (first | (with_reducible first | exact HB.out | apply below_alloc | apply pw_below_drewN | apply below_drew1 | refine below_set ?_ GE349.out) | exact HB.out))) : w.heap.size ≤ gb351))
        have n4_ := Aside0.mk ((by rw [hg]; exact (below_size (by repeat (first | (with_reducible first | exact HB.out | apply below_alloc | apply pw_below_drewN | apply below_drew1 | refine below_set ?_ GE349.out) | exact HB.out))) : w.heap.size ≤ gb351))
        have n5_ := Aside0.mk ((by rw [hg]; exact Nat.ne_of_lt (blk_lt (g := gb349) (o := .cells #[.string a0_0, .int .i64 a0_1, .int .i64 a0_2, .int .i64 a0_3, .int .u8 a0_4, .int .i64 a0_5, .int .i64 a0_6, .int .u8 a0_7] 54 (0, 0)) (by (with_reducible repeat (first | refine blk_drewN ?_ _ | refine blk_drew ?_ | refine blk_alloc ?_ _)); exact BK349.out)) : gb349 ≠ gb351))
        have n6_ := Aside0.mk ((by rw [hg]; exact Nat.ne_of_gt (blk_lt (g := gb349) (o := .cells #[.string a0_0, .int .i64 a0_1, .int .i64 a0_2, .int .i64 a0_3, .int .u8 a0_4, .int .i64 a0_5, .int .i64 a0_6, .int .u8 a0_7] 54 (0, 0)) (by (with_reducible repeat (first | refine blk_drewN ?_ _ | refine blk_drew ?_ | refine blk_alloc ?_ _)); exact BK349.out)) : gb351 ≠ gb349))
        clear BK349
        clear HB
        have BK349 := n0_
        have HB := n1_
        have BK351 := n2_
        have GW351 := n3_
        have GE351 := n4_
        have NB349_351 := n5_
        have NB351_349 := n6_
        clear n0_ n1_ n2_ n3_ n4_ n5_ n6_
        clear hb hbox hg
        refine hK.out _ _ ⟨(blk_cell BK349.out 0).trans rfl, (blk_cell BK349.out 1).trans rfl, (blk_cell BK349.out 2).trans rfl, (blk_cell BK349.out 3).trans rfl, (blk_cell BK349.out 4).trans rfl, (blk_cell BK349.out 5).trans rfl, (blk_cell BK349.out 6).trans rfl, (blk_cell BK349.out 7).trans rfl⟩ (fun hHeld => ?_)
        clear hK K
        refine norm_ (a' := ?_) ?_ ?_
        rotate_left
        · show Act.put _ (some 5) _ = _
          simp only [Act.put, List.setIfInBounds_toArray, List.set_cons_zero, List.set_cons_succ, i64_w, i32_w]
          rfl
        refine one_ (i := 8) (N := some 3) #[true, true, true, true, true, true, true, true, true, true, false, false, false, false] rfl rfl (one_of HT_.out (by kernel_rfl)) (by decide) (fun K hK => ?_)
        refine box_step ?hg (N := 3) ?hd (cs := #[.string (⟨#[]⟩ : ByteArray), .int .i64 0, .int .i64 0, .int .i64 0]) (t := 29) ?hr ?_; (case hd => rfl); (case hg => rfl); (case hr => first | (go_simp; done) | (go_simp; rfl))
        intro gb350 hg w7 hbox hb
        have n0_ := Aside0.mk (blk_below (g := gb349) (o := .cells #[.string a0_0, .int .i64 a0_1, .int .i64 a0_2, .int .i64 a0_3, .int .u8 a0_4, .int .i64 a0_5, .int .i64 a0_6, .int .u8 a0_7] 54 (0, 0)) (by (with_reducible repeat (first | refine blk_drewN ?_ _ | refine blk_drew ?_ | refine blk_alloc ?_ _)); exact BK349.out) hb)
        have n1_ := Aside0.mk (blk_below (g := gb351) (o := .cells #[.int .i64 0, .int .i64 0] 41 (0, 0)) (by (with_reducible repeat (first | refine blk_drewN ?_ _ | refine blk_drew ?_ | refine blk_alloc ?_ _)); exact BK351.out) hb)
        have n2_ := Aside0.mk (below_step (by repeat (first | (with_reducible first | exact HB.out | apply below_alloc | apply pw_below_drewN | apply below_drew1 | refine below_set ?_ GE349.out | refine below_set ?_ GE351.out) | exact HB.out)) hb)
        have n3_ := Aside0.mk (hbox)
        have n4_ := Aside0.mk ((by rw [hg]; exact (below_size (by repeat (first | (with_reducible first | exact HB.out | apply below_alloc | apply pw_below_drewN | apply below_drew1 | refine below_set ?_ GE349.out | refine below_set ?_ GE351.out) | exact HB.out))) : w.heap.size ≤ gb350))
        have n5_ := Aside0.mk ((by rw [hg]; exact (below_size (by repeat (first | (with_reducible first | exact HB.out | apply below_alloc | apply pw_below_drewN | apply below_drew1 | refine below_set ?_ GE349.out | refine below_set ?_ GE351.out) | exact HB.out))) : w.heap.size ≤ gb350))
        have n6_ := Aside0.mk ((by rw [hg]; exact Nat.ne_of_lt (blk_lt (g := gb349) (o := .cells #[.string a0_0, .int .i64 a0_1, .int .i64 a0_2, .int .i64 a0_3, .int .u8 a0_4, .int .i64 a0_5, .int .i64 a0_6, .int .u8 a0_7] 54 (0, 0)) (by (with_reducible repeat (first | refine blk_drewN ?_ _ | refine blk_drew ?_ | refine blk_alloc ?_ _)); exact BK349.out)) : gb349 ≠ gb350))
        have n7_ := Aside0.mk ((by rw [hg]; exact Nat.ne_of_gt (blk_lt (g := gb349) (o := .cells #[.string a0_0, .int .i64 a0_1, .int .i64 a0_2, .int .i64 a0_3, .int .u8 a0_4, .int .i64 a0_5, .int .i64 a0_6, .int .u8 a0_7] 54 (0, 0)) (by (with_reducible repeat (first | refine blk_drewN ?_ _ | refine blk_drew ?_ | refine blk_alloc ?_ _)); exact BK349.out)) : gb350 ≠ gb349))
        have n8_ := Aside0.mk ((by rw [hg]; exact Nat.ne_of_lt (blk_lt (g := gb351) (o := .cells #[.int .i64 0, .int .i64 0] 41 (0, 0)) (by (with_reducible repeat (first | refine blk_drewN ?_ _ | refine blk_drew ?_ | refine blk_alloc ?_ _)); exact BK351.out)) : gb351 ≠ gb350))
        have n9_ := Aside0.mk ((by rw [hg]; exact Nat.ne_of_gt (blk_lt (g := gb351) (o := .cells #[.int .i64 0, .int .i64 0] 41 (0, 0)) (by (with_reducible repeat (first | refine blk_drewN ?_ _ | refine blk_drew ?_ | refine blk_alloc ?_ _)); exact BK351.out)) : gb350 ≠ gb351))
        clear BK349
        clear BK351
        clear HB
        have BK349 := n0_
        have BK351 := n1_
        have HB := n2_
        have BK350 := n3_
        have GW350 := n4_
        have GE350 := n5_
        have NB349_350 := n6_
        have NB350_349 := n7_
        have NB351_350 := n8_
        have NB350_351 := n9_
        clear n0_ n1_ n2_ n3_ n4_ n5_ n6_ n7_ n8_ n9_
        clear hb hbox hg
        refine hK.out _ _ ⟨(blk_cell BK349.out 0).trans rfl, (blk_cell BK349.out 1).trans rfl, (blk_cell BK349.out 2).trans rfl, (blk_cell BK349.out 3).trans rfl, (blk_cell BK349.out 4).trans rfl, (blk_cell BK349.out 5).trans rfl, (blk_cell BK349.out 6).trans rfl, (blk_cell BK349.out 7).trans rfl⟩ (fun hHeld => ?_)
        clear hK K
        refine norm_ (a' := ?_) ?_ ?_
        rotate_left
        · show Act.put _ (some 3) _ = _
          simp only [Act.put, List.setIfInBounds_toArray, List.set_cons_zero, List.set_cons_succ, i64_w, i32_w]
          rfl
        exact norm_ (by simp only [putAll, Act.put, List.setIfInBounds_toArray, List.set_cons_zero, List.set_cons_succ]) (hCont (gb350, gb351) _ ⟨hHeld, (by (with_reducible repeat (first | refine blk_drewN ?_ _ | refine blk_drew ?_ | refine blk_alloc ?_ _)); exact BK349.out), (by (with_reducible repeat (first | refine blk_drewN ?_ _ | refine blk_drew ?_ | refine blk_alloc ?_ _)); exact BK350.out), (by (with_reducible repeat (first | refine blk_drewN ?_ _ | refine blk_drew ?_ | refine blk_alloc ?_ _)); exact BK351.out), GW350.out, GE350.out, NB349_350.out, NB350_349.out, NB351_350.out, NB350_351.out, GW351.out, GE351.out, NB349_351.out, NB351_349.out, (by repeat (first | (with_reducible first | exact HB.out | apply below_alloc | apply pw_below_drewN | apply below_drew1 | refine below_set ?_ GE349.out | refine below_set ?_ GE351.out | refine below_set ?_ GE350.out) | exact HB.out))⟩)
    rintro ⟨gb350, gb351⟩ w8 ⟨hS_, h0_, h1_, h2_, h3_, h4_, h5_, h6_, h7_, h8_, h9_, h10_, h11_, h12_, h13_⟩
    have n0_ : Aside0 (w8.heap[gb349]? = some (.cells #[.string a0_0, .int .i64 a0_1, .int .i64 a0_2, .int .i64 a0_3, .int .u8 a0_4, .int .i64 a0_5, .int .i64 a0_6, .int .u8 a0_7] 54 (0, 0))) := ⟨h0_⟩
    have n1_ : Aside0 (w8.heap[gb350]? = some (.cells #[.string (⟨#[]⟩ : ByteArray), .int .i64 0, .int .i64 0, .int .i64 0] 29 (0, 0))) := ⟨h1_⟩
    have n2_ : Aside0 (w8.heap[gb351]? = some (.cells #[.int .i64 0, .int .i64 0] 41 (0, 0))) := ⟨h2_⟩
    have n3_ : Aside0 (w.heap.size ≤ gb350) := ⟨h3_⟩
    have n4_ : Aside0 (w.heap.size ≤ gb350) := ⟨h4_⟩
    have n5_ : Aside0 (gb349 ≠ gb350) := ⟨h5_⟩
    have n6_ : Aside0 (gb350 ≠ gb349) := ⟨h6_⟩
    have n7_ : Aside0 (gb351 ≠ gb350) := ⟨h7_⟩
    have n8_ : Aside0 (gb350 ≠ gb351) := ⟨h8_⟩
    have n9_ : Aside0 (w.heap.size ≤ gb351) := ⟨h9_⟩
    have n10_ : Aside0 (w.heap.size ≤ gb351) := ⟨h10_⟩
    have n11_ : Aside0 (gb349 ≠ gb351) := ⟨h11_⟩
    have n12_ : Aside0 (gb351 ≠ gb349) := ⟨h12_⟩
    have n13_ : Aside0 (Below w.heap.size w w8) := ⟨h13_⟩
    clear BK349
    clear HB
    clear h0_ h1_ h2_ h3_ h4_ h5_ h6_ h7_ h8_ h9_ h10_ h11_ h12_ h13_
    have BK349 := n0_
    have BK350 := n1_
    have BK351 := n2_
    have GW350 := n3_
    have GE350 := n4_
    have NB349_350 := n5_
    have NB350_349 := n6_
    have NB351_350 := n7_
    have NB350_351 := n8_
    have GW351 := n9_
    have GE351 := n10_
    have NB349_351 := n11_
    have NB351_349 := n12_
    have HB := n13_
    clear n0_ n1_ n2_ n3_ n4_ n5_ n6_ n7_ n8_ n9_ n10_ n11_ n12_ n13_
    have hHeld : w8.cell? ⟨gb349, 0, none⟩ = some (.string a0_0) ∧ w8.cell? ⟨gb349, 1, none⟩ = some (.int .i64 a0_1) ∧ w8.cell? ⟨gb349, 2, none⟩ = some (.int .i64 a0_2) ∧ w8.cell? ⟨gb349, 3, none⟩ = some (.int .i64 a0_3) ∧ w8.cell? ⟨gb349, 4, none⟩ = some (.int .u8 a0_4) ∧ w8.cell? ⟨gb349, 5, none⟩ = some (.int .i64 a0_5) ∧ w8.cell? ⟨gb349, 6, none⟩ = some (.int .i64 a0_6) ∧ w8.cell? ⟨gb349, 7, none⟩ = some (.int .u8 a0_7) := hS_
    refine norm_ (a' := ?_) ?_ ?_
    rotate_left
    · simp only [putAll, Act.put, List.setIfInBounds_toArray, List.set_cons_zero, List.set_cons_succ]
      rfl
    refine one_ (i := 10) (N := none) #[true, true, true, true, true, true, true, true, true, true, true, false, false, false] rfl rfl (one_of HT_.out (by kernel_rfl)) (by decide) (fun K hK => ?_)
    have hs9 : w8.cell? ⟨gb350, 0, none⟩ = some (.string (⟨#[]⟩ : ByteArray)) := (blk_cell BK350.out 0).trans rfl
    have hfs9 := blk_frozen BK350.out 0
    have hns9_0 := NB349_350.out
    have hns9_2 := NB351_350.out
    have hms9_0 := NB350_349.out
    have hms9_2 := NB350_351.out
    have hs10 : w8.cell? ⟨gb350, 1, none⟩ = some (.int .i64 0) := (blk_cell BK350.out 1).trans rfl
    have hfs10 := blk_frozen BK350.out 1
    have hns10_0 := NB349_350.out
    have hns10_2 := NB351_350.out
    have hms10_0 := NB350_349.out
    have hms10_2 := NB350_351.out
    have hs11 : w8.cell? ⟨gb350, 2, none⟩ = some (.int .i64 0) := (blk_cell BK350.out 2).trans rfl
    have hfs11 := blk_frozen BK350.out 2
    have hns11_0 := NB349_350.out
    have hns11_2 := NB351_350.out
    have hms11_0 := NB350_349.out
    have hms11_2 := NB350_351.out
    have hs12 : w8.cell? ⟨gb350, 3, none⟩ = some (.int .i64 0) := (blk_cell BK350.out 3).trans rfl
    have hfs12 := blk_frozen BK350.out 3
    have hns12_0 := NB349_350.out
    have hns12_2 := NB351_350.out
    have hms12_0 := NB350_349.out
    have hms12_2 := NB350_351.out
    refine skip_ (w1 := ?_) (by rfl) rfl ?_ ?_
    rotate_left
    · go_simp
      rfl
    refine hK.out _ _ ⟨((cell_far (p := ⟨gb350, _, none⟩) NB349_350.out _).trans (((cell_far (p := ⟨gb350, _, none⟩) NB349_350.out _).trans (((cell_far (p := ⟨gb350, _, none⟩) NB349_350.out _).trans (((cell_far (p := ⟨gb350, _, none⟩) NB349_350.out _).trans (hHeld.1)))))))), ((cell_far (p := ⟨gb350, _, none⟩) NB349_350.out _).trans (((cell_far (p := ⟨gb350, _, none⟩) NB349_350.out _).trans (((cell_far (p := ⟨gb350, _, none⟩) NB349_350.out _).trans (((cell_far (p := ⟨gb350, _, none⟩) NB349_350.out _).trans (hHeld.2.1)))))))), ((cell_far (p := ⟨gb350, _, none⟩) NB349_350.out _).trans (((cell_far (p := ⟨gb350, _, none⟩) NB349_350.out _).trans (((cell_far (p := ⟨gb350, _, none⟩) NB349_350.out _).trans (((cell_far (p := ⟨gb350, _, none⟩) NB349_350.out _).trans (hHeld.2.2.1)))))))), ((cell_far (p := ⟨gb350, _, none⟩) NB349_350.out _).trans (((cell_far (p := ⟨gb350, _, none⟩) NB349_350.out _).trans (((cell_far (p := ⟨gb350, _, none⟩) NB349_350.out _).trans (((cell_far (p := ⟨gb350, _, none⟩) NB349_350.out _).trans (hHeld.2.2.2.1)))))))), ((cell_far (p := ⟨gb350, _, none⟩) NB349_350.out _).trans (((cell_far (p := ⟨gb350, _, none⟩) NB349_350.out _).trans (((cell_far (p := ⟨gb350, _, none⟩) NB349_350.out _).trans (((cell_far (p := ⟨gb350, _, none⟩) NB349_350.out _).trans (hHeld.2.2.2.2.1)))))))), ((cell_far (p := ⟨gb350, _, none⟩) NB349_350.out _).trans (((cell_far (p := ⟨gb350, _, none⟩) NB349_350.out _).trans (((cell_far (p := ⟨gb350, _, none⟩) NB349_350.out _).trans (((cell_far (p := ⟨gb350, _, none⟩) NB349_350.out _).trans (hHeld.2.2.2.2.2.1)))))))), ((cell_far (p := ⟨gb350, _, none⟩) NB349_350.out _).trans (((cell_far (p := ⟨gb350, _, none⟩) NB349_350.out _).trans (((cell_far (p := ⟨gb350, _, none⟩) NB349_350.out _).trans (((cell_far (p := ⟨gb350, _, none⟩) NB349_350.out _).trans (hHeld.2.2.2.2.2.2.1)))))))), ((cell_far (p := ⟨gb350, _, none⟩) NB349_350.out _).trans (((cell_far (p := ⟨gb350, _, none⟩) NB349_350.out _).trans (((cell_far (p := ⟨gb350, _, none⟩) NB349_350.out _).trans (((cell_far (p := ⟨gb350, _, none⟩) NB349_350.out _).trans (hHeld.2.2.2.2.2.2.2))))))))⟩ (fun hHeld => ?_)
    clear hK K
    refine pure_ (i := 11) (N := some 4) (v := ?_) (a' := ?_) #[true, true, true, true, true, true, true, true, true, true, true, true, false, false] rfl rfl (any_of HT_.out (by kernel_rfl)) (fun _ _ _ h => h) (Or.inl ⟨by rfl, ?_⟩) ?_ ?_
    rotate_left
    · intro w'
      go_simp
      with_reducible rfl
    rotate_left
    · simp only [Act.put, List.setIfInBounds_toArray, List.set_cons_zero, List.set_cons_succ, i64_w, i32_w]
      rfl
    refine one_ (i := 12) (N := none) #[true, true, true, true, true, true, true, true, true, true, true, true, true, false] rfl rfl (one_of HT_.out (by kernel_rfl)) (by decide) (fun K hK => ?_)
    have hs13 : w8.cell? ⟨gb351, 0, none⟩ = some (.int .i64 0) := (blk_cell BK351.out 0).trans rfl
    have hfs13 := blk_frozen BK351.out 0
    have hns13_0 := NB349_351.out
    have hns13_1 := NB350_351.out
    have hms13_0 := NB351_349.out
    have hms13_1 := NB351_350.out
    have hs14 : w8.cell? ⟨gb351, 1, none⟩ = some (.int .i64 0) := (blk_cell BK351.out 1).trans rfl
    have hfs14 := blk_frozen BK351.out 1
    have hns14_0 := NB349_351.out
    have hns14_1 := NB350_351.out
    have hms14_0 := NB351_349.out
    have hms14_1 := NB351_350.out
    refine skip_ (w1 := ?_) (by rfl) rfl ?_ ?_
    rotate_left
    · go_simp
      rfl
    refine hK.out _ _ ⟨((cell_far (p := ⟨gb351, _, none⟩) NB349_351.out _).trans (((cell_far (p := ⟨gb351, _, none⟩) NB349_351.out _).trans (hHeld.1)))), ((cell_far (p := ⟨gb351, _, none⟩) NB349_351.out _).trans (((cell_far (p := ⟨gb351, _, none⟩) NB349_351.out _).trans (hHeld.2.1)))), ((cell_far (p := ⟨gb351, _, none⟩) NB349_351.out _).trans (((cell_far (p := ⟨gb351, _, none⟩) NB349_351.out _).trans (hHeld.2.2.1)))), ((cell_far (p := ⟨gb351, _, none⟩) NB349_351.out _).trans (((cell_far (p := ⟨gb351, _, none⟩) NB349_351.out _).trans (hHeld.2.2.2.1)))), ((cell_far (p := ⟨gb351, _, none⟩) NB349_351.out _).trans (((cell_far (p := ⟨gb351, _, none⟩) NB349_351.out _).trans (hHeld.2.2.2.2.1)))), ((cell_far (p := ⟨gb351, _, none⟩) NB349_351.out _).trans (((cell_far (p := ⟨gb351, _, none⟩) NB349_351.out _).trans (hHeld.2.2.2.2.2.1)))), ((cell_far (p := ⟨gb351, _, none⟩) NB349_351.out _).trans (((cell_far (p := ⟨gb351, _, none⟩) NB349_351.out _).trans (hHeld.2.2.2.2.2.2.1)))), ((cell_far (p := ⟨gb351, _, none⟩) NB349_351.out _).trans (((cell_far (p := ⟨gb351, _, none⟩) NB349_351.out _).trans (hHeld.2.2.2.2.2.2.2))))⟩ (fun hHeld => ?_)
    clear hK K
    refine pure_ (i := 13) (N := some 6) (v := ?_) (a' := ?_) #[true, true, true, true, true, true, true, true, true, true, true, true, true, true] rfl rfl (any_of HT_.out (by kernel_rfl)) (fun _ _ _ h => h) (Or.inl ⟨by rfl, ?_⟩) ?_ ?_
    rotate_left
    · intro w'
      go_simp
      with_reducible rfl
    rotate_left
    · simp only [Act.put, List.setIfInBounds_toArray, List.set_cons_zero, List.set_cons_succ, i64_w, i32_w]
      rfl
    refine done_ (done_of HT_.out (by kernel_rfl)) ?_
    have hnb15 := NB350_349.out
    have hnc15 := NB349_350.out
    have hnb16 := NB350_351.out
    have hnc16 := NB351_350.out
    have hcz17_0 : w8.cell? ⟨gb350, 0, none⟩ = some (.string (⟨#[]⟩ : ByteArray)) := (blk_cell BK350.out 0).trans rfl
    have hcz17_1 : w8.cell? ⟨gb350, 1, none⟩ = some (.int .i64 0) := (blk_cell BK350.out 1).trans rfl
    have hcz17_2 : w8.cell? ⟨gb350, 2, none⟩ = some (.int .i64 0) := (blk_cell BK350.out 2).trans rfl
    have hcz17_3 : w8.cell? ⟨gb350, 3, none⟩ = some (.int .i64 0) := (blk_cell BK350.out 3).trans rfl
    have hfz17_0 := blk_frozen BK350.out 0
    have hfz17_1 := blk_frozen BK350.out 1
    have hfz17_2 := blk_frozen BK350.out 2
    have hfz17_3 := blk_frozen BK350.out 3
    try go_wp2_with (first | ((with_reducible refine gate_callee (f := 36) rfl ?_); refine goesL_ (some 20) rfl rfl Try.func36 (by kernel_rfl) rfl #[] rfl (by (try simp only [List.map_toArray, List.map_cons, List.map_nil]); first | done | rfl | (simp only [List.length_drop, List.length_take]; rfl)) ?_; (with_reducible refine (riverbanklaw14_live.calls  t352 _ A3.out).mono ?_); rintro e w18 ⟨rfl, hb⟩; refine ⟨_, rfl, ?_⟩; have n0_ := Aside0.mk (blk_below (g := gb349) (o := .cells #[.string a0_0, .int .i64 a0_1, .int .i64 a0_2, .int .i64 a0_3, .int .u8 a0_4, .int .i64 a0_5, .int .i64 a0_6, .int .u8 a0_7] 54 (0, 0)) (by (with_reducible repeat (first | refine blk_drewN ?_ _ | refine blk_drew ?_ | refine blk_alloc ?_ _)); refine blk_far ?_ NB349_351.out _; (with_reducible repeat (first | refine blk_drewN ?_ _ | refine blk_drew ?_ | refine blk_alloc ?_ _)); refine blk_far ?_ NB349_351.out _; (with_reducible repeat (first | refine blk_drewN ?_ _ | refine blk_drew ?_ | refine blk_alloc ?_ _)); refine blk_far ?_ NB349_350.out _; (with_reducible repeat (first | refine blk_drewN ?_ _ | refine blk_drew ?_ | refine blk_alloc ?_ _)); refine blk_far ?_ NB349_350.out _; (with_reducible repeat (first | refine blk_drewN ?_ _ | refine blk_drew ?_ | refine blk_alloc ?_ _)); refine blk_far ?_ NB349_350.out _; (with_reducible repeat (first | refine blk_drewN ?_ _ | refine blk_drew ?_ | refine blk_alloc ?_ _)); refine blk_far ?_ NB349_350.out _; (with_reducible repeat (first | refine blk_drewN ?_ _ | refine blk_drew ?_ | refine blk_alloc ?_ _)); exact BK349.out) hb); have n1_ := Aside0.mk (blk_below (g := gb350) (o := .cells #[.string a0_0, .int .i64 a0_1, .int .i64 a0_2, .int .i64 a0_3] 29 (0, 0)) (by (with_reducible repeat (first | refine blk_drewN ?_ _ | refine blk_drew ?_ | refine blk_alloc ?_ _)); refine blk_far ?_ NB350_351.out _; (with_reducible repeat (first | refine blk_drewN ?_ _ | refine blk_drew ?_ | refine blk_alloc ?_ _)); refine blk_far ?_ NB350_351.out _; (with_reducible repeat (first | refine blk_drewN ?_ _ | refine blk_drew ?_ | refine blk_alloc ?_ _)); refine blk_put (cs := #[.string a0_0, .int .i64 a0_1, .int .i64 a0_2, .int .i64 0]) ?_ 3 _ rfl; (with_reducible repeat (first | refine blk_drewN ?_ _ | refine blk_drew ?_ | refine blk_alloc ?_ _)); refine blk_put (cs := #[.string a0_0, .int .i64 a0_1, .int .i64 0, .int .i64 0]) ?_ 2 _ rfl; (with_reducible repeat (first | refine blk_drewN ?_ _ | refine blk_drew ?_ | refine blk_alloc ?_ _)); refine blk_put (cs := #[.string a0_0, .int .i64 0, .int .i64 0, .int .i64 0]) ?_ 1 _ rfl; (with_reducible repeat (first | refine blk_drewN ?_ _ | refine blk_drew ?_ | refine blk_alloc ?_ _)); refine blk_put (cs := #[.string (⟨#[]⟩ : ByteArray), .int .i64 0, .int .i64 0, .int .i64 0]) ?_ 0 _ rfl; (with_reducible repeat (first | refine blk_drewN ?_ _ | refine blk_drew ?_ | refine blk_alloc ?_ _)); exact BK350.out) hb); have n2_ := Aside0.mk (blk_below (g := gb351) (o := .cells #[.int .i64 a0_5, .int .i64 a0_6] 41 (0, 0)) (by (with_reducible repeat (first | refine blk_drewN ?_ _ | refine blk_drew ?_ | refine blk_alloc ?_ _)); refine blk_put (cs := #[.int .i64 a0_5, .int .i64 0]) ?_ 1 _ rfl; (with_reducible repeat (first | refine blk_drewN ?_ _ | refine blk_drew ?_ | refine blk_alloc ?_ _)); refine blk_put (cs := #[.int .i64 0, .int .i64 0]) ?_ 0 _ rfl; (with_reducible repeat (first | refine blk_drewN ?_ _ | refine blk_drew ?_ | refine blk_alloc ?_ _)); refine blk_far ?_ NB351_350.out _; (with_reducible repeat (first | refine blk_drewN ?_ _ | refine blk_drew ?_ | refine blk_alloc ?_ _)); refine blk_far ?_ NB351_350.out _; (with_reducible repeat (first | refine blk_drewN ?_ _ | refine blk_drew ?_ | refine blk_alloc ?_ _)); refine blk_far ?_ NB351_350.out _; (with_reducible repeat (first | refine blk_drewN ?_ _ | refine blk_drew ?_ | refine blk_alloc ?_ _)); refine blk_far ?_ NB351_350.out _; (with_reducible repeat (first | refine blk_drewN ?_ _ | refine blk_drew ?_ | refine blk_alloc ?_ _)); exact BK351.out) hb); have n3_ := Aside0.mk (below_step (by repeat (first | (with_reducible first | exact HB.out | apply below_alloc | apply pw_below_drewN | apply below_drew1 | refine below_set ?_ GE349.out | refine below_set ?_ GE350.out | refine below_set ?_ GE351.out) | exact HB.out)) hb); clear BK349; clear BK350; clear BK351; clear HB; have BK349 := n0_; have BK350 := n1_; have BK351 := n2_; have HB := n3_; clear n0_ n1_ n2_ n3_; (try clear hb); (try clear hb2); (try clear hk); (try clear hi)))
    go_ret
    exact ⟨by first | rfl | (simp [errW_none, errW_some] <;> rfl) | (simp [*, errW_none, errW_some] <;> rfl), by repeat (first | (with_reducible first | exact HB.out | apply below_alloc | apply pw_below_drewN | apply below_drew1 | refine below_set ?_ GE349.out | refine below_set ?_ GE350.out | refine below_set ?_ GE351.out) | exact HB.out)⟩
  · rw [if_neg c2] at H
    have c2b0 : decide (200 < (a0_0.size : Int)) = false := decide_eq_false c2
    have c2b1 : decide (200 < a0_0.size) = false := decide_eq_false (by omega)
    clear c2
    replace H := Option.bind_eq_some_iff.mp H
    obtain ⟨t353, A190, H⟩ := H
    replace H : ((riverbankref14_Of.f k a0_0 a0_1 a0_2 a0_3).bind fun t354 => (if t353 = t354 then ((value_Moved.f k t353 a0_4 a0_5 a0_6 a0_7).bind fun t355 => ((riverbankref14_Moved.f k t353 a0_4 a0_5 a0_6 a0_7).bind fun t356 => (if t355 = t356 then ((riverbanklaw14_live.f).bind fun t357 => (some t357)) else (some false)))) else (some false))) = some r := H
    have A19 := Aside0.mk A190
    clear A190
    replace H := Option.bind_eq_some_iff.mp H
    obtain ⟨t354, A200, H⟩ := H
    replace H : (if t353 = t354 then ((value_Moved.f k t353 a0_4 a0_5 a0_6 a0_7).bind fun t355 => ((riverbankref14_Moved.f k t353 a0_4 a0_5 a0_6 a0_7).bind fun t356 => (if t355 = t356 then ((riverbanklaw14_live.f).bind fun t357 => (some t357)) else (some false)))) else (some false)) = some r := H
    have A20 := Aside0.mk A200
    clear A200
    by_cases c21 : t353 = t354
    · rw [if_pos c21] at H
      have c21b0 : (t353 == t354) = true := beq_iff_eq.mpr c21
      have c21b1 : (t353 != t354) = false := bne_eq_false_iff_eq.mpr c21
      clear c21
      replace H := Option.bind_eq_some_iff.mp H
      obtain ⟨t355, A220, H⟩ := H
      replace H : ((riverbankref14_Moved.f k t353 a0_4 a0_5 a0_6 a0_7).bind fun t356 => (if t355 = t356 then ((riverbanklaw14_live.f).bind fun t357 => (some t357)) else (some false))) = some r := H
      have A22 := Aside0.mk A220
      clear A220
      replace H := Option.bind_eq_some_iff.mp H
      obtain ⟨t356, A230, H⟩ := H
      replace H : (if t355 = t356 then ((riverbanklaw14_live.f).bind fun t357 => (some t357)) else (some false)) = some r := H
      have A23 := Aside0.mk A230
      clear A230
      by_cases c24 : t355 = t356
      · rw [if_pos c24] at H
        have c24b0 : (t355 == t356) = true := beq_iff_eq.mpr c24
        have c24b1 : (t355 != t356) = false := bne_eq_false_iff_eq.mpr c24
        clear c24
        replace H := Option.bind_eq_some_iff.mp H
        obtain ⟨t357, A250, H⟩ := H
        replace H : (some t357) = some r := H
        have A25 := Aside0.mk A250
        clear A250
        obtain rfl := Option.some.inj H
        go_enter Try.func11, Try.ntmps11
        try go_wp2_with (first | ((with_reducible refine gate_dst (N := 1) rfl ?_); refine box_event ?hg (N := 1) ?hd (cs := #[.string a0_0, .int .i64 a0_1, .int .i64 a0_2, .int .i64 a0_3, .int .u8 a0_4, .int .i64 a0_5, .int .i64 a0_6, .int .u8 a0_7]) (t := 54) ?hr ?_; (case hd => rfl); (case hg => rfl); (case hr => first | (go_simp; done) | (go_simp; rfl)); intro gb349 hg w26 hbox hb; have n0_ := Aside0.mk (below_step (by repeat (first | (with_reducible first | exact HB.out | apply below_alloc | apply pw_below_drewN | apply below_drew1) | exact HB.out)) hb); have n1_ := Aside0.mk (hbox); have n2_ := Aside0.mk ((by rw [hg]; exact (below_size (by repeat (first | (with_reducible first | exact HB.out | apply below_alloc | apply pw_below_drewN | apply below_drew1) | exact HB.out))) : w.heap.size ≤ gb349)); have n3_ := Aside0.mk ((by rw [hg]; exact (below_size (by repeat (first | (with_reducible first | exact HB.out | apply below_alloc | apply pw_below_drewN | apply below_drew1) | exact HB.out))) : w.heap.size ≤ gb349)); clear HB; have HB := n0_; have BK349 := n1_; have GW349 := n2_; have GE349 := n3_; clear n0_ n1_ n2_ n3_; clear hb hbox hg))
        have n0_ := Aside0.mk (blk_drew BK349.out)
        have n1_ := Aside0.mk (below_drew1 HB.out)
        clear BK349
        clear HB
        have BK349 := n0_
        have HB := n1_
        clear n0_ n1_
        refine start_ (n := 14) (S := fun w' => w'.cell? ⟨gb349, 0, none⟩ = some (.string a0_0) ∧ w'.cell? ⟨gb349, 1, none⟩ = some (.int .i64 a0_1) ∧ w'.cell? ⟨gb349, 2, none⟩ = some (.int .i64 a0_2) ∧ w'.cell? ⟨gb349, 3, none⟩ = some (.int .i64 a0_3) ∧ w'.cell? ⟨gb349, 4, none⟩ = some (.int .u8 a0_4) ∧ w'.cell? ⟨gb349, 5, none⟩ = some (.int .i64 a0_5) ∧ w'.cell? ⟨gb349, 6, none⟩ = some (.int .i64 a0_6) ∧ w'.cell? ⟨gb349, 7, none⟩ = some (.int .u8 a0_7)) (ds := []) #[false, false, false, false, false, false, false, false, false, false, false, false, false, false] (by kernel_rfl) rfl rfl ⟨(blk_cell BK349.out 0).trans rfl, (blk_cell BK349.out 1).trans rfl, (blk_cell BK349.out 2).trans rfl, (blk_cell BK349.out 3).trans rfl, (blk_cell BK349.out 4).trans rfl, (blk_cell BK349.out 5).trans rfl, (blk_cell BK349.out 6).trans rfl, (blk_cell BK349.out 7).trans rfl⟩ (fun hHeld => ?_); refine with_tabW riverbanklaw14_ValueOf.tab1 riverbanklaw14_ValueOf.bits1 (fun HT_ HW_ => ?_)
        generalize w26.drew = w27 at BK349 HB hHeld ⊢
        refine pure_ (i := 0) (N := some 8) (v := ?_) (a' := ?_) #[true, false, false, false, false, false, false, false, false, false, false, false, false, false] rfl rfl (any_of HT_.out (by kernel_rfl)) (fun _ _ _ h => h) (Or.inl ⟨by rfl, ?_⟩) ?_ ?_
        rotate_left
        · intro w'
          go_simp
          with_reducible rfl
        rotate_left
        · simp only [Act.put, List.setIfInBounds_toArray, List.set_cons_zero, List.set_cons_succ, i64_w, i32_w]
          rfl
        refine pure_ (i := 2) (N := some 10) (v := ?_) (a' := ?_) #[true, false, true, false, false, false, false, false, false, false, false, false, false, false] rfl rfl (any_of HT_.out (by kernel_rfl)) (fun _ _ _ h => h) (Or.inl ⟨by rfl, ?_⟩) ?_ ?_
        rotate_left
        · intro w'
          go_simp
          with_reducible rfl
        rotate_left
        · simp only [Act.put, List.setIfInBounds_toArray, List.set_cons_zero, List.set_cons_succ, i64_w, i32_w]
          rfl
        refine pure_ (i := 4) (N := some 12) (v := ?_) (a' := ?_) #[true, false, true, false, true, false, false, false, false, false, false, false, false, false] rfl rfl (any_of HT_.out (by kernel_rfl)) (fun _ _ _ h => h) (Or.inl ⟨by rfl, ?_⟩) ?_ ?_
        rotate_left
        · intro w'
          go_simp
          with_reducible rfl
        rotate_left
        · simp only [Act.put, List.setIfInBounds_toArray, List.set_cons_zero, List.set_cons_succ, i64_w, i32_w]
          rfl
        refine pure_ (i := 6) (N := some 14) (v := ?_) (a' := ?_) #[true, false, true, false, true, false, true, false, false, false, false, false, false, false] rfl rfl (any_of HT_.out (by kernel_rfl)) (fun _ _ _ h => h) (Or.inl ⟨by rfl, ?_⟩) ?_ ?_
        rotate_left
        · intro w'
          go_simp
          with_reducible rfl
        rotate_left
        · simp only [Act.put, List.setIfInBounds_toArray, List.set_cons_zero, List.set_cons_succ, i64_w, i32_w]
          rfl
        refine take_ (i := 1) (N := some 9) (v := ?_) (a' := ?_) #[true, true, true, false, true, false, true, false, false, false, false, false, false, false] rfl rfl (take_ofW HT_.out HW_.out (by kernel_rfl)) (fun _ _ _ h => h) (Or.inl ⟨by rfl, ?_⟩) hHeld ?_ ?_
        rotate_left
        · rintro w' ⟨s0, s1, s2, s3, s4, s5, s6, s7⟩
          go_simp
          with_reducible rfl
        rotate_left
        · simp only [Act.put, List.setIfInBounds_toArray, List.set_cons_zero, List.set_cons_succ, i64_w, i32_w]
          rfl
        refine take_ (i := 3) (N := some 11) (v := ?_) (a' := ?_) #[true, true, true, true, true, false, true, false, false, false, false, false, false, false] rfl rfl (take_ofW HT_.out HW_.out (by kernel_rfl)) (fun _ _ _ h => h) (Or.inl ⟨by rfl, ?_⟩) hHeld ?_ ?_
        rotate_left
        · rintro w' ⟨s0, s1, s2, s3, s4, s5, s6, s7⟩
          go_simp
          with_reducible rfl
        rotate_left
        · simp only [Act.put, List.setIfInBounds_toArray, List.set_cons_zero, List.set_cons_succ, i64_w, i32_w]
          rfl
        refine take_ (i := 5) (N := some 13) (v := ?_) (a' := ?_) #[true, true, true, true, true, true, true, false, false, false, false, false, false, false] rfl rfl (take_ofW HT_.out HW_.out (by kernel_rfl)) (fun _ _ _ h => h) (Or.inl ⟨by rfl, ?_⟩) hHeld ?_ ?_
        rotate_left
        · rintro w' ⟨s0, s1, s2, s3, s4, s5, s6, s7⟩
          go_simp
          with_reducible rfl
        rotate_left
        · simp only [Act.put, List.setIfInBounds_toArray, List.set_cons_zero, List.set_cons_succ, i64_w, i32_w]
          rfl
        refine take_ (i := 7) (N := some 15) (v := ?_) (a' := ?_) #[true, true, true, true, true, true, true, true, false, false, false, false, false, false] rfl rfl (take_ofW HT_.out HW_.out (by kernel_rfl)) (fun _ _ _ h => h) (Or.inl ⟨by rfl, ?_⟩) hHeld ?_ ?_
        rotate_left
        · rintro w' ⟨s0, s1, s2, s3, s4, s5, s6, s7⟩
          go_simp
          with_reducible rfl
        rotate_left
        · simp only [Act.put, List.setIfInBounds_toArray, List.set_cons_zero, List.set_cons_succ, i64_w, i32_w]
          rfl
        refine join_ (σ := Nat × Nat) 4 #[true, true, true, true, true, true, true, true, true, true, false, false, false, false] (fun s_ => [(3, .pointer (some ⟨s_.1, 0, none⟩)), (5, .pointer (some ⟨s_.2, 0, none⟩))]) (fun s_ w' => (w'.cell? ⟨gb349, 0, none⟩ = some (.string a0_0) ∧ w'.cell? ⟨gb349, 1, none⟩ = some (.int .i64 a0_1) ∧ w'.cell? ⟨gb349, 2, none⟩ = some (.int .i64 a0_2) ∧ w'.cell? ⟨gb349, 3, none⟩ = some (.int .i64 a0_3) ∧ w'.cell? ⟨gb349, 4, none⟩ = some (.int .u8 a0_4) ∧ w'.cell? ⟨gb349, 5, none⟩ = some (.int .i64 a0_5) ∧ w'.cell? ⟨gb349, 6, none⟩ = some (.int .i64 a0_6) ∧ w'.cell? ⟨gb349, 7, none⟩ = some (.int .u8 a0_7)) ∧ (w'.heap[gb349]? = some (.cells #[.string a0_0, .int .i64 a0_1, .int .i64 a0_2, .int .i64 a0_3, .int .u8 a0_4, .int .i64 a0_5, .int .i64 a0_6, .int .u8 a0_7] 54 (0, 0))) ∧ (w'.heap[s_.1]? = some (.cells #[.string (⟨#[]⟩ : ByteArray), .int .i64 0, .int .i64 0, .int .i64 0] 29 (0, 0))) ∧ (w'.heap[s_.2]? = some (.cells #[.int .i64 0, .int .i64 0] 41 (0, 0))) ∧ (w.heap.size ≤ s_.1) ∧ (w.heap.size ≤ s_.1) ∧ (gb349 ≠ s_.1) ∧ (s_.1 ≠ gb349) ∧ (s_.2 ≠ s_.1) ∧ (s_.1 ≠ s_.2) ∧ (w.heap.size ≤ s_.2) ∧ (w.heap.size ≤ s_.2) ∧ (gb349 ≠ s_.2) ∧ (s_.2 ≠ gb349) ∧ (Below w.heap.size w w')) ?_ ?_
        rotate_left
        · intro hCont
          refine two_ (i := 8) (j := 9) (Ni := some 3) (Nj := some 5) #[true, true, true, true, true, true, true, true, true, false, false, false, false, false] #[true, true, true, true, true, true, true, true, false, true, false, false, false, false] rfl rfl rfl rfl (two_of HT_.out (by kernel_rfl)) (by decide) (by decide) (fun K hK => ?_) (fun K hK => ?_)
          · skip
            refine box_step ?hg (N := 3) ?hd (cs := #[.string (⟨#[]⟩ : ByteArray), .int .i64 0, .int .i64 0, .int .i64 0]) (t := 29) ?hr ?_; (case hd => rfl); (case hg => rfl); (case hr => first | (go_simp; done) | (go_simp; rfl))
            intro gb350 hg w28 hbox hb
            have n0_ := Aside0.mk (blk_below (g := gb349) (o := .cells #[.string a0_0, .int .i64 a0_1, .int .i64 a0_2, .int .i64 a0_3, .int .u8 a0_4, .int .i64 a0_5, .int .i64 a0_6, .int .u8 a0_7] 54 (0, 0)) (by (with_reducible repeat (first | refine blk_drewN ?_ _ | refine blk_drew ?_ | refine blk_alloc ?_ _)); exact BK349.out) hb)
            have n1_ := Aside0.mk (below_step (by repeat (first | (with_reducible first | exact HB.out | apply below_alloc | apply pw_below_drewN | apply below_drew1 | refine below_set ?_ GE349.out) | exact HB.out)) hb)
            have n2_ := Aside0.mk (hbox)
            have n3_ := Aside0.mk ((by rw [hg]; exact (below_size (by repeat (first | (with_reducible first | exact HB.out | apply below_alloc | apply pw_below_drewN | apply below_drew1 | refine below_set ?_ GE349.out) | exact HB.out))) : w.heap.size ≤ gb350))
            have n4_ := Aside0.mk ((by rw [hg]; exact (below_size (by repeat (first | (with_reducible first | exact HB.out | apply below_alloc | apply pw_below_drewN | apply below_drew1 | refine below_set ?_ GE349.out) | exact HB.out))) : w.heap.size ≤ gb350))
            have n5_ := Aside0.mk ((by rw [hg]; exact Nat.ne_of_lt (blk_lt (g := gb349) (o := .cells #[.string a0_0, .int .i64 a0_1, .int .i64 a0_2, .int .i64 a0_3, .int .u8 a0_4, .int .i64 a0_5, .int .i64 a0_6, .int .u8 a0_7] 54 (0, 0)) (by (with_reducible repeat (first | refine blk_drewN ?_ _ | refine blk_drew ?_ | refine blk_alloc ?_ _)); exact BK349.out)) : gb349 ≠ gb350))
            have n6_ := Aside0.mk ((by rw [hg]; exact Nat.ne_of_gt (blk_lt (g := gb349) (o := .cells #[.string a0_0, .int .i64 a0_1, .int .i64 a0_2, .int .i64 a0_3, .int .u8 a0_4, .int .i64 a0_5, .int .i64 a0_6, .int .u8 a0_7] 54 (0, 0)) (by (with_reducible repeat (first | refine blk_drewN ?_ _ | refine blk_drew ?_ | refine blk_alloc ?_ _)); exact BK349.out)) : gb350 ≠ gb349))
            clear BK349
            clear HB
            have BK349 := n0_
            have HB := n1_
            have BK350 := n2_
            have GW350 := n3_
            have GE350 := n4_
            have NB349_350 := n5_
            have NB350_349 := n6_
            clear n0_ n1_ n2_ n3_ n4_ n5_ n6_
            clear hb hbox hg
            refine hK.out _ _ ⟨(blk_cell BK349.out 0).trans rfl, (blk_cell BK349.out 1).trans rfl, (blk_cell BK349.out 2).trans rfl, (blk_cell BK349.out 3).trans rfl, (blk_cell BK349.out 4).trans rfl, (blk_cell BK349.out 5).trans rfl, (blk_cell BK349.out 6).trans rfl, (blk_cell BK349.out 7).trans rfl⟩ (fun hHeld => ?_)
            clear hK K
            refine norm_ (a' := ?_) ?_ ?_
            rotate_left
            · show Act.put _ (some 3) _ = _
              simp only [Act.put, List.setIfInBounds_toArray, List.set_cons_zero, List.set_cons_succ, i64_w, i32_w]
              rfl
            refine one_ (i := 9) (N := some 5) #[true, true, true, true, true, true, true, true, true, true, false, false, false, false] rfl rfl (one_of HT_.out (by kernel_rfl)) (by decide) (fun K hK => ?_)
            refine box_step ?hg (N := 5) ?hd (cs := #[.int .i64 0, .int .i64 0]) (t := 41) ?hr ?_; (case hd => rfl); (case hg => rfl); (case hr => first | (go_simp; done) | (go_simp; rfl))
            intro gb351 hg w29 hbox hb
            have n0_ := Aside0.mk (blk_below (g := gb349) (o := .cells #[.string a0_0, .int .i64 a0_1, .int .i64 a0_2, .int .i64 a0_3, .int .u8 a0_4, .int .i64 a0_5, .int .i64 a0_6, .int .u8 a0_7] 54 (0, 0)) (by (with_reducible repeat (first | refine blk_drewN ?_ _ | refine blk_drew ?_ | refine blk_alloc ?_ _)); exact BK349.out) hb)
            have n1_ := Aside0.mk (blk_below (g := gb350) (o := .cells #[.string (⟨#[]⟩ : ByteArray), .int .i64 0, .int .i64 0, .int .i64 0] 29 (0, 0)) (by (with_reducible repeat (first | refine blk_drewN ?_ _ | refine blk_drew ?_ | refine blk_alloc ?_ _)); exact BK350.out) hb)
            have n2_ := Aside0.mk (below_step (by repeat (first | (with_reducible first | exact HB.out | apply below_alloc | apply pw_below_drewN | apply below_drew1 | refine below_set ?_ GE349.out | refine below_set ?_ GE350.out) | exact HB.out)) hb)
            have n3_ := Aside0.mk (hbox)
            have n4_ := Aside0.mk ((by rw [hg]; exact (below_size (by repeat (first | (with_reducible first | exact HB.out | apply below_alloc | apply pw_below_drewN | apply below_drew1 | refine below_set ?_ GE349.out | refine below_set ?_ GE350.out) | exact HB.out))) : w.heap.size ≤ gb351))
            have n5_ := Aside0.mk ((by rw [hg]; exact (below_size (by repeat (first | (with_reducible first | exact HB.out | apply below_alloc | apply pw_below_drewN | apply below_drew1 | refine below_set ?_ GE349.out | refine below_set ?_ GE350.out) | exact HB.out))) : w.heap.size ≤ gb351))
            have n6_ := Aside0.mk ((by rw [hg]; exact Nat.ne_of_lt (blk_lt (g := gb349) (o := .cells #[.string a0_0, .int .i64 a0_1, .int .i64 a0_2, .int .i64 a0_3, .int .u8 a0_4, .int .i64 a0_5, .int .i64 a0_6, .int .u8 a0_7] 54 (0, 0)) (by (with_reducible repeat (first | refine blk_drewN ?_ _ | refine blk_drew ?_ | refine blk_alloc ?_ _)); exact BK349.out)) : gb349 ≠ gb351))
            have n7_ := Aside0.mk ((by rw [hg]; exact Nat.ne_of_gt (blk_lt (g := gb349) (o := .cells #[.string a0_0, .int .i64 a0_1, .int .i64 a0_2, .int .i64 a0_3, .int .u8 a0_4, .int .i64 a0_5, .int .i64 a0_6, .int .u8 a0_7] 54 (0, 0)) (by (with_reducible repeat (first | refine blk_drewN ?_ _ | refine blk_drew ?_ | refine blk_alloc ?_ _)); exact BK349.out)) : gb351 ≠ gb349))
            have n8_ := Aside0.mk ((by rw [hg]; exact Nat.ne_of_lt (blk_lt (g := gb350) (o := .cells #[.string (⟨#[]⟩ : ByteArray), .int .i64 0, .int .i64 0, .int .i64 0] 29 (0, 0)) (by (with_reducible repeat (first | refine blk_drewN ?_ _ | refine blk_drew ?_ | refine blk_alloc ?_ _)); exact BK350.out)) : gb350 ≠ gb351))
            have n9_ := Aside0.mk ((by rw [hg]; exact Nat.ne_of_gt (blk_lt (g := gb350) (o := .cells #[.string (⟨#[]⟩ : ByteArray), .int .i64 0, .int .i64 0, .int .i64 0] 29 (0, 0)) (by (with_reducible repeat (first | refine blk_drewN ?_ _ | refine blk_drew ?_ | refine blk_alloc ?_ _)); exact BK350.out)) : gb351 ≠ gb350))
            clear BK349
            clear BK350
            clear HB
            have BK349 := n0_
            have BK350 := n1_
            have HB := n2_
            have BK351 := n3_
            have GW351 := n4_
            have GE351 := n5_
            have NB349_351 := n6_
            have NB351_349 := n7_
            have NB350_351 := n8_
            have NB351_350 := n9_
            clear n0_ n1_ n2_ n3_ n4_ n5_ n6_ n7_ n8_ n9_
            clear hb hbox hg
            refine hK.out _ _ ⟨(blk_cell BK349.out 0).trans rfl, (blk_cell BK349.out 1).trans rfl, (blk_cell BK349.out 2).trans rfl, (blk_cell BK349.out 3).trans rfl, (blk_cell BK349.out 4).trans rfl, (blk_cell BK349.out 5).trans rfl, (blk_cell BK349.out 6).trans rfl, (blk_cell BK349.out 7).trans rfl⟩ (fun hHeld => ?_)
            clear hK K
            refine norm_ (a' := ?_) ?_ ?_
            rotate_left
            · show Act.put _ (some 5) _ = _
              simp only [Act.put, List.setIfInBounds_toArray, List.set_cons_zero, List.set_cons_succ, i64_w, i32_w]
              rfl
            exact norm_ (by simp only [putAll, Act.put, List.setIfInBounds_toArray, List.set_cons_zero, List.set_cons_succ]) (hCont (gb350, gb351) _ ⟨hHeld, (by (with_reducible repeat (first | refine blk_drewN ?_ _ | refine blk_drew ?_ | refine blk_alloc ?_ _)); exact BK349.out), (by (with_reducible repeat (first | refine blk_drewN ?_ _ | refine blk_drew ?_ | refine blk_alloc ?_ _)); exact BK350.out), (by (with_reducible repeat (first | refine blk_drewN ?_ _ | refine blk_drew ?_ | refine blk_alloc ?_ _)); exact BK351.out), GW350.out, GE350.out, NB349_350.out, NB350_349.out, NB351_350.out, NB350_351.out, GW351.out, GE351.out, NB349_351.out, NB351_349.out, (by repeat (first | (with_reducible first | exact HB.out | apply below_alloc | apply pw_below_drewN | apply below_drew1 | refine below_set ?_ GE349.out | refine below_set ?_ GE350.out | refine below_set ?_ GE351.out) | exact HB.out))⟩)
          · skip
            refine box_step ?hg (N := 5) ?hd (cs := #[.int .i64 0, .int .i64 0]) (t := 41) ?hr ?_; (case hd => rfl); (case hg => rfl); (case hr => first | (go_simp; done) | (go_simp; rfl))
            intro gb351 hg w28 hbox hb
            have n0_ := Aside0.mk (blk_below (g := gb349) (o := .cells #[.string a0_0, .int .i64 a0_1, .int .i64 a0_2, .int .i64 a0_3, .int .u8 a0_4, .int .i64 a0_5, .int .i64 a0_6, .int .u8 a0_7] 54 (0, 0)) (by (with_reducible repeat (first | refine blk_drewN ?_ _ | refine blk_drew ?_ | refine blk_alloc ?_ _)); exact BK349.out) hb)
            have n1_ := Aside0.mk (below_step (by repeat (first | (with_reducible first | exact HB.out | apply below_alloc | apply pw_below_drewN | apply below_drew1 | refine below_set ?_ GE349.out) | exact HB.out)) hb)
            have n2_ := Aside0.mk (hbox)
            have n3_ := Aside0.mk ((by rw [hg]; exact (below_size (by repeat (first | (with_reducible first | exact HB.out | apply below_alloc | apply pw_below_drewN | apply below_drew1 | refine below_set ?_ GE349.out) | exact HB.out))) : w.heap.size ≤ gb351))
            have n4_ := Aside0.mk ((by rw [hg]; exact (below_size (by repeat (first | (with_reducible first | exact HB.out | apply below_alloc | apply pw_below_drewN | apply below_drew1 | refine below_set ?_ GE349.out) | exact HB.out))) : w.heap.size ≤ gb351))
            have n5_ := Aside0.mk ((by rw [hg]; exact Nat.ne_of_lt (blk_lt (g := gb349) (o := .cells #[.string a0_0, .int .i64 a0_1, .int .i64 a0_2, .int .i64 a0_3, .int .u8 a0_4, .int .i64 a0_5, .int .i64 a0_6, .int .u8 a0_7] 54 (0, 0)) (by (with_reducible repeat (first | refine blk_drewN ?_ _ | refine blk_drew ?_ | refine blk_alloc ?_ _)); exact BK349.out)) : gb349 ≠ gb351))
            have n6_ := Aside0.mk ((by rw [hg]; exact Nat.ne_of_gt (blk_lt (g := gb349) (o := .cells #[.string a0_0, .int .i64 a0_1, .int .i64 a0_2, .int .i64 a0_3, .int .u8 a0_4, .int .i64 a0_5, .int .i64 a0_6, .int .u8 a0_7] 54 (0, 0)) (by (with_reducible repeat (first | refine blk_drewN ?_ _ | refine blk_drew ?_ | refine blk_alloc ?_ _)); exact BK349.out)) : gb351 ≠ gb349))
            clear BK349
            clear HB
            have BK349 := n0_
            have HB := n1_
            have BK351 := n2_
            have GW351 := n3_
            have GE351 := n4_
            have NB349_351 := n5_
            have NB351_349 := n6_
            clear n0_ n1_ n2_ n3_ n4_ n5_ n6_
            clear hb hbox hg
            refine hK.out _ _ ⟨(blk_cell BK349.out 0).trans rfl, (blk_cell BK349.out 1).trans rfl, (blk_cell BK349.out 2).trans rfl, (blk_cell BK349.out 3).trans rfl, (blk_cell BK349.out 4).trans rfl, (blk_cell BK349.out 5).trans rfl, (blk_cell BK349.out 6).trans rfl, (blk_cell BK349.out 7).trans rfl⟩ (fun hHeld => ?_)
            clear hK K
            refine norm_ (a' := ?_) ?_ ?_
            rotate_left
            · show Act.put _ (some 5) _ = _
              simp only [Act.put, List.setIfInBounds_toArray, List.set_cons_zero, List.set_cons_succ, i64_w, i32_w]
              rfl
            refine one_ (i := 8) (N := some 3) #[true, true, true, true, true, true, true, true, true, true, false, false, false, false] rfl rfl (one_of HT_.out (by kernel_rfl)) (by decide) (fun K hK => ?_)
            refine box_step ?hg (N := 3) ?hd (cs := #[.string (⟨#[]⟩ : ByteArray), .int .i64 0, .int .i64 0, .int .i64 0]) (t := 29) ?hr ?_; (case hd => rfl); (case hg => rfl); (case hr => first | (go_simp; done) | (go_simp; rfl))
            intro gb350 hg w29 hbox hb
            have n0_ := Aside0.mk (blk_below (g := gb349) (o := .cells #[.string a0_0, .int .i64 a0_1, .int .i64 a0_2, .int .i64 a0_3, .int .u8 a0_4, .int .i64 a0_5, .int .i64 a0_6, .int .u8 a0_7] 54 (0, 0)) (by (with_reducible repeat (first | refine blk_drewN ?_ _ | refine blk_drew ?_ | refine blk_alloc ?_ _)); exact BK349.out) hb)
            have n1_ := Aside0.mk (blk_below (g := gb351) (o := .cells #[.int .i64 0, .int .i64 0] 41 (0, 0)) (by (with_reducible repeat (first | refine blk_drewN ?_ _ | refine blk_drew ?_ | refine blk_alloc ?_ _)); exact BK351.out) hb)
            have n2_ := Aside0.mk (below_step (by repeat (first | (with_reducible first | exact HB.out | apply below_alloc | apply pw_below_drewN | apply below_drew1 | refine below_set ?_ GE349.out | refine below_set ?_ GE351.out) | exact HB.out)) hb)
            have n3_ := Aside0.mk (hbox)
            have n4_ := Aside0.mk ((by rw [hg]; exact (below_size (by repeat (first | (with_reducible first | exact HB.out | apply below_alloc | apply pw_below_drewN | apply below_drew1 | refine below_set ?_ GE349.out | refine below_set ?_ GE351.out) | exact HB.out))) : w.heap.size ≤ gb350))
            have n5_ := Aside0.mk ((by rw [hg]; exact (below_size (by repeat (first | (with_reducible first | exact HB.out | apply below_alloc | apply pw_below_drewN | apply below_drew1 | refine below_set ?_ GE349.out | refine below_set ?_ GE351.out) | exact HB.out))) : w.heap.size ≤ gb350))
            have n6_ := Aside0.mk ((by rw [hg]; exact Nat.ne_of_lt (blk_lt (g := gb349) (o := .cells #[.string a0_0, .int .i64 a0_1, .int .i64 a0_2, .int .i64 a0_3, .int .u8 a0_4, .int .i64 a0_5, .int .i64 a0_6, .int .u8 a0_7] 54 (0, 0)) (by (with_reducible repeat (first | refine blk_drewN ?_ _ | refine blk_drew ?_ | refine blk_alloc ?_ _)); exact BK349.out)) : gb349 ≠ gb350))
            have n7_ := Aside0.mk ((by rw [hg]; exact Nat.ne_of_gt (blk_lt (g := gb349) (o := .cells #[.string a0_0, .int .i64 a0_1, .int .i64 a0_2, .int .i64 a0_3, .int .u8 a0_4, .int .i64 a0_5, .int .i64 a0_6, .int .u8 a0_7] 54 (0, 0)) (by (with_reducible repeat (first | refine blk_drewN ?_ _ | refine blk_drew ?_ | refine blk_alloc ?_ _)); exact BK349.out)) : gb350 ≠ gb349))
            have n8_ := Aside0.mk ((by rw [hg]; exact Nat.ne_of_lt (blk_lt (g := gb351) (o := .cells #[.int .i64 0, .int .i64 0] 41 (0, 0)) (by (with_reducible repeat (first | refine blk_drewN ?_ _ | refine blk_drew ?_ | refine blk_alloc ?_ _)); exact BK351.out)) : gb351 ≠ gb350))
            have n9_ := Aside0.mk ((by rw [hg]; exact Nat.ne_of_gt (blk_lt (g := gb351) (o := .cells #[.int .i64 0, .int .i64 0] 41 (0, 0)) (by (with_reducible repeat (first | refine blk_drewN ?_ _ | refine blk_drew ?_ | refine blk_alloc ?_ _)); exact BK351.out)) : gb350 ≠ gb351))
            clear BK349
            clear BK351
            clear HB
            have BK349 := n0_
            have BK351 := n1_
            have HB := n2_
            have BK350 := n3_
            have GW350 := n4_
            have GE350 := n5_
            have NB349_350 := n6_
            have NB350_349 := n7_
            have NB351_350 := n8_
            have NB350_351 := n9_
            clear n0_ n1_ n2_ n3_ n4_ n5_ n6_ n7_ n8_ n9_
            clear hb hbox hg
            refine hK.out _ _ ⟨(blk_cell BK349.out 0).trans rfl, (blk_cell BK349.out 1).trans rfl, (blk_cell BK349.out 2).trans rfl, (blk_cell BK349.out 3).trans rfl, (blk_cell BK349.out 4).trans rfl, (blk_cell BK349.out 5).trans rfl, (blk_cell BK349.out 6).trans rfl, (blk_cell BK349.out 7).trans rfl⟩ (fun hHeld => ?_)
            clear hK K
            refine norm_ (a' := ?_) ?_ ?_
            rotate_left
            · show Act.put _ (some 3) _ = _
              simp only [Act.put, List.setIfInBounds_toArray, List.set_cons_zero, List.set_cons_succ, i64_w, i32_w]
              rfl
            exact norm_ (by simp only [putAll, Act.put, List.setIfInBounds_toArray, List.set_cons_zero, List.set_cons_succ]) (hCont (gb350, gb351) _ ⟨hHeld, (by (with_reducible repeat (first | refine blk_drewN ?_ _ | refine blk_drew ?_ | refine blk_alloc ?_ _)); exact BK349.out), (by (with_reducible repeat (first | refine blk_drewN ?_ _ | refine blk_drew ?_ | refine blk_alloc ?_ _)); exact BK350.out), (by (with_reducible repeat (first | refine blk_drewN ?_ _ | refine blk_drew ?_ | refine blk_alloc ?_ _)); exact BK351.out), GW350.out, GE350.out, NB349_350.out, NB350_349.out, NB351_350.out, NB350_351.out, GW351.out, GE351.out, NB349_351.out, NB351_349.out, (by repeat (first | (with_reducible first | exact HB.out | apply below_alloc | apply pw_below_drewN | apply below_drew1 | refine below_set ?_ GE349.out | refine below_set ?_ GE351.out | refine below_set ?_ GE350.out) | exact HB.out))⟩)
        rintro ⟨gb350, gb351⟩ w30 ⟨hS_, h0_, h1_, h2_, h3_, h4_, h5_, h6_, h7_, h8_, h9_, h10_, h11_, h12_, h13_⟩
        have n0_ : Aside0 (w30.heap[gb349]? = some (.cells #[.string a0_0, .int .i64 a0_1, .int .i64 a0_2, .int .i64 a0_3, .int .u8 a0_4, .int .i64 a0_5, .int .i64 a0_6, .int .u8 a0_7] 54 (0, 0))) := ⟨h0_⟩
        have n1_ : Aside0 (w30.heap[gb350]? = some (.cells #[.string (⟨#[]⟩ : ByteArray), .int .i64 0, .int .i64 0, .int .i64 0] 29 (0, 0))) := ⟨h1_⟩
        have n2_ : Aside0 (w30.heap[gb351]? = some (.cells #[.int .i64 0, .int .i64 0] 41 (0, 0))) := ⟨h2_⟩
        have n3_ : Aside0 (w.heap.size ≤ gb350) := ⟨h3_⟩
        have n4_ : Aside0 (w.heap.size ≤ gb350) := ⟨h4_⟩
        have n5_ : Aside0 (gb349 ≠ gb350) := ⟨h5_⟩
        have n6_ : Aside0 (gb350 ≠ gb349) := ⟨h6_⟩
        have n7_ : Aside0 (gb351 ≠ gb350) := ⟨h7_⟩
        have n8_ : Aside0 (gb350 ≠ gb351) := ⟨h8_⟩
        have n9_ : Aside0 (w.heap.size ≤ gb351) := ⟨h9_⟩
        have n10_ : Aside0 (w.heap.size ≤ gb351) := ⟨h10_⟩
        have n11_ : Aside0 (gb349 ≠ gb351) := ⟨h11_⟩
        have n12_ : Aside0 (gb351 ≠ gb349) := ⟨h12_⟩
        have n13_ : Aside0 (Below w.heap.size w w30) := ⟨h13_⟩
        clear BK349
        clear HB
        clear h0_ h1_ h2_ h3_ h4_ h5_ h6_ h7_ h8_ h9_ h10_ h11_ h12_ h13_
        have BK349 := n0_
        have BK350 := n1_
        have BK351 := n2_
        have GW350 := n3_
        have GE350 := n4_
        have NB349_350 := n5_
        have NB350_349 := n6_
        have NB351_350 := n7_
        have NB350_351 := n8_
        have GW351 := n9_
        have GE351 := n10_
        have NB349_351 := n11_
        have NB351_349 := n12_
        have HB := n13_
        clear n0_ n1_ n2_ n3_ n4_ n5_ n6_ n7_ n8_ n9_ n10_ n11_ n12_ n13_
        have hHeld : w30.cell? ⟨gb349, 0, none⟩ = some (.string a0_0) ∧ w30.cell? ⟨gb349, 1, none⟩ = some (.int .i64 a0_1) ∧ w30.cell? ⟨gb349, 2, none⟩ = some (.int .i64 a0_2) ∧ w30.cell? ⟨gb349, 3, none⟩ = some (.int .i64 a0_3) ∧ w30.cell? ⟨gb349, 4, none⟩ = some (.int .u8 a0_4) ∧ w30.cell? ⟨gb349, 5, none⟩ = some (.int .i64 a0_5) ∧ w30.cell? ⟨gb349, 6, none⟩ = some (.int .i64 a0_6) ∧ w30.cell? ⟨gb349, 7, none⟩ = some (.int .u8 a0_7) := hS_
        refine norm_ (a' := ?_) ?_ ?_
        rotate_left
        · simp only [putAll, Act.put, List.setIfInBounds_toArray, List.set_cons_zero, List.set_cons_succ]
          rfl
        refine one_ (i := 10) (N := none) #[true, true, true, true, true, true, true, true, true, true, true, false, false, false] rfl rfl (one_of HT_.out (by kernel_rfl)) (by decide) (fun K hK => ?_)
        have hs31 : w30.cell? ⟨gb350, 0, none⟩ = some (.string (⟨#[]⟩ : ByteArray)) := (blk_cell BK350.out 0).trans rfl
        have hfs31 := blk_frozen BK350.out 0
        have hns31_0 := NB349_350.out
        have hns31_2 := NB351_350.out
        have hms31_0 := NB350_349.out
        have hms31_2 := NB350_351.out
        have hs32 : w30.cell? ⟨gb350, 1, none⟩ = some (.int .i64 0) := (blk_cell BK350.out 1).trans rfl
        have hfs32 := blk_frozen BK350.out 1
        have hns32_0 := NB349_350.out
        have hns32_2 := NB351_350.out
        have hms32_0 := NB350_349.out
        have hms32_2 := NB350_351.out
        have hs33 : w30.cell? ⟨gb350, 2, none⟩ = some (.int .i64 0) := (blk_cell BK350.out 2).trans rfl
        have hfs33 := blk_frozen BK350.out 2
        have hns33_0 := NB349_350.out
        have hns33_2 := NB351_350.out
        have hms33_0 := NB350_349.out
        have hms33_2 := NB350_351.out
        have hs34 : w30.cell? ⟨gb350, 3, none⟩ = some (.int .i64 0) := (blk_cell BK350.out 3).trans rfl
        have hfs34 := blk_frozen BK350.out 3
        have hns34_0 := NB349_350.out
        have hns34_2 := NB351_350.out
        have hms34_0 := NB350_349.out
        have hms34_2 := NB350_351.out
        refine skip_ (w1 := ?_) (by rfl) rfl ?_ ?_
        rotate_left
        · go_simp
          rfl
        refine hK.out _ _ ⟨((cell_far (p := ⟨gb350, _, none⟩) NB349_350.out _).trans (((cell_far (p := ⟨gb350, _, none⟩) NB349_350.out _).trans (((cell_far (p := ⟨gb350, _, none⟩) NB349_350.out _).trans (((cell_far (p := ⟨gb350, _, none⟩) NB349_350.out _).trans (hHeld.1)))))))), ((cell_far (p := ⟨gb350, _, none⟩) NB349_350.out _).trans (((cell_far (p := ⟨gb350, _, none⟩) NB349_350.out _).trans (((cell_far (p := ⟨gb350, _, none⟩) NB349_350.out _).trans (((cell_far (p := ⟨gb350, _, none⟩) NB349_350.out _).trans (hHeld.2.1)))))))), ((cell_far (p := ⟨gb350, _, none⟩) NB349_350.out _).trans (((cell_far (p := ⟨gb350, _, none⟩) NB349_350.out _).trans (((cell_far (p := ⟨gb350, _, none⟩) NB349_350.out _).trans (((cell_far (p := ⟨gb350, _, none⟩) NB349_350.out _).trans (hHeld.2.2.1)))))))), ((cell_far (p := ⟨gb350, _, none⟩) NB349_350.out _).trans (((cell_far (p := ⟨gb350, _, none⟩) NB349_350.out _).trans (((cell_far (p := ⟨gb350, _, none⟩) NB349_350.out _).trans (((cell_far (p := ⟨gb350, _, none⟩) NB349_350.out _).trans (hHeld.2.2.2.1)))))))), ((cell_far (p := ⟨gb350, _, none⟩) NB349_350.out _).trans (((cell_far (p := ⟨gb350, _, none⟩) NB349_350.out _).trans (((cell_far (p := ⟨gb350, _, none⟩) NB349_350.out _).trans (((cell_far (p := ⟨gb350, _, none⟩) NB349_350.out _).trans (hHeld.2.2.2.2.1)))))))), ((cell_far (p := ⟨gb350, _, none⟩) NB349_350.out _).trans (((cell_far (p := ⟨gb350, _, none⟩) NB349_350.out _).trans (((cell_far (p := ⟨gb350, _, none⟩) NB349_350.out _).trans (((cell_far (p := ⟨gb350, _, none⟩) NB349_350.out _).trans (hHeld.2.2.2.2.2.1)))))))), ((cell_far (p := ⟨gb350, _, none⟩) NB349_350.out _).trans (((cell_far (p := ⟨gb350, _, none⟩) NB349_350.out _).trans (((cell_far (p := ⟨gb350, _, none⟩) NB349_350.out _).trans (((cell_far (p := ⟨gb350, _, none⟩) NB349_350.out _).trans (hHeld.2.2.2.2.2.2.1)))))))), ((cell_far (p := ⟨gb350, _, none⟩) NB349_350.out _).trans (((cell_far (p := ⟨gb350, _, none⟩) NB349_350.out _).trans (((cell_far (p := ⟨gb350, _, none⟩) NB349_350.out _).trans (((cell_far (p := ⟨gb350, _, none⟩) NB349_350.out _).trans (hHeld.2.2.2.2.2.2.2))))))))⟩ (fun hHeld => ?_)
        clear hK K
        refine pure_ (i := 11) (N := some 4) (v := ?_) (a' := ?_) #[true, true, true, true, true, true, true, true, true, true, true, true, false, false] rfl rfl (any_of HT_.out (by kernel_rfl)) (fun _ _ _ h => h) (Or.inl ⟨by rfl, ?_⟩) ?_ ?_
        rotate_left
        · intro w'
          go_simp
          with_reducible rfl
        rotate_left
        · simp only [Act.put, List.setIfInBounds_toArray, List.set_cons_zero, List.set_cons_succ, i64_w, i32_w]
          rfl
        refine one_ (i := 12) (N := none) #[true, true, true, true, true, true, true, true, true, true, true, true, true, false] rfl rfl (one_of HT_.out (by kernel_rfl)) (by decide) (fun K hK => ?_)
        have hs35 : w30.cell? ⟨gb351, 0, none⟩ = some (.int .i64 0) := (blk_cell BK351.out 0).trans rfl
        have hfs35 := blk_frozen BK351.out 0
        have hns35_0 := NB349_351.out
        have hns35_1 := NB350_351.out
        have hms35_0 := NB351_349.out
        have hms35_1 := NB351_350.out
        have hs36 : w30.cell? ⟨gb351, 1, none⟩ = some (.int .i64 0) := (blk_cell BK351.out 1).trans rfl
        have hfs36 := blk_frozen BK351.out 1
        have hns36_0 := NB349_351.out
        have hns36_1 := NB350_351.out
        have hms36_0 := NB351_349.out
        have hms36_1 := NB351_350.out
        refine skip_ (w1 := ?_) (by rfl) rfl ?_ ?_
        rotate_left
        · go_simp
          rfl
        refine hK.out _ _ ⟨((cell_far (p := ⟨gb351, _, none⟩) NB349_351.out _).trans (((cell_far (p := ⟨gb351, _, none⟩) NB349_351.out _).trans (hHeld.1)))), ((cell_far (p := ⟨gb351, _, none⟩) NB349_351.out _).trans (((cell_far (p := ⟨gb351, _, none⟩) NB349_351.out _).trans (hHeld.2.1)))), ((cell_far (p := ⟨gb351, _, none⟩) NB349_351.out _).trans (((cell_far (p := ⟨gb351, _, none⟩) NB349_351.out _).trans (hHeld.2.2.1)))), ((cell_far (p := ⟨gb351, _, none⟩) NB349_351.out _).trans (((cell_far (p := ⟨gb351, _, none⟩) NB349_351.out _).trans (hHeld.2.2.2.1)))), ((cell_far (p := ⟨gb351, _, none⟩) NB349_351.out _).trans (((cell_far (p := ⟨gb351, _, none⟩) NB349_351.out _).trans (hHeld.2.2.2.2.1)))), ((cell_far (p := ⟨gb351, _, none⟩) NB349_351.out _).trans (((cell_far (p := ⟨gb351, _, none⟩) NB349_351.out _).trans (hHeld.2.2.2.2.2.1)))), ((cell_far (p := ⟨gb351, _, none⟩) NB349_351.out _).trans (((cell_far (p := ⟨gb351, _, none⟩) NB349_351.out _).trans (hHeld.2.2.2.2.2.2.1)))), ((cell_far (p := ⟨gb351, _, none⟩) NB349_351.out _).trans (((cell_far (p := ⟨gb351, _, none⟩) NB349_351.out _).trans (hHeld.2.2.2.2.2.2.2))))⟩ (fun hHeld => ?_)
        clear hK K
        refine pure_ (i := 13) (N := some 6) (v := ?_) (a' := ?_) #[true, true, true, true, true, true, true, true, true, true, true, true, true, true] rfl rfl (any_of HT_.out (by kernel_rfl)) (fun _ _ _ h => h) (Or.inl ⟨by rfl, ?_⟩) ?_ ?_
        rotate_left
        · intro w'
          go_simp
          with_reducible rfl
        rotate_left
        · simp only [Act.put, List.setIfInBounds_toArray, List.set_cons_zero, List.set_cons_succ, i64_w, i32_w]
          rfl
        refine done_ (done_of HT_.out (by kernel_rfl)) ?_
        have hnb37 := NB350_349.out
        have hnc37 := NB349_350.out
        have hnb38 := NB350_351.out
        have hnc38 := NB351_350.out
        have hcz39_0 : w30.cell? ⟨gb350, 0, none⟩ = some (.string (⟨#[]⟩ : ByteArray)) := (blk_cell BK350.out 0).trans rfl
        have hcz39_1 : w30.cell? ⟨gb350, 1, none⟩ = some (.int .i64 0) := (blk_cell BK350.out 1).trans rfl
        have hcz39_2 : w30.cell? ⟨gb350, 2, none⟩ = some (.int .i64 0) := (blk_cell BK350.out 2).trans rfl
        have hcz39_3 : w30.cell? ⟨gb350, 3, none⟩ = some (.int .i64 0) := (blk_cell BK350.out 3).trans rfl
        have hfz39_0 := blk_frozen BK350.out 0
        have hfz39_1 := blk_frozen BK350.out 1
        have hfz39_2 := blk_frozen BK350.out 2
        have hfz39_3 := blk_frozen BK350.out 3
        try go_wp2_with (first | ((with_reducible refine gate_callee (f := 37) rfl ?_); refine goesL_ (some 22) rfl rfl Try.func37 (by kernel_rfl) rfl #[.agg #[.string a0_0, .int .i64 a0_1, .int .i64 a0_2, .int .i64 a0_3]] rfl (by (try simp only [List.map_toArray, List.map_cons, List.map_nil]); first | done | rfl | (simp only [List.length_drop, List.length_take]; rfl)) ?_; (with_reducible refine (value_Of.calls a0_0 a0_1 a0_2 a0_3 t353 _ A19.out).mono ?_); rintro e w40 ⟨rfl, hb⟩; refine ⟨_, rfl, ?_⟩; have n0_ := Aside0.mk (blk_below (g := gb349) (o := .cells #[.string a0_0, .int .i64 a0_1, .int .i64 a0_2, .int .i64 a0_3, .int .u8 a0_4, .int .i64 a0_5, .int .i64 a0_6, .int .u8 a0_7] 54 (0, 0)) (by (with_reducible repeat (first | refine blk_drewN ?_ _ | refine blk_drew ?_ | refine blk_alloc ?_ _)); refine blk_far ?_ NB349_351.out _; (with_reducible repeat (first | refine blk_drewN ?_ _ | refine blk_drew ?_ | refine blk_alloc ?_ _)); refine blk_far ?_ NB349_351.out _; (with_reducible repeat (first | refine blk_drewN ?_ _ | refine blk_drew ?_ | refine blk_alloc ?_ _)); refine blk_far ?_ NB349_350.out _; (with_reducible repeat (first | refine blk_drewN ?_ _ | refine blk_drew ?_ | refine blk_alloc ?_ _)); refine blk_far ?_ NB349_350.out _; (with_reducible repeat (first | refine blk_drewN ?_ _ | refine blk_drew ?_ | refine blk_alloc ?_ _)); refine blk_far ?_ NB349_350.out _; (with_reducible repeat (first | refine blk_drewN ?_ _ | refine blk_drew ?_ | refine blk_alloc ?_ _)); refine blk_far ?_ NB349_350.out _; (with_reducible repeat (first | refine blk_drewN ?_ _ | refine blk_drew ?_ | refine blk_alloc ?_ _)); exact BK349.out) hb); have n1_ := Aside0.mk (blk_below (g := gb350) (o := .cells #[.string a0_0, .int .i64 a0_1, .int .i64 a0_2, .int .i64 a0_3] 29 (0, 0)) (by (with_reducible repeat (first | refine blk_drewN ?_ _ | refine blk_drew ?_ | refine blk_alloc ?_ _)); refine blk_far ?_ NB350_351.out _; (with_reducible repeat (first | refine blk_drewN ?_ _ | refine blk_drew ?_ | refine blk_alloc ?_ _)); refine blk_far ?_ NB350_351.out _; (with_reducible repeat (first | refine blk_drewN ?_ _ | refine blk_drew ?_ | refine blk_alloc ?_ _)); refine blk_put (cs := #[.string a0_0, .int .i64 a0_1, .int .i64 a0_2, .int .i64 0]) ?_ 3 _ rfl; (with_reducible repeat (first | refine blk_drewN ?_ _ | refine blk_drew ?_ | refine blk_alloc ?_ _)); refine blk_put (cs := #[.string a0_0, .int .i64 a0_1, .int .i64 0, .int .i64 0]) ?_ 2 _ rfl; (with_reducible repeat (first | refine blk_drewN ?_ _ | refine blk_drew ?_ | refine blk_alloc ?_ _)); refine blk_put (cs := #[.string a0_0, .int .i64 0, .int .i64 0, .int .i64 0]) ?_ 1 _ rfl; (with_reducible repeat (first | refine blk_drewN ?_ _ | refine blk_drew ?_ | refine blk_alloc ?_ _)); refine blk_put (cs := #[.string (⟨#[]⟩ : ByteArray), .int .i64 0, .int .i64 0, .int .i64 0]) ?_ 0 _ rfl; (with_reducible repeat (first | refine blk_drewN ?_ _ | refine blk_drew ?_ | refine blk_alloc ?_ _)); exact BK350.out) hb); have n2_ := Aside0.mk (blk_below (g := gb351) (o := .cells #[.int .i64 a0_5, .int .i64 a0_6] 41 (0, 0)) (by (with_reducible repeat (first | refine blk_drewN ?_ _ | refine blk_drew ?_ | refine blk_alloc ?_ _)); refine blk_put (cs := #[.int .i64 a0_5, .int .i64 0]) ?_ 1 _ rfl; (with_reducible repeat (first | refine blk_drewN ?_ _ | refine blk_drew ?_ | refine blk_alloc ?_ _)); refine blk_put (cs := #[.int .i64 0, .int .i64 0]) ?_ 0 _ rfl; (with_reducible repeat (first | refine blk_drewN ?_ _ | refine blk_drew ?_ | refine blk_alloc ?_ _)); refine blk_far ?_ NB351_350.out _; (with_reducible repeat (first | refine blk_drewN ?_ _ | refine blk_drew ?_ | refine blk_alloc ?_ _)); refine blk_far ?_ NB351_350.out _; (with_reducible repeat (first | refine blk_drewN ?_ _ | refine blk_drew ?_ | refine blk_alloc ?_ _)); refine blk_far ?_ NB351_350.out _; (with_reducible repeat (first | refine blk_drewN ?_ _ | refine blk_drew ?_ | refine blk_alloc ?_ _)); refine blk_far ?_ NB351_350.out _; (with_reducible repeat (first | refine blk_drewN ?_ _ | refine blk_drew ?_ | refine blk_alloc ?_ _)); exact BK351.out) hb); have n3_ := Aside0.mk (below_step (by repeat (first | (with_reducible first | exact HB.out | apply below_alloc | apply pw_below_drewN | apply below_drew1 | refine below_set ?_ GE349.out | refine below_set ?_ GE350.out | refine below_set ?_ GE351.out) | exact HB.out)) hb); clear BK349; clear BK350; clear BK351; clear HB; have BK349 := n0_; have BK350 := n1_; have BK351 := n2_; have HB := n3_; clear n0_ n1_ n2_ n3_; (try clear hb); (try clear hb2); (try clear hk); (try clear hi)))
        have n0_ := Aside0.mk (blk_drew BK349.out)
        have n1_ := Aside0.mk (blk_drew BK350.out)
        have n2_ := Aside0.mk (blk_drew BK351.out)
        have n3_ := Aside0.mk (below_drew1 HB.out)
        clear BK349
        clear BK350
        clear BK351
        clear HB
        have BK349 := n0_
        have BK350 := n1_
        have BK351 := n2_
        have HB := n3_
        clear n0_ n1_ n2_ n3_
        refine start_ (n := 21) (S := fun w' => w'.cell? ⟨gb350, 0, none⟩ = some (.string a0_0) ∧ w'.cell? ⟨gb350, 1, none⟩ = some (.int .i64 a0_1) ∧ w'.cell? ⟨gb350, 2, none⟩ = some (.int .i64 a0_2) ∧ w'.cell? ⟨gb350, 3, none⟩ = some (.int .i64 a0_3) ∧ w'.cell? ⟨gb351, 0, none⟩ = some (.int .i64 a0_5) ∧ w'.cell? ⟨gb351, 1, none⟩ = some (.int .i64 a0_6)) (ds := []) #[false, false, false, false, false, false, false, false, false, false, false, false, false, false, false, false, false, false, false, false, false] (by kernel_rfl) rfl rfl ⟨(blk_cell BK350.out 0).trans rfl, (blk_cell BK350.out 1).trans rfl, (blk_cell BK350.out 2).trans rfl, (blk_cell BK350.out 3).trans rfl, (blk_cell BK351.out 0).trans rfl, (blk_cell BK351.out 1).trans rfl⟩ (fun hHeld => ?_); refine with_tabW riverbanklaw14_ValueOf.tab5 riverbanklaw14_ValueOf.bits5 (fun HT_ HW_ => ?_)
        generalize w40.drew = w41 at BK349 BK350 BK351 HB hHeld ⊢
        refine pure_ (i := 0) (N := some 23) (v := ?_) (a' := ?_) #[true, false, false, false, false, false, false, false, false, false, false, false, false, false, false, false, false, false, false, false, false] rfl rfl (any_of HT_.out (by kernel_rfl)) (fun _ _ _ h => h) (Or.inl ⟨by rfl, ?_⟩) ?_ ?_
        rotate_left
        · intro w'
          go_simp
          with_reducible rfl
        rotate_left
        · simp only [Act.put, List.setIfInBounds_toArray, List.set_cons_zero, List.set_cons_succ, i64_w, i32_w]
          rfl
        refine take_ (i := 1) (N := some 24) (v := ?_) (a' := ?_) #[true, true, false, false, false, false, false, false, false, false, false, false, false, false, false, false, false, false, false, false, false] rfl rfl (take_ofW HT_.out HW_.out (by kernel_rfl)) (fun _ _ _ h => h) (Or.inl ⟨by rfl, ?_⟩) hHeld ?_ ?_
        rotate_left
        · rintro w' ⟨s0, s1, s2, s3, s4, s5⟩
          go_simp
          with_reducible rfl
        rotate_left
        · simp only [Act.put, List.setIfInBounds_toArray, List.set_cons_zero, List.set_cons_succ, i64_w, i32_w]
          rfl
        refine one_ (i := 2) (N := some 25) #[true, true, true, false, false, false, false, false, false, false, false, false, false, false, false, false, false, false, false, false, false] rfl rfl (one_of HT_.out (by kernel_rfl)) (by decide) (fun K hK => ?_)
        refine goes_ Try.func38 (by kernel_rfl) rfl #[.agg #[.string a0_0, .int .i64 a0_1, .int .i64 a0_2, .int .i64 a0_3]] (by rfl) rfl rfl (by (try simp only [List.map_toArray, List.map_cons, List.map_nil]); first | done | rfl | (simp only [List.length_drop, List.length_take]; rfl)) ?_
        with_reducible refine (riverbankref14_Of.calls k a0_0 a0_1 a0_2 a0_3 t354 _ A20.out).mono ?_
        rintro e w42 ⟨rfl, hb⟩
        refine ⟨_, rfl, ?_⟩
        have n0_ := Aside0.mk (blk_below (g := gb349) (o := .cells #[.string a0_0, .int .i64 a0_1, .int .i64 a0_2, .int .i64 a0_3, .int .u8 a0_4, .int .i64 a0_5, .int .i64 a0_6, .int .u8 a0_7] 54 (0, 0)) (by (with_reducible repeat (first | refine blk_drewN ?_ _ | refine blk_drew ?_ | refine blk_alloc ?_ _)); exact BK349.out) hb)
        have n1_ := Aside0.mk (blk_below (g := gb350) (o := .cells #[.string a0_0, .int .i64 a0_1, .int .i64 a0_2, .int .i64 a0_3] 29 (0, 0)) (by (with_reducible repeat (first | refine blk_drewN ?_ _ | refine blk_drew ?_ | refine blk_alloc ?_ _)); exact BK350.out) hb)
        have n2_ := Aside0.mk (blk_below (g := gb351) (o := .cells #[.int .i64 a0_5, .int .i64 a0_6] 41 (0, 0)) (by (with_reducible repeat (first | refine blk_drewN ?_ _ | refine blk_drew ?_ | refine blk_alloc ?_ _)); exact BK351.out) hb)
        have n3_ := Aside0.mk (below_step (by repeat (first | (with_reducible first | exact HB.out | apply below_alloc | apply pw_below_drewN | apply below_drew1 | refine below_set ?_ GE349.out | refine below_set ?_ GE350.out | refine below_set ?_ GE351.out) | exact HB.out)) hb)
        clear BK349
        clear BK350
        clear BK351
        clear HB
        have BK349 := n0_
        have BK350 := n1_
        have BK351 := n2_
        have HB := n3_
        clear n0_ n1_ n2_ n3_
        (try clear hb)
        (try clear hb2)
        (try clear hk)
        (try clear hi)
        refine hK.out _ _ ⟨(blk_cell BK350.out 0).trans rfl, (blk_cell BK350.out 1).trans rfl, (blk_cell BK350.out 2).trans rfl, (blk_cell BK350.out 3).trans rfl, (blk_cell BK351.out 0).trans rfl, (blk_cell BK351.out 1).trans rfl⟩ (fun hHeld => ?_)
        clear hK K
        refine norm_ (a' := ?_) ?_ ?_
        rotate_left
        · show Act.put _ (some 25) _ = _
          simp only [Act.put, List.setIfInBounds_toArray, List.set_cons_zero, List.set_cons_succ, i64_w, i32_w]
          rfl
        refine pure_ (i := 3) (N := some 26) (v := ?_) (a' := ?_) #[true, true, true, true, false, false, false, false, false, false, false, false, false, false, false, false, false, false, false, false, false] rfl rfl (any_of HT_.out (by kernel_rfl)) (fun _ _ _ h => h) (Or.inl ⟨by rfl, ?_⟩) ?_ ?_
        rotate_left
        · intro w'
          go_simp
          with_reducible rfl
        rotate_left
        · simp only [Act.put, List.setIfInBounds_toArray, List.set_cons_zero, List.set_cons_succ, i64_w, i32_w]
          rfl
        refine pure_ (i := 4) (N := some 27) (v := ?_) (a' := ?_) #[true, true, true, true, true, false, false, false, false, false, false, false, false, false, false, false, false, false, false, false, false] rfl rfl (any_of HT_.out (by kernel_rfl)) (fun _ _ _ h => h) (Or.inl ⟨by rfl, ?_⟩) ?_ ?_
        rotate_left
        · intro w'
          go_simp
          with_reducible rfl
        rotate_left
        · simp only [Act.put, List.setIfInBounds_toArray, List.set_cons_zero, List.set_cons_succ, i64_w, i32_w]
          rfl
        refine pure_ (i := 5) (N := some 28) (v := ?_) (a' := ?_) #[true, true, true, true, true, true, false, false, false, false, false, false, false, false, false, false, false, false, false, false, false] rfl rfl (any_of HT_.out (by kernel_rfl)) (fun _ _ _ h => h) (Or.inl ⟨by rfl, ?_⟩) ?_ ?_
        rotate_left
        · intro w'
          go_simp
          with_reducible rfl
        rotate_left
        · simp only [Act.put, List.setIfInBounds_toArray, List.set_cons_zero, List.set_cons_succ, i64_w, i32_w]
          rfl
        refine pure_ (i := 6) (N := some 29) (v := ?_) (a' := ?_) #[true, true, true, true, true, true, true, false, false, false, false, false, false, false, false, false, false, false, false, false, false] rfl rfl (any_of HT_.out (by kernel_rfl)) (fun _ _ _ h => h) (Or.inl ⟨by rfl, ?_⟩) ?_ ?_
        rotate_left
        · intro w'
          go_simp
          with_reducible rfl
        rotate_left
        · simp only [Act.put, List.setIfInBounds_toArray, List.set_cons_zero, List.set_cons_succ, i64_w, i32_w]
          rfl
        refine pure_ (i := 8) (N := some 31) (v := ?_) (a' := ?_) #[true, true, true, true, true, true, true, false, true, false, false, false, false, false, false, false, false, false, false, false, false] rfl rfl (any_of HT_.out (by kernel_rfl)) (fun _ _ _ h => h) (Or.inl ⟨by rfl, ?_⟩) ?_ ?_
        rotate_left
        · intro w'
          go_simp
          with_reducible rfl
        rotate_left
        · simp only [Act.put, List.setIfInBounds_toArray, List.set_cons_zero, List.set_cons_succ, i64_w, i32_w]
          rfl
        refine pure_ (i := 10) (N := some 33) (v := ?_) (a' := ?_) #[true, true, true, true, true, true, true, false, true, false, true, false, false, false, false, false, false, false, false, false, false] rfl rfl (any_of HT_.out (by kernel_rfl)) (fun _ _ _ h => h) (Or.inl ⟨by rfl, ?_⟩) ?_ ?_
        rotate_left
        · intro w'
          go_simp
          with_reducible rfl
        rotate_left
        · simp only [Act.put, List.setIfInBounds_toArray, List.set_cons_zero, List.set_cons_succ, i64_w, i32_w]
          rfl
        refine pure_ (i := 11) (N := some 34) (v := ?_) (a' := ?_) #[true, true, true, true, true, true, true, false, true, false, true, true, false, false, false, false, false, false, false, false, false] rfl rfl (any_of HT_.out (by kernel_rfl)) (fun _ _ _ h => h) (Or.inl ⟨by rfl, ?_⟩) ?_ ?_
        rotate_left
        · intro w'
          go_simp
          with_reducible rfl
        rotate_left
        · simp only [Act.put, List.setIfInBounds_toArray, List.set_cons_zero, List.set_cons_succ, i64_w, i32_w]
          rfl
        refine pure_ (i := 13) (N := some 36) (v := ?_) (a' := ?_) #[true, true, true, true, true, true, true, false, true, false, true, true, false, true, false, false, false, false, false, false, false] rfl rfl (any_of HT_.out (by kernel_rfl)) (fun _ _ _ h => h) (Or.inl ⟨by rfl, ?_⟩) ?_ ?_
        rotate_left
        · intro w'
          go_simp
          with_reducible rfl
        rotate_left
        · simp only [Act.put, List.setIfInBounds_toArray, List.set_cons_zero, List.set_cons_succ, i64_w, i32_w]
          rfl
        refine take_ (i := 7) (N := some 30) (v := ?_) (a' := ?_) #[true, true, true, true, true, true, true, true, true, false, true, true, false, true, false, false, false, false, false, false, false] rfl rfl (take_ofW HT_.out HW_.out (by kernel_rfl)) (fun _ _ _ h => h) (Or.inl ⟨by rfl, ?_⟩) hHeld ?_ ?_
        rotate_left
        · rintro w' ⟨s0, s1, s2, s3, s4, s5⟩
          go_simp
          with_reducible rfl
        rotate_left
        · simp only [Act.put, List.setIfInBounds_toArray, List.set_cons_zero, List.set_cons_succ, i64_w, i32_w]
          rfl
        refine take_ (i := 12) (N := some 35) (v := ?_) (a' := ?_) #[true, true, true, true, true, true, true, true, true, false, true, true, true, true, false, false, false, false, false, false, false] rfl rfl (take_ofW HT_.out HW_.out (by kernel_rfl)) (fun _ _ _ h => h) (Or.inl ⟨by rfl, ?_⟩) hHeld ?_ ?_
        rotate_left
        · rintro w' ⟨s0, s1, s2, s3, s4, s5⟩
          go_simp
          with_reducible rfl
        rotate_left
        · simp only [Act.put, List.setIfInBounds_toArray, List.set_cons_zero, List.set_cons_succ, i64_w, i32_w]
          rfl
        refine one_ (i := 9) (N := some 32) #[true, true, true, true, true, true, true, true, true, true, true, true, true, true, false, false, false, false, false, false, false] rfl rfl (one_of HT_.out (by kernel_rfl)) (by decide) (fun K hK => ?_)
        refine goes_ Try.func39 (by kernel_rfl) rfl #[.int .i64 t353, .int .u8 a0_4, .agg #[.int .i64 a0_5, .int .i64 a0_6], .int .u8 a0_7] (by rfl) rfl rfl (by (try simp only [List.map_toArray, List.map_cons, List.map_nil]); first | done | rfl | (simp only [List.length_drop, List.length_take]; rfl)) ?_
        with_reducible refine (value_Moved.calls k t353 a0_4 a0_5 a0_6 a0_7 t355 _ A22.out).mono ?_
        rintro e w43 ⟨rfl, hb⟩
        refine ⟨_, rfl, ?_⟩
        have n0_ := Aside0.mk (blk_below (g := gb349) (o := .cells #[.string a0_0, .int .i64 a0_1, .int .i64 a0_2, .int .i64 a0_3, .int .u8 a0_4, .int .i64 a0_5, .int .i64 a0_6, .int .u8 a0_7] 54 (0, 0)) (by (with_reducible repeat (first | refine blk_drewN ?_ _ | refine blk_drew ?_ | refine blk_alloc ?_ _)); exact BK349.out) hb)
        have n1_ := Aside0.mk (blk_below (g := gb350) (o := .cells #[.string a0_0, .int .i64 a0_1, .int .i64 a0_2, .int .i64 a0_3] 29 (0, 0)) (by (with_reducible repeat (first | refine blk_drewN ?_ _ | refine blk_drew ?_ | refine blk_alloc ?_ _)); exact BK350.out) hb)
        have n2_ := Aside0.mk (blk_below (g := gb351) (o := .cells #[.int .i64 a0_5, .int .i64 a0_6] 41 (0, 0)) (by (with_reducible repeat (first | refine blk_drewN ?_ _ | refine blk_drew ?_ | refine blk_alloc ?_ _)); exact BK351.out) hb)
        have n3_ := Aside0.mk (below_step (by repeat (first | (with_reducible first | exact HB.out | apply below_alloc | apply pw_below_drewN | apply below_drew1 | refine below_set ?_ GE349.out | refine below_set ?_ GE350.out | refine below_set ?_ GE351.out) | exact HB.out)) hb)
        clear BK349
        clear BK350
        clear BK351
        clear HB
        have BK349 := n0_
        have BK350 := n1_
        have BK351 := n2_
        have HB := n3_
        clear n0_ n1_ n2_ n3_
        (try clear hb)
        (try clear hb2)
        (try clear hk)
        (try clear hi)
        refine hK.out _ _ ⟨(blk_cell BK350.out 0).trans rfl, (blk_cell BK350.out 1).trans rfl, (blk_cell BK350.out 2).trans rfl, (blk_cell BK350.out 3).trans rfl, (blk_cell BK351.out 0).trans rfl, (blk_cell BK351.out 1).trans rfl⟩ (fun hHeld => ?_)
        clear hK K
        refine norm_ (a' := ?_) ?_ ?_
        rotate_left
        · show Act.put _ (some 32) _ = _
          simp only [Act.put, List.setIfInBounds_toArray, List.set_cons_zero, List.set_cons_succ, i64_w, i32_w]
          rfl
        refine one_ (i := 14) (N := some 37) #[true, true, true, true, true, true, true, true, true, true, true, true, true, true, true, false, false, false, false, false, false] rfl rfl (one_of HT_.out (by kernel_rfl)) (by decide) (fun K hK => ?_)
        refine goes_ Try.func40 (by kernel_rfl) rfl #[.int .i64 t353, .int .u8 a0_4, .agg #[.int .i64 a0_5, .int .i64 a0_6], .int .u8 a0_7] (by rfl) rfl rfl (by (try simp only [List.map_toArray, List.map_cons, List.map_nil]); first | done | rfl | (simp only [List.length_drop, List.length_take]; rfl)) ?_
        with_reducible refine (riverbankref14_Moved.calls k t353 a0_4 a0_5 a0_6 a0_7 t356 _ A23.out).mono ?_
        rintro e w44 ⟨rfl, hb⟩
        refine ⟨_, rfl, ?_⟩
        have n0_ := Aside0.mk (blk_below (g := gb349) (o := .cells #[.string a0_0, .int .i64 a0_1, .int .i64 a0_2, .int .i64 a0_3, .int .u8 a0_4, .int .i64 a0_5, .int .i64 a0_6, .int .u8 a0_7] 54 (0, 0)) (by (with_reducible repeat (first | refine blk_drewN ?_ _ | refine blk_drew ?_ | refine blk_alloc ?_ _)); exact BK349.out) hb)
        have n1_ := Aside0.mk (blk_below (g := gb350) (o := .cells #[.string a0_0, .int .i64 a0_1, .int .i64 a0_2, .int .i64 a0_3] 29 (0, 0)) (by (with_reducible repeat (first | refine blk_drewN ?_ _ | refine blk_drew ?_ | refine blk_alloc ?_ _)); exact BK350.out) hb)
        have n2_ := Aside0.mk (blk_below (g := gb351) (o := .cells #[.int .i64 a0_5, .int .i64 a0_6] 41 (0, 0)) (by (with_reducible repeat (first | refine blk_drewN ?_ _ | refine blk_drew ?_ | refine blk_alloc ?_ _)); exact BK351.out) hb)
        have n3_ := Aside0.mk (below_step (by repeat (first | (with_reducible first | exact HB.out | apply below_alloc | apply pw_below_drewN | apply below_drew1 | refine below_set ?_ GE349.out | refine below_set ?_ GE350.out | refine below_set ?_ GE351.out) | exact HB.out)) hb)
        clear BK349
        clear BK350
        clear BK351
        clear HB
        have BK349 := n0_
        have BK350 := n1_
        have BK351 := n2_
        have HB := n3_
        clear n0_ n1_ n2_ n3_
        (try clear hb)
        (try clear hb2)
        (try clear hk)
        (try clear hi)
        refine hK.out _ _ ⟨(blk_cell BK350.out 0).trans rfl, (blk_cell BK350.out 1).trans rfl, (blk_cell BK350.out 2).trans rfl, (blk_cell BK350.out 3).trans rfl, (blk_cell BK351.out 0).trans rfl, (blk_cell BK351.out 1).trans rfl⟩ (fun hHeld => ?_)
        clear hK K
        refine norm_ (a' := ?_) ?_ ?_
        rotate_left
        · show Act.put _ (some 37) _ = _
          simp only [Act.put, List.setIfInBounds_toArray, List.set_cons_zero, List.set_cons_succ, i64_w, i32_w]
          rfl
        refine pure_ (i := 15) (N := some 38) (v := ?_) (a' := ?_) #[true, true, true, true, true, true, true, true, true, true, true, true, true, true, true, true, false, false, false, false, false] rfl rfl (any_of HT_.out (by kernel_rfl)) (fun _ _ _ h => h) (Or.inl ⟨by rfl, ?_⟩) ?_ ?_
        rotate_left
        · intro w'
          go_simp
          with_reducible rfl
        rotate_left
        · simp only [Act.put, List.setIfInBounds_toArray, List.set_cons_zero, List.set_cons_succ, i64_w, i32_w]
          rfl
        refine pure_ (i := 16) (N := some 39) (v := ?_) (a' := ?_) #[true, true, true, true, true, true, true, true, true, true, true, true, true, true, true, true, true, false, false, false, false] rfl rfl (any_of HT_.out (by kernel_rfl)) (fun _ _ _ h => h) (Or.inl ⟨by rfl, ?_⟩) ?_ ?_
        rotate_left
        · intro w'
          go_simp
          with_reducible rfl
        rotate_left
        · simp only [Act.put, List.setIfInBounds_toArray, List.set_cons_zero, List.set_cons_succ, i64_w, i32_w]
          rfl
        refine pure_ (i := 17) (N := some 40) (v := ?_) (a' := ?_) #[true, true, true, true, true, true, true, true, true, true, true, true, true, true, true, true, true, true, false, false, false] rfl rfl (any_of HT_.out (by kernel_rfl)) (fun _ _ _ h => h) (Or.inl ⟨by rfl, ?_⟩) ?_ ?_
        rotate_left
        · intro w'
          go_simp
          with_reducible rfl
        rotate_left
        · simp only [Act.put, List.setIfInBounds_toArray, List.set_cons_zero, List.set_cons_succ, i64_w, i32_w]
          rfl
        refine one_ (i := 18) (N := some 41) #[true, true, true, true, true, true, true, true, true, true, true, true, true, true, true, true, true, true, true, false, false] rfl rfl (one_of HT_.out (by kernel_rfl)) (by decide) (fun K hK => ?_)
        refine goes_ Try.func36 (by kernel_rfl) rfl #[] (by rfl) rfl rfl (by (try simp only [List.map_toArray, List.map_cons, List.map_nil]); first | done | rfl | (simp only [List.length_drop, List.length_take]; rfl)) ?_
        with_reducible refine (riverbanklaw14_live.calls  t357 _ A25.out).mono ?_
        rintro e w45 ⟨rfl, hb⟩
        refine ⟨_, rfl, ?_⟩
        have n0_ := Aside0.mk (blk_below (g := gb349) (o := .cells #[.string a0_0, .int .i64 a0_1, .int .i64 a0_2, .int .i64 a0_3, .int .u8 a0_4, .int .i64 a0_5, .int .i64 a0_6, .int .u8 a0_7] 54 (0, 0)) (by (with_reducible repeat (first | refine blk_drewN ?_ _ | refine blk_drew ?_ | refine blk_alloc ?_ _)); exact BK349.out) hb)
        have n1_ := Aside0.mk (blk_below (g := gb350) (o := .cells #[.string a0_0, .int .i64 a0_1, .int .i64 a0_2, .int .i64 a0_3] 29 (0, 0)) (by (with_reducible repeat (first | refine blk_drewN ?_ _ | refine blk_drew ?_ | refine blk_alloc ?_ _)); exact BK350.out) hb)
        have n2_ := Aside0.mk (blk_below (g := gb351) (o := .cells #[.int .i64 a0_5, .int .i64 a0_6] 41 (0, 0)) (by (with_reducible repeat (first | refine blk_drewN ?_ _ | refine blk_drew ?_ | refine blk_alloc ?_ _)); exact BK351.out) hb)
        have n3_ := Aside0.mk (below_step (by repeat (first | (with_reducible first | exact HB.out | apply below_alloc | apply pw_below_drewN | apply below_drew1 | refine below_set ?_ GE349.out | refine below_set ?_ GE350.out | refine below_set ?_ GE351.out) | exact HB.out)) hb)
        clear BK349
        clear BK350
        clear BK351
        clear HB
        have BK349 := n0_
        have BK350 := n1_
        have BK351 := n2_
        have HB := n3_
        clear n0_ n1_ n2_ n3_
        (try clear hb)
        (try clear hb2)
        (try clear hk)
        (try clear hi)
        refine hK.out _ _ ⟨(blk_cell BK350.out 0).trans rfl, (blk_cell BK350.out 1).trans rfl, (blk_cell BK350.out 2).trans rfl, (blk_cell BK350.out 3).trans rfl, (blk_cell BK351.out 0).trans rfl, (blk_cell BK351.out 1).trans rfl⟩ (fun hHeld => ?_)
        clear hK K
        refine norm_ (a' := ?_) ?_ ?_
        rotate_left
        · show Act.put _ (some 41) _ = _
          simp only [Act.put, List.setIfInBounds_toArray, List.set_cons_zero, List.set_cons_succ, i64_w, i32_w]
          rfl
        refine pure_ (i := 19) (N := some 42) (v := ?_) (a' := ?_) #[true, true, true, true, true, true, true, true, true, true, true, true, true, true, true, true, true, true, true, true, false] rfl rfl (any_of HT_.out (by kernel_rfl)) (fun _ _ _ h => h) (Or.inl ⟨by rfl, ?_⟩) ?_ ?_
        rotate_left
        · intro w'
          go_simp
          with_reducible rfl
        rotate_left
        · simp only [Act.put, List.setIfInBounds_toArray, List.set_cons_zero, List.set_cons_succ, i64_w, i32_w]
          rfl
        refine pure_ (i := 20) (N := some 2) (v := ?_) (a' := ?_) #[true, true, true, true, true, true, true, true, true, true, true, true, true, true, true, true, true, true, true, true, true] rfl rfl (any_of HT_.out (by kernel_rfl)) (fun _ _ _ h => h) (Or.inl ⟨by rfl, ?_⟩) ?_ ?_
        rotate_left
        · intro w'
          go_simp
          with_reducible rfl
        rotate_left
        · simp only [Act.put, List.setIfInBounds_toArray, List.set_cons_zero, List.set_cons_succ, i64_w, i32_w]
          rfl
        refine done_ (done_of HT_.out (by kernel_rfl)) ?_
        try go_wp2
        go_ret
        exact ⟨by first | rfl | (simp [errW_none, errW_some] <;> rfl) | (simp [*, errW_none, errW_some] <;> rfl), by repeat (first | (with_reducible first | exact HB.out | apply below_alloc | apply pw_below_drewN | apply below_drew1 | refine below_set ?_ GE349.out | refine below_set ?_ GE350.out | refine below_set ?_ GE351.out) | exact HB.out)⟩
      · rw [if_neg c24] at H
        have c24b0 : (t355 == t356) = false := beq_eq_false_iff_ne.mpr c24
        have c24b1 : (t355 != t356) = true := bne_iff_ne.mpr c24
        obtain rfl := Option.some.inj H
        go_enter Try.func11, Try.ntmps11
        try go_wp2_with (first | ((with_reducible refine gate_dst (N := 1) rfl ?_); refine box_event ?hg (N := 1) ?hd (cs := #[.string a0_0, .int .i64 a0_1, .int .i64 a0_2, .int .i64 a0_3, .int .u8 a0_4, .int .i64 a0_5, .int .i64 a0_6, .int .u8 a0_7]) (t := 54) ?hr ?_; (case hd => rfl); (case hg => rfl); (case hr => first | (go_simp; done) | (go_simp; rfl)); intro gb349 hg w46 hbox hb; have n0_ := Aside0.mk (below_step (by repeat (first | (with_reducible first | exact HB.out | apply below_alloc | apply pw_below_drewN | apply below_drew1) | exact HB.out)) hb); have n1_ := Aside0.mk (hbox); have n2_ := Aside0.mk ((by rw [hg]; exact (below_size (by repeat (first | (with_reducible first | exact HB.out | apply below_alloc | apply pw_below_drewN | apply below_drew1) | exact HB.out))) : w.heap.size ≤ gb349)); have n3_ := Aside0.mk ((by rw [hg]; exact (below_size (by repeat (first | (with_reducible first | exact HB.out | apply below_alloc | apply pw_below_drewN | apply below_drew1) | exact HB.out))) : w.heap.size ≤ gb349)); clear HB; have HB := n0_; have BK349 := n1_; have GW349 := n2_; have GE349 := n3_; clear n0_ n1_ n2_ n3_; clear hb hbox hg))
        have n0_ := Aside0.mk (blk_drew BK349.out)
        have n1_ := Aside0.mk (below_drew1 HB.out)
        clear BK349
        clear HB
        have BK349 := n0_
        have HB := n1_
        clear n0_ n1_
        refine start_ (n := 14) (S := fun w' => w'.cell? ⟨gb349, 0, none⟩ = some (.string a0_0) ∧ w'.cell? ⟨gb349, 1, none⟩ = some (.int .i64 a0_1) ∧ w'.cell? ⟨gb349, 2, none⟩ = some (.int .i64 a0_2) ∧ w'.cell? ⟨gb349, 3, none⟩ = some (.int .i64 a0_3) ∧ w'.cell? ⟨gb349, 4, none⟩ = some (.int .u8 a0_4) ∧ w'.cell? ⟨gb349, 5, none⟩ = some (.int .i64 a0_5) ∧ w'.cell? ⟨gb349, 6, none⟩ = some (.int .i64 a0_6) ∧ w'.cell? ⟨gb349, 7, none⟩ = some (.int .u8 a0_7)) (ds := []) #[false, false, false, false, false, false, false, false, false, false, false, false, false, false] (by kernel_rfl) rfl rfl ⟨(blk_cell BK349.out 0).trans rfl, (blk_cell BK349.out 1).trans rfl, (blk_cell BK349.out 2).trans rfl, (blk_cell BK349.out 3).trans rfl, (blk_cell BK349.out 4).trans rfl, (blk_cell BK349.out 5).trans rfl, (blk_cell BK349.out 6).trans rfl, (blk_cell BK349.out 7).trans rfl⟩ (fun hHeld => ?_); refine with_tabW riverbanklaw14_ValueOf.tab1 riverbanklaw14_ValueOf.bits1 (fun HT_ HW_ => ?_)
        generalize w46.drew = w47 at BK349 HB hHeld ⊢
        refine pure_ (i := 0) (N := some 8) (v := ?_) (a' := ?_) #[true, false, false, false, false, false, false, false, false, false, false, false, false, false] rfl rfl (any_of HT_.out (by kernel_rfl)) (fun _ _ _ h => h) (Or.inl ⟨by rfl, ?_⟩) ?_ ?_
        rotate_left
        · intro w'
          go_simp
          with_reducible rfl
        rotate_left
        · simp only [Act.put, List.setIfInBounds_toArray, List.set_cons_zero, List.set_cons_succ, i64_w, i32_w]
          rfl
        refine pure_ (i := 2) (N := some 10) (v := ?_) (a' := ?_) #[true, false, true, false, false, false, false, false, false, false, false, false, false, false] rfl rfl (any_of HT_.out (by kernel_rfl)) (fun _ _ _ h => h) (Or.inl ⟨by rfl, ?_⟩) ?_ ?_
        rotate_left
        · intro w'
          go_simp
          with_reducible rfl
        rotate_left
        · simp only [Act.put, List.setIfInBounds_toArray, List.set_cons_zero, List.set_cons_succ, i64_w, i32_w]
          rfl
        refine pure_ (i := 4) (N := some 12) (v := ?_) (a' := ?_) #[true, false, true, false, true, false, false, false, false, false, false, false, false, false] rfl rfl (any_of HT_.out (by kernel_rfl)) (fun _ _ _ h => h) (Or.inl ⟨by rfl, ?_⟩) ?_ ?_
        rotate_left
        · intro w'
          go_simp
          with_reducible rfl
        rotate_left
        · simp only [Act.put, List.setIfInBounds_toArray, List.set_cons_zero, List.set_cons_succ, i64_w, i32_w]
          rfl
        refine pure_ (i := 6) (N := some 14) (v := ?_) (a' := ?_) #[true, false, true, false, true, false, true, false, false, false, false, false, false, false] rfl rfl (any_of HT_.out (by kernel_rfl)) (fun _ _ _ h => h) (Or.inl ⟨by rfl, ?_⟩) ?_ ?_
        rotate_left
        · intro w'
          go_simp
          with_reducible rfl
        rotate_left
        · simp only [Act.put, List.setIfInBounds_toArray, List.set_cons_zero, List.set_cons_succ, i64_w, i32_w]
          rfl
        refine take_ (i := 1) (N := some 9) (v := ?_) (a' := ?_) #[true, true, true, false, true, false, true, false, false, false, false, false, false, false] rfl rfl (take_ofW HT_.out HW_.out (by kernel_rfl)) (fun _ _ _ h => h) (Or.inl ⟨by rfl, ?_⟩) hHeld ?_ ?_
        rotate_left
        · rintro w' ⟨s0, s1, s2, s3, s4, s5, s6, s7⟩
          go_simp
          with_reducible rfl
        rotate_left
        · simp only [Act.put, List.setIfInBounds_toArray, List.set_cons_zero, List.set_cons_succ, i64_w, i32_w]
          rfl
        refine take_ (i := 3) (N := some 11) (v := ?_) (a' := ?_) #[true, true, true, true, true, false, true, false, false, false, false, false, false, false] rfl rfl (take_ofW HT_.out HW_.out (by kernel_rfl)) (fun _ _ _ h => h) (Or.inl ⟨by rfl, ?_⟩) hHeld ?_ ?_
        rotate_left
        · rintro w' ⟨s0, s1, s2, s3, s4, s5, s6, s7⟩
          go_simp
          with_reducible rfl
        rotate_left
        · simp only [Act.put, List.setIfInBounds_toArray, List.set_cons_zero, List.set_cons_succ, i64_w, i32_w]
          rfl
        refine take_ (i := 5) (N := some 13) (v := ?_) (a' := ?_) #[true, true, true, true, true, true, true, false, false, false, false, false, false, false] rfl rfl (take_ofW HT_.out HW_.out (by kernel_rfl)) (fun _ _ _ h => h) (Or.inl ⟨by rfl, ?_⟩) hHeld ?_ ?_
        rotate_left
        · rintro w' ⟨s0, s1, s2, s3, s4, s5, s6, s7⟩
          go_simp
          with_reducible rfl
        rotate_left
        · simp only [Act.put, List.setIfInBounds_toArray, List.set_cons_zero, List.set_cons_succ, i64_w, i32_w]
          rfl
        refine take_ (i := 7) (N := some 15) (v := ?_) (a' := ?_) #[true, true, true, true, true, true, true, true, false, false, false, false, false, false] rfl rfl (take_ofW HT_.out HW_.out (by kernel_rfl)) (fun _ _ _ h => h) (Or.inl ⟨by rfl, ?_⟩) hHeld ?_ ?_
        rotate_left
        · rintro w' ⟨s0, s1, s2, s3, s4, s5, s6, s7⟩
          go_simp
          with_reducible rfl
        rotate_left
        · simp only [Act.put, List.setIfInBounds_toArray, List.set_cons_zero, List.set_cons_succ, i64_w, i32_w]
          rfl
        refine join_ (σ := Nat × Nat) 4 #[true, true, true, true, true, true, true, true, true, true, false, false, false, false] (fun s_ => [(3, .pointer (some ⟨s_.1, 0, none⟩)), (5, .pointer (some ⟨s_.2, 0, none⟩))]) (fun s_ w' => (w'.cell? ⟨gb349, 0, none⟩ = some (.string a0_0) ∧ w'.cell? ⟨gb349, 1, none⟩ = some (.int .i64 a0_1) ∧ w'.cell? ⟨gb349, 2, none⟩ = some (.int .i64 a0_2) ∧ w'.cell? ⟨gb349, 3, none⟩ = some (.int .i64 a0_3) ∧ w'.cell? ⟨gb349, 4, none⟩ = some (.int .u8 a0_4) ∧ w'.cell? ⟨gb349, 5, none⟩ = some (.int .i64 a0_5) ∧ w'.cell? ⟨gb349, 6, none⟩ = some (.int .i64 a0_6) ∧ w'.cell? ⟨gb349, 7, none⟩ = some (.int .u8 a0_7)) ∧ (w'.heap[gb349]? = some (.cells #[.string a0_0, .int .i64 a0_1, .int .i64 a0_2, .int .i64 a0_3, .int .u8 a0_4, .int .i64 a0_5, .int .i64 a0_6, .int .u8 a0_7] 54 (0, 0))) ∧ (w'.heap[s_.1]? = some (.cells #[.string (⟨#[]⟩ : ByteArray), .int .i64 0, .int .i64 0, .int .i64 0] 29 (0, 0))) ∧ (w'.heap[s_.2]? = some (.cells #[.int .i64 0, .int .i64 0] 41 (0, 0))) ∧ (w.heap.size ≤ s_.1) ∧ (w.heap.size ≤ s_.1) ∧ (gb349 ≠ s_.1) ∧ (s_.1 ≠ gb349) ∧ (s_.2 ≠ s_.1) ∧ (s_.1 ≠ s_.2) ∧ (w.heap.size ≤ s_.2) ∧ (w.heap.size ≤ s_.2) ∧ (gb349 ≠ s_.2) ∧ (s_.2 ≠ gb349) ∧ (Below w.heap.size w w')) ?_ ?_
        rotate_left
        · intro hCont
          refine two_ (i := 8) (j := 9) (Ni := some 3) (Nj := some 5) #[true, true, true, true, true, true, true, true, true, false, false, false, false, false] #[true, true, true, true, true, true, true, true, false, true, false, false, false, false] rfl rfl rfl rfl (two_of HT_.out (by kernel_rfl)) (by decide) (by decide) (fun K hK => ?_) (fun K hK => ?_)
          · skip
            refine box_step ?hg (N := 3) ?hd (cs := #[.string (⟨#[]⟩ : ByteArray), .int .i64 0, .int .i64 0, .int .i64 0]) (t := 29) ?hr ?_; (case hd => rfl); (case hg => rfl); (case hr => first | (go_simp; done) | (go_simp; rfl))
            intro gb350 hg w48 hbox hb
            have n0_ := Aside0.mk (blk_below (g := gb349) (o := .cells #[.string a0_0, .int .i64 a0_1, .int .i64 a0_2, .int .i64 a0_3, .int .u8 a0_4, .int .i64 a0_5, .int .i64 a0_6, .int .u8 a0_7] 54 (0, 0)) (by (with_reducible repeat (first | refine blk_drewN ?_ _ | refine blk_drew ?_ | refine blk_alloc ?_ _)); exact BK349.out) hb)
            have n1_ := Aside0.mk (below_step (by repeat (first | (with_reducible first | exact HB.out | apply below_alloc | apply pw_below_drewN | apply below_drew1 | refine below_set ?_ GE349.out) | exact HB.out)) hb)
            have n2_ := Aside0.mk (hbox)
            have n3_ := Aside0.mk ((by rw [hg]; exact (below_size (by repeat (first | (with_reducible first | exact HB.out | apply below_alloc | apply pw_below_drewN | apply below_drew1 | refine below_set ?_ GE349.out) | exact HB.out))) : w.heap.size ≤ gb350))
            have n4_ := Aside0.mk ((by rw [hg]; exact (below_size (by repeat (first | (with_reducible first | exact HB.out | apply below_alloc | apply pw_below_drewN | apply below_drew1 | refine below_set ?_ GE349.out) | exact HB.out))) : w.heap.size ≤ gb350))
            have n5_ := Aside0.mk ((by rw [hg]; exact Nat.ne_of_lt (blk_lt (g := gb349) (o := .cells #[.string a0_0, .int .i64 a0_1, .int .i64 a0_2, .int .i64 a0_3, .int .u8 a0_4, .int .i64 a0_5, .int .i64 a0_6, .int .u8 a0_7] 54 (0, 0)) (by (with_reducible repeat (first | refine blk_drewN ?_ _ | refine blk_drew ?_ | refine blk_alloc ?_ _)); exact BK349.out)) : gb349 ≠ gb350))
            have n6_ := Aside0.mk ((by rw [hg]; exact Nat.ne_of_gt (blk_lt (g := gb349) (o := .cells #[.string a0_0, .int .i64 a0_1, .int .i64 a0_2, .int .i64 a0_3, .int .u8 a0_4, .int .i64 a0_5, .int .i64 a0_6, .int .u8 a0_7] 54 (0, 0)) (by (with_reducible repeat (first | refine blk_drewN ?_ _ | refine blk_drew ?_ | refine blk_alloc ?_ _)); exact BK349.out)) : gb350 ≠ gb349))
            clear BK349
            clear HB
            have BK349 := n0_
            have HB := n1_
            have BK350 := n2_
            have GW350 := n3_
            have GE350 := n4_
            have NB349_350 := n5_
            have NB350_349 := n6_
            clear n0_ n1_ n2_ n3_ n4_ n5_ n6_
            clear hb hbox hg
            refine hK.out _ _ ⟨(blk_cell BK349.out 0).trans rfl, (blk_cell BK349.out 1).trans rfl, (blk_cell BK349.out 2).trans rfl, (blk_cell BK349.out 3).trans rfl, (blk_cell BK349.out 4).trans rfl, (blk_cell BK349.out 5).trans rfl, (blk_cell BK349.out 6).trans rfl, (blk_cell BK349.out 7).trans rfl⟩ (fun hHeld => ?_)
            clear hK K
            refine norm_ (a' := ?_) ?_ ?_
            rotate_left
            · show Act.put _ (some 3) _ = _
              simp only [Act.put, List.setIfInBounds_toArray, List.set_cons_zero, List.set_cons_succ, i64_w, i32_w]
              rfl
            refine one_ (i := 9) (N := some 5) #[true, true, true, true, true, true, true, true, true, true, false, false, false, false] rfl rfl (one_of HT_.out (by kernel_rfl)) (by decide) (fun K hK => ?_)
            refine box_step ?hg (N := 5) ?hd (cs := #[.int .i64 0, .int .i64 0]) (t := 41) ?hr ?_; (case hd => rfl); (case hg => rfl); (case hr => first | (go_simp; done) | (go_simp; rfl))
            intro gb351 hg w49 hbox hb
            have n0_ := Aside0.mk (blk_below (g := gb349) (o := .cells #[.string a0_0, .int .i64 a0_1, .int .i64 a0_2, .int .i64 a0_3, .int .u8 a0_4, .int .i64 a0_5, .int .i64 a0_6, .int .u8 a0_7] 54 (0, 0)) (by (with_reducible repeat (first | refine blk_drewN ?_ _ | refine blk_drew ?_ | refine blk_alloc ?_ _)); exact BK349.out) hb)
            have n1_ := Aside0.mk (blk_below (g := gb350) (o := .cells #[.string (⟨#[]⟩ : ByteArray), .int .i64 0, .int .i64 0, .int .i64 0] 29 (0, 0)) (by (with_reducible repeat (first | refine blk_drewN ?_ _ | refine blk_drew ?_ | refine blk_alloc ?_ _)); exact BK350.out) hb)
            have n2_ := Aside0.mk (below_step (by repeat (first | (with_reducible first | exact HB.out | apply below_alloc | apply pw_below_drewN | apply below_drew1 | refine below_set ?_ GE349.out | refine below_set ?_ GE350.out) | exact HB.out)) hb)
            have n3_ := Aside0.mk (hbox)
            have n4_ := Aside0.mk ((by rw [hg]; exact (below_size (by repeat (first | (with_reducible first | exact HB.out | apply below_alloc | apply pw_below_drewN | apply below_drew1 | refine below_set ?_ GE349.out | refine below_set ?_ GE350.out) | exact HB.out))) : w.heap.size ≤ gb351))
            have n5_ := Aside0.mk ((by rw [hg]; exact (below_size (by repeat (first | (with_reducible first | exact HB.out | apply below_alloc | apply pw_below_drewN | apply below_drew1 | refine below_set ?_ GE349.out | refine below_set ?_ GE350.out) | exact HB.out))) : w.heap.size ≤ gb351))
            have n6_ := Aside0.mk ((by rw [hg]; exact Nat.ne_of_lt (blk_lt (g := gb349) (o := .cells #[.string a0_0, .int .i64 a0_1, .int .i64 a0_2, .int .i64 a0_3, .int .u8 a0_4, .int .i64 a0_5, .int .i64 a0_6, .int .u8 a0_7] 54 (0, 0)) (by (with_reducible repeat (first | refine blk_drewN ?_ _ | refine blk_drew ?_ | refine blk_alloc ?_ _)); exact BK349.out)) : gb349 ≠ gb351))
            have n7_ := Aside0.mk ((by rw [hg]; exact Nat.ne_of_gt (blk_lt (g := gb349) (o := .cells #[.string a0_0, .int .i64 a0_1, .int .i64 a0_2, .int .i64 a0_3, .int .u8 a0_4, .int .i64 a0_5, .int .i64 a0_6, .int .u8 a0_7] 54 (0, 0)) (by (with_reducible repeat (first | refine blk_drewN ?_ _ | refine blk_drew ?_ | refine blk_alloc ?_ _)); exact BK349.out)) : gb351 ≠ gb349))
            have n8_ := Aside0.mk ((by rw [hg]; exact Nat.ne_of_lt (blk_lt (g := gb350) (o := .cells #[.string (⟨#[]⟩ : ByteArray), .int .i64 0, .int .i64 0, .int .i64 0] 29 (0, 0)) (by (with_reducible repeat (first | refine blk_drewN ?_ _ | refine blk_drew ?_ | refine blk_alloc ?_ _)); exact BK350.out)) : gb350 ≠ gb351))
            have n9_ := Aside0.mk ((by rw [hg]; exact Nat.ne_of_gt (blk_lt (g := gb350) (o := .cells #[.string (⟨#[]⟩ : ByteArray), .int .i64 0, .int .i64 0, .int .i64 0] 29 (0, 0)) (by (with_reducible repeat (first | refine blk_drewN ?_ _ | refine blk_drew ?_ | refine blk_alloc ?_ _)); exact BK350.out)) : gb351 ≠ gb350))
            clear BK349
            clear BK350
            clear HB
            have BK349 := n0_
            have BK350 := n1_
            have HB := n2_
            have BK351 := n3_
            have GW351 := n4_
            have GE351 := n5_
            have NB349_351 := n6_
            have NB351_349 := n7_
            have NB350_351 := n8_
            have NB351_350 := n9_
            clear n0_ n1_ n2_ n3_ n4_ n5_ n6_ n7_ n8_ n9_
            clear hb hbox hg
            refine hK.out _ _ ⟨(blk_cell BK349.out 0).trans rfl, (blk_cell BK349.out 1).trans rfl, (blk_cell BK349.out 2).trans rfl, (blk_cell BK349.out 3).trans rfl, (blk_cell BK349.out 4).trans rfl, (blk_cell BK349.out 5).trans rfl, (blk_cell BK349.out 6).trans rfl, (blk_cell BK349.out 7).trans rfl⟩ (fun hHeld => ?_)
            clear hK K
            refine norm_ (a' := ?_) ?_ ?_
            rotate_left
            · show Act.put _ (some 5) _ = _
              simp only [Act.put, List.setIfInBounds_toArray, List.set_cons_zero, List.set_cons_succ, i64_w, i32_w]
              rfl
            exact norm_ (by simp only [putAll, Act.put, List.setIfInBounds_toArray, List.set_cons_zero, List.set_cons_succ]) (hCont (gb350, gb351) _ ⟨hHeld, (by (with_reducible repeat (first | refine blk_drewN ?_ _ | refine blk_drew ?_ | refine blk_alloc ?_ _)); exact BK349.out), (by (with_reducible repeat (first | refine blk_drewN ?_ _ | refine blk_drew ?_ | refine blk_alloc ?_ _)); exact BK350.out), (by (with_reducible repeat (first | refine blk_drewN ?_ _ | refine blk_drew ?_ | refine blk_alloc ?_ _)); exact BK351.out), GW350.out, GE350.out, NB349_350.out, NB350_349.out, NB351_350.out, NB350_351.out, GW351.out, GE351.out, NB349_351.out, NB351_349.out, (by repeat (first | (with_reducible first | exact HB.out | apply below_alloc | apply pw_below_drewN | apply below_drew1 | refine below_set ?_ GE349.out | refine below_set ?_ GE350.out | refine below_set ?_ GE351.out) | exact HB.out))⟩)
          · skip
            refine box_step ?hg (N := 5) ?hd (cs := #[.int .i64 0, .int .i64 0]) (t := 41) ?hr ?_; (case hd => rfl); (case hg => rfl); (case hr => first | (go_simp; done) | (go_simp; rfl))
            intro gb351 hg w48 hbox hb
            have n0_ := Aside0.mk (blk_below (g := gb349) (o := .cells #[.string a0_0, .int .i64 a0_1, .int .i64 a0_2, .int .i64 a0_3, .int .u8 a0_4, .int .i64 a0_5, .int .i64 a0_6, .int .u8 a0_7] 54 (0, 0)) (by (with_reducible repeat (first | refine blk_drewN ?_ _ | refine blk_drew ?_ | refine blk_alloc ?_ _)); exact BK349.out) hb)
            have n1_ := Aside0.mk (below_step (by repeat (first | (with_reducible first | exact HB.out | apply below_alloc | apply pw_below_drewN | apply below_drew1 | refine below_set ?_ GE349.out) | exact HB.out)) hb)
            have n2_ := Aside0.mk (hbox)
            have n3_ := Aside0.mk ((by rw [hg]; exact (below_size (by repeat (first | (with_reducible first | exact HB.out | apply below_alloc | apply pw_below_drewN | apply below_drew1 | refine below_set ?_ GE349.out) | exact HB.out))) : w.heap.size ≤ gb351))
            have n4_ := Aside0.mk ((by rw [hg]; exact (below_size (by repeat (first | (with_reducible first | exact HB.out | apply below_alloc | apply pw_below_drewN | apply below_drew1 | refine below_set ?_ GE349.out) | exact HB.out))) : w.heap.size ≤ gb351))
            have n5_ := Aside0.mk ((by rw [hg]; exact Nat.ne_of_lt (blk_lt (g := gb349) (o := .cells #[.string a0_0, .int .i64 a0_1, .int .i64 a0_2, .int .i64 a0_3, .int .u8 a0_4, .int .i64 a0_5, .int .i64 a0_6, .int .u8 a0_7] 54 (0, 0)) (by (with_reducible repeat (first | refine blk_drewN ?_ _ | refine blk_drew ?_ | refine blk_alloc ?_ _)); exact BK349.out)) : gb349 ≠ gb351))
            have n6_ := Aside0.mk ((by rw [hg]; exact Nat.ne_of_gt (blk_lt (g := gb349) (o := .cells #[.string a0_0, .int .i64 a0_1, .int .i64 a0_2, .int .i64 a0_3, .int .u8 a0_4, .int .i64 a0_5, .int .i64 a0_6, .int .u8 a0_7] 54 (0, 0)) (by (with_reducible repeat (first | refine blk_drewN ?_ _ | refine blk_drew ?_ | refine blk_alloc ?_ _)); exact BK349.out)) : gb351 ≠ gb349))
            clear BK349
            clear HB
            have BK349 := n0_
            have HB := n1_
            have BK351 := n2_
            have GW351 := n3_
            have GE351 := n4_
            have NB349_351 := n5_
            have NB351_349 := n6_
            clear n0_ n1_ n2_ n3_ n4_ n5_ n6_
            clear hb hbox hg
            refine hK.out _ _ ⟨(blk_cell BK349.out 0).trans rfl, (blk_cell BK349.out 1).trans rfl, (blk_cell BK349.out 2).trans rfl, (blk_cell BK349.out 3).trans rfl, (blk_cell BK349.out 4).trans rfl, (blk_cell BK349.out 5).trans rfl, (blk_cell BK349.out 6).trans rfl, (blk_cell BK349.out 7).trans rfl⟩ (fun hHeld => ?_)
            clear hK K
            refine norm_ (a' := ?_) ?_ ?_
            rotate_left
            · show Act.put _ (some 5) _ = _
              simp only [Act.put, List.setIfInBounds_toArray, List.set_cons_zero, List.set_cons_succ, i64_w, i32_w]
              rfl
            refine one_ (i := 8) (N := some 3) #[true, true, true, true, true, true, true, true, true, true, false, false, false, false] rfl rfl (one_of HT_.out (by kernel_rfl)) (by decide) (fun K hK => ?_)
            refine box_step ?hg (N := 3) ?hd (cs := #[.string (⟨#[]⟩ : ByteArray), .int .i64 0, .int .i64 0, .int .i64 0]) (t := 29) ?hr ?_; (case hd => rfl); (case hg => rfl); (case hr => first | (go_simp; done) | (go_simp; rfl))
            intro gb350 hg w49 hbox hb
            have n0_ := Aside0.mk (blk_below (g := gb349) (o := .cells #[.string a0_0, .int .i64 a0_1, .int .i64 a0_2, .int .i64 a0_3, .int .u8 a0_4, .int .i64 a0_5, .int .i64 a0_6, .int .u8 a0_7] 54 (0, 0)) (by (with_reducible repeat (first | refine blk_drewN ?_ _ | refine blk_drew ?_ | refine blk_alloc ?_ _)); exact BK349.out) hb)
            have n1_ := Aside0.mk (blk_below (g := gb351) (o := .cells #[.int .i64 0, .int .i64 0] 41 (0, 0)) (by (with_reducible repeat (first | refine blk_drewN ?_ _ | refine blk_drew ?_ | refine blk_alloc ?_ _)); exact BK351.out) hb)
            have n2_ := Aside0.mk (below_step (by repeat (first | (with_reducible first | exact HB.out | apply below_alloc | apply pw_below_drewN | apply below_drew1 | refine below_set ?_ GE349.out | refine below_set ?_ GE351.out) | exact HB.out)) hb)
            have n3_ := Aside0.mk (hbox)
            have n4_ := Aside0.mk ((by rw [hg]; exact (below_size (by repeat (first | (with_reducible first | exact HB.out | apply below_alloc | apply pw_below_drewN | apply below_drew1 | refine below_set ?_ GE349.out | refine below_set ?_ GE351.out) | exact HB.out))) : w.heap.size ≤ gb350))
            have n5_ := Aside0.mk ((by rw [hg]; exact (below_size (by repeat (first | (with_reducible first | exact HB.out | apply below_alloc | apply pw_below_drewN | apply below_drew1 | refine below_set ?_ GE349.out | refine below_set ?_ GE351.out) | exact HB.out))) : w.heap.size ≤ gb350))
            have n6_ := Aside0.mk ((by rw [hg]; exact Nat.ne_of_lt (blk_lt (g := gb349) (o := .cells #[.string a0_0, .int .i64 a0_1, .int .i64 a0_2, .int .i64 a0_3, .int .u8 a0_4, .int .i64 a0_5, .int .i64 a0_6, .int .u8 a0_7] 54 (0, 0)) (by (with_reducible repeat (first | refine blk_drewN ?_ _ | refine blk_drew ?_ | refine blk_alloc ?_ _)); exact BK349.out)) : gb349 ≠ gb350))
            have n7_ := Aside0.mk ((by rw [hg]; exact Nat.ne_of_gt (blk_lt (g := gb349) (o := .cells #[.string a0_0, .int .i64 a0_1, .int .i64 a0_2, .int .i64 a0_3, .int .u8 a0_4, .int .i64 a0_5, .int .i64 a0_6, .int .u8 a0_7] 54 (0, 0)) (by (with_reducible repeat (first | refine blk_drewN ?_ _ | refine blk_drew ?_ | refine blk_alloc ?_ _)); exact BK349.out)) : gb350 ≠ gb349))
            have n8_ := Aside0.mk ((by rw [hg]; exact Nat.ne_of_lt (blk_lt (g := gb351) (o := .cells #[.int .i64 0, .int .i64 0] 41 (0, 0)) (by (with_reducible repeat (first | refine blk_drewN ?_ _ | refine blk_drew ?_ | refine blk_alloc ?_ _)); exact BK351.out)) : gb351 ≠ gb350))
            have n9_ := Aside0.mk ((by rw [hg]; exact Nat.ne_of_gt (blk_lt (g := gb351) (o := .cells #[.int .i64 0, .int .i64 0] 41 (0, 0)) (by (with_reducible repeat (first | refine blk_drewN ?_ _ | refine blk_drew ?_ | refine blk_alloc ?_ _)); exact BK351.out)) : gb350 ≠ gb351))
            clear BK349
            clear BK351
            clear HB
            have BK349 := n0_
            have BK351 := n1_
            have HB := n2_
            have BK350 := n3_
            have GW350 := n4_
            have GE350 := n5_
            have NB349_350 := n6_
            have NB350_349 := n7_
            have NB351_350 := n8_
            have NB350_351 := n9_
            clear n0_ n1_ n2_ n3_ n4_ n5_ n6_ n7_ n8_ n9_
            clear hb hbox hg
            refine hK.out _ _ ⟨(blk_cell BK349.out 0).trans rfl, (blk_cell BK349.out 1).trans rfl, (blk_cell BK349.out 2).trans rfl, (blk_cell BK349.out 3).trans rfl, (blk_cell BK349.out 4).trans rfl, (blk_cell BK349.out 5).trans rfl, (blk_cell BK349.out 6).trans rfl, (blk_cell BK349.out 7).trans rfl⟩ (fun hHeld => ?_)
            clear hK K
            refine norm_ (a' := ?_) ?_ ?_
            rotate_left
            · show Act.put _ (some 3) _ = _
              simp only [Act.put, List.setIfInBounds_toArray, List.set_cons_zero, List.set_cons_succ, i64_w, i32_w]
              rfl
            exact norm_ (by simp only [putAll, Act.put, List.setIfInBounds_toArray, List.set_cons_zero, List.set_cons_succ]) (hCont (gb350, gb351) _ ⟨hHeld, (by (with_reducible repeat (first | refine blk_drewN ?_ _ | refine blk_drew ?_ | refine blk_alloc ?_ _)); exact BK349.out), (by (with_reducible repeat (first | refine blk_drewN ?_ _ | refine blk_drew ?_ | refine blk_alloc ?_ _)); exact BK350.out), (by (with_reducible repeat (first | refine blk_drewN ?_ _ | refine blk_drew ?_ | refine blk_alloc ?_ _)); exact BK351.out), GW350.out, GE350.out, NB349_350.out, NB350_349.out, NB351_350.out, NB350_351.out, GW351.out, GE351.out, NB349_351.out, NB351_349.out, (by repeat (first | (with_reducible first | exact HB.out | apply below_alloc | apply pw_below_drewN | apply below_drew1 | refine below_set ?_ GE349.out | refine below_set ?_ GE351.out | refine below_set ?_ GE350.out) | exact HB.out))⟩)
        rintro ⟨gb350, gb351⟩ w50 ⟨hS_, h0_, h1_, h2_, h3_, h4_, h5_, h6_, h7_, h8_, h9_, h10_, h11_, h12_, h13_⟩
        have n0_ : Aside0 (w50.heap[gb349]? = some (.cells #[.string a0_0, .int .i64 a0_1, .int .i64 a0_2, .int .i64 a0_3, .int .u8 a0_4, .int .i64 a0_5, .int .i64 a0_6, .int .u8 a0_7] 54 (0, 0))) := ⟨h0_⟩
        have n1_ : Aside0 (w50.heap[gb350]? = some (.cells #[.string (⟨#[]⟩ : ByteArray), .int .i64 0, .int .i64 0, .int .i64 0] 29 (0, 0))) := ⟨h1_⟩
        have n2_ : Aside0 (w50.heap[gb351]? = some (.cells #[.int .i64 0, .int .i64 0] 41 (0, 0))) := ⟨h2_⟩
        have n3_ : Aside0 (w.heap.size ≤ gb350) := ⟨h3_⟩
        have n4_ : Aside0 (w.heap.size ≤ gb350) := ⟨h4_⟩
        have n5_ : Aside0 (gb349 ≠ gb350) := ⟨h5_⟩
        have n6_ : Aside0 (gb350 ≠ gb349) := ⟨h6_⟩
        have n7_ : Aside0 (gb351 ≠ gb350) := ⟨h7_⟩
        have n8_ : Aside0 (gb350 ≠ gb351) := ⟨h8_⟩
        have n9_ : Aside0 (w.heap.size ≤ gb351) := ⟨h9_⟩
        have n10_ : Aside0 (w.heap.size ≤ gb351) := ⟨h10_⟩
        have n11_ : Aside0 (gb349 ≠ gb351) := ⟨h11_⟩
        have n12_ : Aside0 (gb351 ≠ gb349) := ⟨h12_⟩
        have n13_ : Aside0 (Below w.heap.size w w50) := ⟨h13_⟩
        clear BK349
        clear HB
        clear h0_ h1_ h2_ h3_ h4_ h5_ h6_ h7_ h8_ h9_ h10_ h11_ h12_ h13_
        have BK349 := n0_
        have BK350 := n1_
        have BK351 := n2_
        have GW350 := n3_
        have GE350 := n4_
        have NB349_350 := n5_
        have NB350_349 := n6_
        have NB351_350 := n7_
        have NB350_351 := n8_
        have GW351 := n9_
        have GE351 := n10_
        have NB349_351 := n11_
        have NB351_349 := n12_
        have HB := n13_
        clear n0_ n1_ n2_ n3_ n4_ n5_ n6_ n7_ n8_ n9_ n10_ n11_ n12_ n13_
        have hHeld : w50.cell? ⟨gb349, 0, none⟩ = some (.string a0_0) ∧ w50.cell? ⟨gb349, 1, none⟩ = some (.int .i64 a0_1) ∧ w50.cell? ⟨gb349, 2, none⟩ = some (.int .i64 a0_2) ∧ w50.cell? ⟨gb349, 3, none⟩ = some (.int .i64 a0_3) ∧ w50.cell? ⟨gb349, 4, none⟩ = some (.int .u8 a0_4) ∧ w50.cell? ⟨gb349, 5, none⟩ = some (.int .i64 a0_5) ∧ w50.cell? ⟨gb349, 6, none⟩ = some (.int .i64 a0_6) ∧ w50.cell? ⟨gb349, 7, none⟩ = some (.int .u8 a0_7) := hS_
        refine norm_ (a' := ?_) ?_ ?_
        rotate_left
        · simp only [putAll, Act.put, List.setIfInBounds_toArray, List.set_cons_zero, List.set_cons_succ]
          rfl
        refine one_ (i := 10) (N := none) #[true, true, true, true, true, true, true, true, true, true, true, false, false, false] rfl rfl (one_of HT_.out (by kernel_rfl)) (by decide) (fun K hK => ?_)
        have hs51 : w50.cell? ⟨gb350, 0, none⟩ = some (.string (⟨#[]⟩ : ByteArray)) := (blk_cell BK350.out 0).trans rfl
        have hfs51 := blk_frozen BK350.out 0
        have hns51_0 := NB349_350.out
        have hns51_2 := NB351_350.out
        have hms51_0 := NB350_349.out
        have hms51_2 := NB350_351.out
        have hs52 : w50.cell? ⟨gb350, 1, none⟩ = some (.int .i64 0) := (blk_cell BK350.out 1).trans rfl
        have hfs52 := blk_frozen BK350.out 1
        have hns52_0 := NB349_350.out
        have hns52_2 := NB351_350.out
        have hms52_0 := NB350_349.out
        have hms52_2 := NB350_351.out
        have hs53 : w50.cell? ⟨gb350, 2, none⟩ = some (.int .i64 0) := (blk_cell BK350.out 2).trans rfl
        have hfs53 := blk_frozen BK350.out 2
        have hns53_0 := NB349_350.out
        have hns53_2 := NB351_350.out
        have hms53_0 := NB350_349.out
        have hms53_2 := NB350_351.out
        have hs54 : w50.cell? ⟨gb350, 3, none⟩ = some (.int .i64 0) := (blk_cell BK350.out 3).trans rfl
        have hfs54 := blk_frozen BK350.out 3
        have hns54_0 := NB349_350.out
        have hns54_2 := NB351_350.out
        have hms54_0 := NB350_349.out
        have hms54_2 := NB350_351.out
        refine skip_ (w1 := ?_) (by rfl) rfl ?_ ?_
        rotate_left
        · go_simp
          rfl
        refine hK.out _ _ ⟨((cell_far (p := ⟨gb350, _, none⟩) NB349_350.out _).trans (((cell_far (p := ⟨gb350, _, none⟩) NB349_350.out _).trans (((cell_far (p := ⟨gb350, _, none⟩) NB349_350.out _).trans (((cell_far (p := ⟨gb350, _, none⟩) NB349_350.out _).trans (hHeld.1)))))))), ((cell_far (p := ⟨gb350, _, none⟩) NB349_350.out _).trans (((cell_far (p := ⟨gb350, _, none⟩) NB349_350.out _).trans (((cell_far (p := ⟨gb350, _, none⟩) NB349_350.out _).trans (((cell_far (p := ⟨gb350, _, none⟩) NB349_350.out _).trans (hHeld.2.1)))))))), ((cell_far (p := ⟨gb350, _, none⟩) NB349_350.out _).trans (((cell_far (p := ⟨gb350, _, none⟩) NB349_350.out _).trans (((cell_far (p := ⟨gb350, _, none⟩) NB349_350.out _).trans (((cell_far (p := ⟨gb350, _, none⟩) NB349_350.out _).trans (hHeld.2.2.1)))))))), ((cell_far (p := ⟨gb350, _, none⟩) NB349_350.out _).trans (((cell_far (p := ⟨gb350, _, none⟩) NB349_350.out _).trans (((cell_far (p := ⟨gb350, _, none⟩) NB349_350.out _).trans (((cell_far (p := ⟨gb350, _, none⟩) NB349_350.out _).trans (hHeld.2.2.2.1)))))))), ((cell_far (p := ⟨gb350, _, none⟩) NB349_350.out _).trans (((cell_far (p := ⟨gb350, _, none⟩) NB349_350.out _).trans (((cell_far (p := ⟨gb350, _, none⟩) NB349_350.out _).trans (((cell_far (p := ⟨gb350, _, none⟩) NB349_350.out _).trans (hHeld.2.2.2.2.1)))))))), ((cell_far (p := ⟨gb350, _, none⟩) NB349_350.out _).trans (((cell_far (p := ⟨gb350, _, none⟩) NB349_350.out _).trans (((cell_far (p := ⟨gb350, _, none⟩) NB349_350.out _).trans (((cell_far (p := ⟨gb350, _, none⟩) NB349_350.out _).trans (hHeld.2.2.2.2.2.1)))))))), ((cell_far (p := ⟨gb350, _, none⟩) NB349_350.out _).trans (((cell_far (p := ⟨gb350, _, none⟩) NB349_350.out _).trans (((cell_far (p := ⟨gb350, _, none⟩) NB349_350.out _).trans (((cell_far (p := ⟨gb350, _, none⟩) NB349_350.out _).trans (hHeld.2.2.2.2.2.2.1)))))))), ((cell_far (p := ⟨gb350, _, none⟩) NB349_350.out _).trans (((cell_far (p := ⟨gb350, _, none⟩) NB349_350.out _).trans (((cell_far (p := ⟨gb350, _, none⟩) NB349_350.out _).trans (((cell_far (p := ⟨gb350, _, none⟩) NB349_350.out _).trans (hHeld.2.2.2.2.2.2.2))))))))⟩ (fun hHeld => ?_)
        clear hK K
        refine pure_ (i := 11) (N := some 4) (v := ?_) (a' := ?_) #[true, true, true, true, true, true, true, true, true, true, true, true, false, false] rfl rfl (any_of HT_.out (by kernel_rfl)) (fun _ _ _ h => h) (Or.inl ⟨by rfl, ?_⟩) ?_ ?_
        rotate_left
        · intro w'
          go_simp
          with_reducible rfl
        rotate_left
        · simp only [Act.put, List.setIfInBounds_toArray, List.set_cons_zero, List.set_cons_succ, i64_w, i32_w]
          rfl
        refine one_ (i := 12) (N := none) #[true, true, true, true, true, true, true, true, true, true, true, true, true, false] rfl rfl (one_of HT_.out (by kernel_rfl)) (by decide) (fun K hK => ?_)
        have hs55 : w50.cell? ⟨gb351, 0, none⟩ = some (.int .i64 0) := (blk_cell BK351.out 0).trans rfl
        have hfs55 := blk_frozen BK351.out 0
        have hns55_0 := NB349_351.out
        have hns55_1 := NB350_351.out
        have hms55_0 := NB351_349.out
        have hms55_1 := NB351_350.out
        have hs56 : w50.cell? ⟨gb351, 1, none⟩ = some (.int .i64 0) := (blk_cell BK351.out 1).trans rfl
        have hfs56 := blk_frozen BK351.out 1
        have hns56_0 := NB349_351.out
        have hns56_1 := NB350_351.out
        have hms56_0 := NB351_349.out
        have hms56_1 := NB351_350.out
        refine skip_ (w1 := ?_) (by rfl) rfl ?_ ?_
        rotate_left
        · go_simp
          rfl
        refine hK.out _ _ ⟨((cell_far (p := ⟨gb351, _, none⟩) NB349_351.out _).trans (((cell_far (p := ⟨gb351, _, none⟩) NB349_351.out _).trans (hHeld.1)))), ((cell_far (p := ⟨gb351, _, none⟩) NB349_351.out _).trans (((cell_far (p := ⟨gb351, _, none⟩) NB349_351.out _).trans (hHeld.2.1)))), ((cell_far (p := ⟨gb351, _, none⟩) NB349_351.out _).trans (((cell_far (p := ⟨gb351, _, none⟩) NB349_351.out _).trans (hHeld.2.2.1)))), ((cell_far (p := ⟨gb351, _, none⟩) NB349_351.out _).trans (((cell_far (p := ⟨gb351, _, none⟩) NB349_351.out _).trans (hHeld.2.2.2.1)))), ((cell_far (p := ⟨gb351, _, none⟩) NB349_351.out _).trans (((cell_far (p := ⟨gb351, _, none⟩) NB349_351.out _).trans (hHeld.2.2.2.2.1)))), ((cell_far (p := ⟨gb351, _, none⟩) NB349_351.out _).trans (((cell_far (p := ⟨gb351, _, none⟩) NB349_351.out _).trans (hHeld.2.2.2.2.2.1)))), ((cell_far (p := ⟨gb351, _, none⟩) NB349_351.out _).trans (((cell_far (p := ⟨gb351, _, none⟩) NB349_351.out _).trans (hHeld.2.2.2.2.2.2.1)))), ((cell_far (p := ⟨gb351, _, none⟩) NB349_351.out _).trans (((cell_far (p := ⟨gb351, _, none⟩) NB349_351.out _).trans (hHeld.2.2.2.2.2.2.2))))⟩ (fun hHeld => ?_)
        clear hK K
        refine pure_ (i := 13) (N := some 6) (v := ?_) (a' := ?_) #[true, true, true, true, true, true, true, true, true, true, true, true, true, true] rfl rfl (any_of HT_.out (by kernel_rfl)) (fun _ _ _ h => h) (Or.inl ⟨by rfl, ?_⟩) ?_ ?_
        rotate_left
        · intro w'
          go_simp
          with_reducible rfl
        rotate_left
        · simp only [Act.put, List.setIfInBounds_toArray, List.set_cons_zero, List.set_cons_succ, i64_w, i32_w]
          rfl
        refine done_ (done_of HT_.out (by kernel_rfl)) ?_
        have hnb57 := NB350_349.out
        have hnc57 := NB349_350.out
        have hnb58 := NB350_351.out
        have hnc58 := NB351_350.out
        have hcz59_0 : w50.cell? ⟨gb350, 0, none⟩ = some (.string (⟨#[]⟩ : ByteArray)) := (blk_cell BK350.out 0).trans rfl
        have hcz59_1 : w50.cell? ⟨gb350, 1, none⟩ = some (.int .i64 0) := (blk_cell BK350.out 1).trans rfl
        have hcz59_2 : w50.cell? ⟨gb350, 2, none⟩ = some (.int .i64 0) := (blk_cell BK350.out 2).trans rfl
        have hcz59_3 : w50.cell? ⟨gb350, 3, none⟩ = some (.int .i64 0) := (blk_cell BK350.out 3).trans rfl
        have hfz59_0 := blk_frozen BK350.out 0
        have hfz59_1 := blk_frozen BK350.out 1
        have hfz59_2 := blk_frozen BK350.out 2
        have hfz59_3 := blk_frozen BK350.out 3
        try go_wp2_with (first | ((with_reducible refine gate_callee (f := 37) rfl ?_); refine goesL_ (some 22) rfl rfl Try.func37 (by kernel_rfl) rfl #[.agg #[.string a0_0, .int .i64 a0_1, .int .i64 a0_2, .int .i64 a0_3]] rfl (by (try simp only [List.map_toArray, List.map_cons, List.map_nil]); first | done | rfl | (simp only [List.length_drop, List.length_take]; rfl)) ?_; (with_reducible refine (value_Of.calls a0_0 a0_1 a0_2 a0_3 t353 _ A19.out).mono ?_); rintro e w60 ⟨rfl, hb⟩; refine ⟨_, rfl, ?_⟩; have n0_ := Aside0.mk (blk_below (g := gb349) (o := .cells #[.string a0_0, .int .i64 a0_1, .int .i64 a0_2, .int .i64 a0_3, .int .u8 a0_4, .int .i64 a0_5, .int .i64 a0_6, .int .u8 a0_7] 54 (0, 0)) (by (with_reducible repeat (first | refine blk_drewN ?_ _ | refine blk_drew ?_ | refine blk_alloc ?_ _)); refine blk_far ?_ NB349_351.out _; (with_reducible repeat (first | refine blk_drewN ?_ _ | refine blk_drew ?_ | refine blk_alloc ?_ _)); refine blk_far ?_ NB349_351.out _; (with_reducible repeat (first | refine blk_drewN ?_ _ | refine blk_drew ?_ | refine blk_alloc ?_ _)); refine blk_far ?_ NB349_350.out _; (with_reducible repeat (first | refine blk_drewN ?_ _ | refine blk_drew ?_ | refine blk_alloc ?_ _)); refine blk_far ?_ NB349_350.out _; (with_reducible repeat (first | refine blk_drewN ?_ _ | refine blk_drew ?_ | refine blk_alloc ?_ _)); refine blk_far ?_ NB349_350.out _; (with_reducible repeat (first | refine blk_drewN ?_ _ | refine blk_drew ?_ | refine blk_alloc ?_ _)); refine blk_far ?_ NB349_350.out _; (with_reducible repeat (first | refine blk_drewN ?_ _ | refine blk_drew ?_ | refine blk_alloc ?_ _)); exact BK349.out) hb); have n1_ := Aside0.mk (blk_below (g := gb350) (o := .cells #[.string a0_0, .int .i64 a0_1, .int .i64 a0_2, .int .i64 a0_3] 29 (0, 0)) (by (with_reducible repeat (first | refine blk_drewN ?_ _ | refine blk_drew ?_ | refine blk_alloc ?_ _)); refine blk_far ?_ NB350_351.out _; (with_reducible repeat (first | refine blk_drewN ?_ _ | refine blk_drew ?_ | refine blk_alloc ?_ _)); refine blk_far ?_ NB350_351.out _; (with_reducible repeat (first | refine blk_drewN ?_ _ | refine blk_drew ?_ | refine blk_alloc ?_ _)); refine blk_put (cs := #[.string a0_0, .int .i64 a0_1, .int .i64 a0_2, .int .i64 0]) ?_ 3 _ rfl; (with_reducible repeat (first | refine blk_drewN ?_ _ | refine blk_drew ?_ | refine blk_alloc ?_ _)); refine blk_put (cs := #[.string a0_0, .int .i64 a0_1, .int .i64 0, .int .i64 0]) ?_ 2 _ rfl; (with_reducible repeat (first | refine blk_drewN ?_ _ | refine blk_drew ?_ | refine blk_alloc ?_ _)); refine blk_put (cs := #[.string a0_0, .int .i64 0, .int .i64 0, .int .i64 0]) ?_ 1 _ rfl; (with_reducible repeat (first | refine blk_drewN ?_ _ | refine blk_drew ?_ | refine blk_alloc ?_ _)); refine blk_put (cs := #[.string (⟨#[]⟩ : ByteArray), .int .i64 0, .int .i64 0, .int .i64 0]) ?_ 0 _ rfl; (with_reducible repeat (first | refine blk_drewN ?_ _ | refine blk_drew ?_ | refine blk_alloc ?_ _)); exact BK350.out) hb); have n2_ := Aside0.mk (blk_below (g := gb351) (o := .cells #[.int .i64 a0_5, .int .i64 a0_6] 41 (0, 0)) (by (with_reducible repeat (first | refine blk_drewN ?_ _ | refine blk_drew ?_ | refine blk_alloc ?_ _)); refine blk_put (cs := #[.int .i64 a0_5, .int .i64 0]) ?_ 1 _ rfl; (with_reducible repeat (first | refine blk_drewN ?_ _ | refine blk_drew ?_ | refine blk_alloc ?_ _)); refine blk_put (cs := #[.int .i64 0, .int .i64 0]) ?_ 0 _ rfl; (with_reducible repeat (first | refine blk_drewN ?_ _ | refine blk_drew ?_ | refine blk_alloc ?_ _)); refine blk_far ?_ NB351_350.out _; (with_reducible repeat (first | refine blk_drewN ?_ _ | refine blk_drew ?_ | refine blk_alloc ?_ _)); refine blk_far ?_ NB351_350.out _; (with_reducible repeat (first | refine blk_drewN ?_ _ | refine blk_drew ?_ | refine blk_alloc ?_ _)); refine blk_far ?_ NB351_350.out _; (with_reducible repeat (first | refine blk_drewN ?_ _ | refine blk_drew ?_ | refine blk_alloc ?_ _)); refine blk_far ?_ NB351_350.out _; (with_reducible repeat (first | refine blk_drewN ?_ _ | refine blk_drew ?_ | refine blk_alloc ?_ _)); exact BK351.out) hb); have n3_ := Aside0.mk (below_step (by repeat (first | (with_reducible first | exact HB.out | apply below_alloc | apply pw_below_drewN | apply below_drew1 | refine below_set ?_ GE349.out | refine below_set ?_ GE350.out | refine below_set ?_ GE351.out) | exact HB.out)) hb); clear BK349; clear BK350; clear BK351; clear HB; have BK349 := n0_; have BK350 := n1_; have BK351 := n2_; have HB := n3_; clear n0_ n1_ n2_ n3_; (try clear hb); (try clear hb2); (try clear hk); (try clear hi)))
        have n0_ := Aside0.mk (blk_drew BK349.out)
        have n1_ := Aside0.mk (blk_drew BK350.out)
        have n2_ := Aside0.mk (blk_drew BK351.out)
        have n3_ := Aside0.mk (below_drew1 HB.out)
        clear BK349
        clear BK350
        clear BK351
        clear HB
        have BK349 := n0_
        have BK350 := n1_
        have BK351 := n2_
        have HB := n3_
        clear n0_ n1_ n2_ n3_
        refine start_ (n := 21) (S := fun w' => w'.cell? ⟨gb350, 0, none⟩ = some (.string a0_0) ∧ w'.cell? ⟨gb350, 1, none⟩ = some (.int .i64 a0_1) ∧ w'.cell? ⟨gb350, 2, none⟩ = some (.int .i64 a0_2) ∧ w'.cell? ⟨gb350, 3, none⟩ = some (.int .i64 a0_3) ∧ w'.cell? ⟨gb351, 0, none⟩ = some (.int .i64 a0_5) ∧ w'.cell? ⟨gb351, 1, none⟩ = some (.int .i64 a0_6)) (ds := []) #[false, false, false, false, false, false, false, false, false, false, false, false, false, false, false, false, false, false, false, false, false] (by kernel_rfl) rfl rfl ⟨(blk_cell BK350.out 0).trans rfl, (blk_cell BK350.out 1).trans rfl, (blk_cell BK350.out 2).trans rfl, (blk_cell BK350.out 3).trans rfl, (blk_cell BK351.out 0).trans rfl, (blk_cell BK351.out 1).trans rfl⟩ (fun hHeld => ?_); refine with_tabW riverbanklaw14_ValueOf.tab5 riverbanklaw14_ValueOf.bits5 (fun HT_ HW_ => ?_)
        generalize w60.drew = w61 at BK349 BK350 BK351 HB hHeld ⊢
        refine pure_ (i := 0) (N := some 23) (v := ?_) (a' := ?_) #[true, false, false, false, false, false, false, false, false, false, false, false, false, false, false, false, false, false, false, false, false] rfl rfl (any_of HT_.out (by kernel_rfl)) (fun _ _ _ h => h) (Or.inl ⟨by rfl, ?_⟩) ?_ ?_
        rotate_left
        · intro w'
          go_simp
          with_reducible rfl
        rotate_left
        · simp only [Act.put, List.setIfInBounds_toArray, List.set_cons_zero, List.set_cons_succ, i64_w, i32_w]
          rfl
        refine take_ (i := 1) (N := some 24) (v := ?_) (a' := ?_) #[true, true, false, false, false, false, false, false, false, false, false, false, false, false, false, false, false, false, false, false, false] rfl rfl (take_ofW HT_.out HW_.out (by kernel_rfl)) (fun _ _ _ h => h) (Or.inl ⟨by rfl, ?_⟩) hHeld ?_ ?_
        rotate_left
        · rintro w' ⟨s0, s1, s2, s3, s4, s5⟩
          go_simp
          with_reducible rfl
        rotate_left
        · simp only [Act.put, List.setIfInBounds_toArray, List.set_cons_zero, List.set_cons_succ, i64_w, i32_w]
          rfl
        refine one_ (i := 2) (N := some 25) #[true, true, true, false, false, false, false, false, false, false, false, false, false, false, false, false, false, false, false, false, false] rfl rfl (one_of HT_.out (by kernel_rfl)) (by decide) (fun K hK => ?_)
        refine goes_ Try.func38 (by kernel_rfl) rfl #[.agg #[.string a0_0, .int .i64 a0_1, .int .i64 a0_2, .int .i64 a0_3]] (by rfl) rfl rfl (by (try simp only [List.map_toArray, List.map_cons, List.map_nil]); first | done | rfl | (simp only [List.length_drop, List.length_take]; rfl)) ?_
        with_reducible refine (riverbankref14_Of.calls k a0_0 a0_1 a0_2 a0_3 t354 _ A20.out).mono ?_
        rintro e w62 ⟨rfl, hb⟩
        refine ⟨_, rfl, ?_⟩
        have n0_ := Aside0.mk (blk_below (g := gb349) (o := .cells #[.string a0_0, .int .i64 a0_1, .int .i64 a0_2, .int .i64 a0_3, .int .u8 a0_4, .int .i64 a0_5, .int .i64 a0_6, .int .u8 a0_7] 54 (0, 0)) (by (with_reducible repeat (first | refine blk_drewN ?_ _ | refine blk_drew ?_ | refine blk_alloc ?_ _)); exact BK349.out) hb)
        have n1_ := Aside0.mk (blk_below (g := gb350) (o := .cells #[.string a0_0, .int .i64 a0_1, .int .i64 a0_2, .int .i64 a0_3] 29 (0, 0)) (by (with_reducible repeat (first | refine blk_drewN ?_ _ | refine blk_drew ?_ | refine blk_alloc ?_ _)); exact BK350.out) hb)
        have n2_ := Aside0.mk (blk_below (g := gb351) (o := .cells #[.int .i64 a0_5, .int .i64 a0_6] 41 (0, 0)) (by (with_reducible repeat (first | refine blk_drewN ?_ _ | refine blk_drew ?_ | refine blk_alloc ?_ _)); exact BK351.out) hb)
        have n3_ := Aside0.mk (below_step (by repeat (first | (with_reducible first | exact HB.out | apply below_alloc | apply pw_below_drewN | apply below_drew1 | refine below_set ?_ GE349.out | refine below_set ?_ GE350.out | refine below_set ?_ GE351.out) | exact HB.out)) hb)
        clear BK349
        clear BK350
        clear BK351
        clear HB
        have BK349 := n0_
        have BK350 := n1_
        have BK351 := n2_
        have HB := n3_
        clear n0_ n1_ n2_ n3_
        (try clear hb)
        (try clear hb2)
        (try clear hk)
        (try clear hi)
        refine hK.out _ _ ⟨(blk_cell BK350.out 0).trans rfl, (blk_cell BK350.out 1).trans rfl, (blk_cell BK350.out 2).trans rfl, (blk_cell BK350.out 3).trans rfl, (blk_cell BK351.out 0).trans rfl, (blk_cell BK351.out 1).trans rfl⟩ (fun hHeld => ?_)
        clear hK K
        refine norm_ (a' := ?_) ?_ ?_
        rotate_left
        · show Act.put _ (some 25) _ = _
          simp only [Act.put, List.setIfInBounds_toArray, List.set_cons_zero, List.set_cons_succ, i64_w, i32_w]
          rfl
        refine pure_ (i := 3) (N := some 26) (v := ?_) (a' := ?_) #[true, true, true, true, false, false, false, false, false, false, false, false, false, false, false, false, false, false, false, false, false] rfl rfl (any_of HT_.out (by kernel_rfl)) (fun _ _ _ h => h) (Or.inl ⟨by rfl, ?_⟩) ?_ ?_
        rotate_left
        · intro w'
          go_simp
          with_reducible rfl
        rotate_left
        · simp only [Act.put, List.setIfInBounds_toArray, List.set_cons_zero, List.set_cons_succ, i64_w, i32_w]
          rfl
        refine pure_ (i := 4) (N := some 27) (v := ?_) (a' := ?_) #[true, true, true, true, true, false, false, false, false, false, false, false, false, false, false, false, false, false, false, false, false] rfl rfl (any_of HT_.out (by kernel_rfl)) (fun _ _ _ h => h) (Or.inl ⟨by rfl, ?_⟩) ?_ ?_
        rotate_left
        · intro w'
          go_simp
          with_reducible rfl
        rotate_left
        · simp only [Act.put, List.setIfInBounds_toArray, List.set_cons_zero, List.set_cons_succ, i64_w, i32_w]
          rfl
        refine pure_ (i := 5) (N := some 28) (v := ?_) (a' := ?_) #[true, true, true, true, true, true, false, false, false, false, false, false, false, false, false, false, false, false, false, false, false] rfl rfl (any_of HT_.out (by kernel_rfl)) (fun _ _ _ h => h) (Or.inl ⟨by rfl, ?_⟩) ?_ ?_
        rotate_left
        · intro w'
          go_simp
          with_reducible rfl
        rotate_left
        · simp only [Act.put, List.setIfInBounds_toArray, List.set_cons_zero, List.set_cons_succ, i64_w, i32_w]
          rfl
        refine pure_ (i := 6) (N := some 29) (v := ?_) (a' := ?_) #[true, true, true, true, true, true, true, false, false, false, false, false, false, false, false, false, false, false, false, false, false] rfl rfl (any_of HT_.out (by kernel_rfl)) (fun _ _ _ h => h) (Or.inl ⟨by rfl, ?_⟩) ?_ ?_
        rotate_left
        · intro w'
          go_simp
          with_reducible rfl
        rotate_left
        · simp only [Act.put, List.setIfInBounds_toArray, List.set_cons_zero, List.set_cons_succ, i64_w, i32_w]
          rfl
        refine pure_ (i := 8) (N := some 31) (v := ?_) (a' := ?_) #[true, true, true, true, true, true, true, false, true, false, false, false, false, false, false, false, false, false, false, false, false] rfl rfl (any_of HT_.out (by kernel_rfl)) (fun _ _ _ h => h) (Or.inl ⟨by rfl, ?_⟩) ?_ ?_
        rotate_left
        · intro w'
          go_simp
          with_reducible rfl
        rotate_left
        · simp only [Act.put, List.setIfInBounds_toArray, List.set_cons_zero, List.set_cons_succ, i64_w, i32_w]
          rfl
        refine pure_ (i := 10) (N := some 33) (v := ?_) (a' := ?_) #[true, true, true, true, true, true, true, false, true, false, true, false, false, false, false, false, false, false, false, false, false] rfl rfl (any_of HT_.out (by kernel_rfl)) (fun _ _ _ h => h) (Or.inl ⟨by rfl, ?_⟩) ?_ ?_
        rotate_left
        · intro w'
          go_simp
          with_reducible rfl
        rotate_left
        · simp only [Act.put, List.setIfInBounds_toArray, List.set_cons_zero, List.set_cons_succ, i64_w, i32_w]
          rfl
        refine pure_ (i := 11) (N := some 34) (v := ?_) (a' := ?_) #[true, true, true, true, true, true, true, false, true, false, true, true, false, false, false, false, false, false, false, false, false] rfl rfl (any_of HT_.out (by kernel_rfl)) (fun _ _ _ h => h) (Or.inl ⟨by rfl, ?_⟩) ?_ ?_
        rotate_left
        · intro w'
          go_simp
          with_reducible rfl
        rotate_left
        · simp only [Act.put, List.setIfInBounds_toArray, List.set_cons_zero, List.set_cons_succ, i64_w, i32_w]
          rfl
        refine pure_ (i := 13) (N := some 36) (v := ?_) (a' := ?_) #[true, true, true, true, true, true, true, false, true, false, true, true, false, true, false, false, false, false, false, false, false] rfl rfl (any_of HT_.out (by kernel_rfl)) (fun _ _ _ h => h) (Or.inl ⟨by rfl, ?_⟩) ?_ ?_
        rotate_left
        · intro w'
          go_simp
          with_reducible rfl
        rotate_left
        · simp only [Act.put, List.setIfInBounds_toArray, List.set_cons_zero, List.set_cons_succ, i64_w, i32_w]
          rfl
        refine take_ (i := 7) (N := some 30) (v := ?_) (a' := ?_) #[true, true, true, true, true, true, true, true, true, false, true, true, false, true, false, false, false, false, false, false, false] rfl rfl (take_ofW HT_.out HW_.out (by kernel_rfl)) (fun _ _ _ h => h) (Or.inl ⟨by rfl, ?_⟩) hHeld ?_ ?_
        rotate_left
        · rintro w' ⟨s0, s1, s2, s3, s4, s5⟩
          go_simp
          with_reducible rfl
        rotate_left
        · simp only [Act.put, List.setIfInBounds_toArray, List.set_cons_zero, List.set_cons_succ, i64_w, i32_w]
          rfl
        refine take_ (i := 12) (N := some 35) (v := ?_) (a' := ?_) #[true, true, true, true, true, true, true, true, true, false, true, true, true, true, false, false, false, false, false, false, false] rfl rfl (take_ofW HT_.out HW_.out (by kernel_rfl)) (fun _ _ _ h => h) (Or.inl ⟨by rfl, ?_⟩) hHeld ?_ ?_
        rotate_left
        · rintro w' ⟨s0, s1, s2, s3, s4, s5⟩
          go_simp
          with_reducible rfl
        rotate_left
        · simp only [Act.put, List.setIfInBounds_toArray, List.set_cons_zero, List.set_cons_succ, i64_w, i32_w]
          rfl
        refine one_ (i := 9) (N := some 32) #[true, true, true, true, true, true, true, true, true, true, true, true, true, true, false, false, false, false, false, false, false] rfl rfl (one_of HT_.out (by kernel_rfl)) (by decide) (fun K hK => ?_)
        refine goes_ Try.func39 (by kernel_rfl) rfl #[.int .i64 t353, .int .u8 a0_4, .agg #[.int .i64 a0_5, .int .i64 a0_6], .int .u8 a0_7] (by rfl) rfl rfl (by (try simp only [List.map_toArray, List.map_cons, List.map_nil]); first | done | rfl | (simp only [List.length_drop, List.length_take]; rfl)) ?_
        with_reducible refine (value_Moved.calls k t353 a0_4 a0_5 a0_6 a0_7 t355 _ A22.out).mono ?_
        rintro e w63 ⟨rfl, hb⟩
        refine ⟨_, rfl, ?_⟩
        have n0_ := Aside0.mk (blk_below (g := gb349) (o := .cells #[.string a0_0, .int .i64 a0_1, .int .i64 a0_2, .int .i64 a0_3, .int .u8 a0_4, .int .i64 a0_5, .int .i64 a0_6, .int .u8 a0_7] 54 (0, 0)) (by (with_reducible repeat (first | refine blk_drewN ?_ _ | refine blk_drew ?_ | refine blk_alloc ?_ _)); exact BK349.out) hb)
        have n1_ := Aside0.mk (blk_below (g := gb350) (o := .cells #[.string a0_0, .int .i64 a0_1, .int .i64 a0_2, .int .i64 a0_3] 29 (0, 0)) (by (with_reducible repeat (first | refine blk_drewN ?_ _ | refine blk_drew ?_ | refine blk_alloc ?_ _)); exact BK350.out) hb)
        have n2_ := Aside0.mk (blk_below (g := gb351) (o := .cells #[.int .i64 a0_5, .int .i64 a0_6] 41 (0, 0)) (by (with_reducible repeat (first | refine blk_drewN ?_ _ | refine blk_drew ?_ | refine blk_alloc ?_ _)); exact BK351.out) hb)
        have n3_ := Aside0.mk (below_step (by repeat (first | (with_reducible first | exact HB.out | apply below_alloc | apply pw_below_drewN | apply below_drew1 | refine below_set ?_ GE349.out | refine below_set ?_ GE350.out | refine below_set ?_ GE351.out) | exact HB.out)) hb)
        clear BK349
        clear BK350
        clear BK351
        clear HB
        have BK349 := n0_
        have BK350 := n1_
        have BK351 := n2_
        have HB := n3_
        clear n0_ n1_ n2_ n3_
        (try clear hb)
        (try clear hb2)
        (try clear hk)
        (try clear hi)
        refine hK.out _ _ ⟨(blk_cell BK350.out 0).trans rfl, (blk_cell BK350.out 1).trans rfl, (blk_cell BK350.out 2).trans rfl, (blk_cell BK350.out 3).trans rfl, (blk_cell BK351.out 0).trans rfl, (blk_cell BK351.out 1).trans rfl⟩ (fun hHeld => ?_)
        clear hK K
        refine norm_ (a' := ?_) ?_ ?_
        rotate_left
        · show Act.put _ (some 32) _ = _
          simp only [Act.put, List.setIfInBounds_toArray, List.set_cons_zero, List.set_cons_succ, i64_w, i32_w]
          rfl
        refine one_ (i := 14) (N := some 37) #[true, true, true, true, true, true, true, true, true, true, true, true, true, true, true, false, false, false, false, false, false] rfl rfl (one_of HT_.out (by kernel_rfl)) (by decide) (fun K hK => ?_)
        refine goes_ Try.func40 (by kernel_rfl) rfl #[.int .i64 t353, .int .u8 a0_4, .agg #[.int .i64 a0_5, .int .i64 a0_6], .int .u8 a0_7] (by rfl) rfl rfl (by (try simp only [List.map_toArray, List.map_cons, List.map_nil]); first | done | rfl | (simp only [List.length_drop, List.length_take]; rfl)) ?_
        with_reducible refine (riverbankref14_Moved.calls k t353 a0_4 a0_5 a0_6 a0_7 t356 _ A23.out).mono ?_
        rintro e w64 ⟨rfl, hb⟩
        refine ⟨_, rfl, ?_⟩
        have n0_ := Aside0.mk (blk_below (g := gb349) (o := .cells #[.string a0_0, .int .i64 a0_1, .int .i64 a0_2, .int .i64 a0_3, .int .u8 a0_4, .int .i64 a0_5, .int .i64 a0_6, .int .u8 a0_7] 54 (0, 0)) (by (with_reducible repeat (first | refine blk_drewN ?_ _ | refine blk_drew ?_ | refine blk_alloc ?_ _)); exact BK349.out) hb)
        have n1_ := Aside0.mk (blk_below (g := gb350) (o := .cells #[.string a0_0, .int .i64 a0_1, .int .i64 a0_2, .int .i64 a0_3] 29 (0, 0)) (by (with_reducible repeat (first | refine blk_drewN ?_ _ | refine blk_drew ?_ | refine blk_alloc ?_ _)); exact BK350.out) hb)
        have n2_ := Aside0.mk (blk_below (g := gb351) (o := .cells #[.int .i64 a0_5, .int .i64 a0_6] 41 (0, 0)) (by (with_reducible repeat (first | refine blk_drewN ?_ _ | refine blk_drew ?_ | refine blk_alloc ?_ _)); exact BK351.out) hb)
        have n3_ := Aside0.mk (below_step (by repeat (first | (with_reducible first | exact HB.out | apply below_alloc | apply pw_below_drewN | apply below_drew1 | refine below_set ?_ GE349.out | refine below_set ?_ GE350.out | refine below_set ?_ GE351.out) | exact HB.out)) hb)
        clear BK349
        clear BK350
        clear BK351
        clear HB
        have BK349 := n0_
        have BK350 := n1_
        have BK351 := n2_
        have HB := n3_
        clear n0_ n1_ n2_ n3_
        (try clear hb)
        (try clear hb2)
        (try clear hk)
        (try clear hi)
        refine hK.out _ _ ⟨(blk_cell BK350.out 0).trans rfl, (blk_cell BK350.out 1).trans rfl, (blk_cell BK350.out 2).trans rfl, (blk_cell BK350.out 3).trans rfl, (blk_cell BK351.out 0).trans rfl, (blk_cell BK351.out 1).trans rfl⟩ (fun hHeld => ?_)
        clear hK K
        refine norm_ (a' := ?_) ?_ ?_
        rotate_left
        · show Act.put _ (some 37) _ = _
          simp only [Act.put, List.setIfInBounds_toArray, List.set_cons_zero, List.set_cons_succ, i64_w, i32_w]
          rfl
        refine pure_ (i := 15) (N := some 38) (v := ?_) (a' := ?_) #[true, true, true, true, true, true, true, true, true, true, true, true, true, true, true, true, false, false, false, false, false] rfl rfl (any_of HT_.out (by kernel_rfl)) (fun _ _ _ h => h) (Or.inl ⟨by rfl, ?_⟩) ?_ ?_
        rotate_left
        · intro w'
          go_simp
          with_reducible rfl
        rotate_left
        · simp only [Act.put, List.setIfInBounds_toArray, List.set_cons_zero, List.set_cons_succ, i64_w, i32_w]
          rfl
        refine pure_ (i := 16) (N := some 39) (v := ?_) (a' := ?_) #[true, true, true, true, true, true, true, true, true, true, true, true, true, true, true, true, true, false, false, false, false] rfl rfl (any_of HT_.out (by kernel_rfl)) (fun _ _ _ h => h) (Or.inl ⟨by rfl, ?_⟩) ?_ ?_
        rotate_left
        · intro w'
          go_simp
          with_reducible rfl
        rotate_left
        · simp only [Act.put, List.setIfInBounds_toArray, List.set_cons_zero, List.set_cons_succ, i64_w, i32_w]
          rfl
        refine pure_ (i := 17) (N := some 40) (v := ?_) (a' := ?_) #[true, true, true, true, true, true, true, true, true, true, true, true, true, true, true, true, true, true, false, false, false] rfl rfl (any_of HT_.out (by kernel_rfl)) (fun _ _ _ h => h) (Or.inl ⟨by rfl, ?_⟩) ?_ ?_
        rotate_left
        · intro w'
          go_simp
          with_reducible rfl
        rotate_left
        · simp only [Act.put, List.setIfInBounds_toArray, List.set_cons_zero, List.set_cons_succ, i64_w, i32_w]
          rfl
        refine pure_ (i := 18) (N := some 41) (v := undef) (a' := ?_) #[true, true, true, true, true, true, true, true, true, true, true, true, true, true, true, true, true, true, true, false, false] rfl rfl (any_of HT_.out (by kernel_rfl)) (fun _ _ _ h => h) (Or.inr ⟨by rfl, rfl⟩) ?_ ?_
        rotate_left
        · simp only [Act.put, List.setIfInBounds_toArray, List.set_cons_zero, List.set_cons_succ, i64_w, i32_w]
          rfl
        refine pure_ (i := 19) (N := some 42) (v := ?_) (a' := ?_) #[true, true, true, true, true, true, true, true, true, true, true, true, true, true, true, true, true, true, true, true, false] rfl rfl (any_of HT_.out (by kernel_rfl)) (fun _ _ _ h => h) (Or.inl ⟨by rfl, ?_⟩) ?_ ?_
        rotate_left
        · intro w'
          go_simp
          with_reducible rfl
        rotate_left
        · simp only [Act.put, List.setIfInBounds_toArray, List.set_cons_zero, List.set_cons_succ, i64_w, i32_w]
          rfl
        refine pure_ (i := 20) (N := some 2) (v := ?_) (a' := ?_) #[true, true, true, true, true, true, true, true, true, true, true, true, true, true, true, true, true, true, true, true, true] rfl rfl (any_of HT_.out (by kernel_rfl)) (fun _ _ _ h => h) (Or.inl ⟨by rfl, ?_⟩) ?_ ?_
        rotate_left
        · intro w'
          go_simp
          with_reducible rfl
        rotate_left
        · simp only [Act.put, List.setIfInBounds_toArray, List.set_cons_zero, List.set_cons_succ, i64_w, i32_w]
          rfl
        refine done_ (done_of HT_.out (by kernel_rfl)) ?_
        try go_wp2
        go_ret
        exact ⟨by first | rfl | (simp [errW_none, errW_some] <;> rfl) | (simp [*, errW_none, errW_some] <;> rfl), by repeat (first | (with_reducible first | exact HB.out | apply below_alloc | apply pw_below_drewN | apply below_drew1 | refine below_set ?_ GE349.out | refine below_set ?_ GE350.out | refine below_set ?_ GE351.out) | exact HB.out)⟩
    · rw [if_neg c21] at H
      have c21b0 : (t353 == t354) = false := beq_eq_false_iff_ne.mpr c21
      have c21b1 : (t353 != t354) = true := bne_iff_ne.mpr c21
      obtain rfl := Option.some.inj H
      go_enter Try.func11, Try.ntmps11
      try go_wp2_with (first | ((with_reducible refine gate_dst (N := 1) rfl ?_); refine box_event ?hg (N := 1) ?hd (cs := #[.string a0_0, .int .i64 a0_1, .int .i64 a0_2, .int .i64 a0_3, .int .u8 a0_4, .int .i64 a0_5, .int .i64 a0_6, .int .u8 a0_7]) (t := 54) ?hr ?_; (case hd => rfl); (case hg => rfl); (case hr => first | (go_simp; done) | (go_simp; rfl)); intro gb349 hg w65 hbox hb; have n0_ := Aside0.mk (below_step (by repeat (first | (with_reducible first | exact HB.out | apply below_alloc | apply pw_below_drewN | apply below_drew1) | exact HB.out)) hb); have n1_ := Aside0.mk (hbox); have n2_ := Aside0.mk ((by rw [hg]; exact (below_size (by repeat (first | (with_reducible first | exact HB.out | apply below_alloc | apply pw_below_drewN | apply below_drew1) | exact HB.out))) : w.heap.size ≤ gb349)); have n3_ := Aside0.mk ((by rw [hg]; exact (below_size (by repeat (first | (with_reducible first | exact HB.out | apply below_alloc | apply pw_below_drewN | apply below_drew1) | exact HB.out))) : w.heap.size ≤ gb349)); clear HB; have HB := n0_; have BK349 := n1_; have GW349 := n2_; have GE349 := n3_; clear n0_ n1_ n2_ n3_; clear hb hbox hg))
      have n0_ := Aside0.mk (blk_drew BK349.out)
      have n1_ := Aside0.mk (below_drew1 HB.out)
      clear BK349
      clear HB
      have BK349 := n0_
      have HB := n1_
      clear n0_ n1_
      refine start_ (n := 14) (S := fun w' => w'.cell? ⟨gb349, 0, none⟩ = some (.string a0_0) ∧ w'.cell? ⟨gb349, 1, none⟩ = some (.int .i64 a0_1) ∧ w'.cell? ⟨gb349, 2, none⟩ = some (.int .i64 a0_2) ∧ w'.cell? ⟨gb349, 3, none⟩ = some (.int .i64 a0_3) ∧ w'.cell? ⟨gb349, 4, none⟩ = some (.int .u8 a0_4) ∧ w'.cell? ⟨gb349, 5, none⟩ = some (.int .i64 a0_5) ∧ w'.cell? ⟨gb349, 6, none⟩ = some (.int .i64 a0_6) ∧ w'.cell? ⟨gb349, 7, none⟩ = some (.int .u8 a0_7)) (ds := []) #[false, false, false, false, false, false, false, false, false, false, false, false, false, false] (by kernel_rfl) rfl rfl ⟨(blk_cell BK349.out 0).trans rfl, (blk_cell BK349.out 1).trans rfl, (blk_cell BK349.out 2).trans rfl, (blk_cell BK349.out 3).trans rfl, (blk_cell BK349.out 4).trans rfl, (blk_cell BK349.out 5).trans rfl, (blk_cell BK349.out 6).trans rfl, (blk_cell BK349.out 7).trans rfl⟩ (fun hHeld => ?_); refine with_tabW riverbanklaw14_ValueOf.tab1 riverbanklaw14_ValueOf.bits1 (fun HT_ HW_ => ?_)
      generalize w65.drew = w66 at BK349 HB hHeld ⊢
      refine pure_ (i := 0) (N := some 8) (v := ?_) (a' := ?_) #[true, false, false, false, false, false, false, false, false, false, false, false, false, false] rfl rfl (any_of HT_.out (by kernel_rfl)) (fun _ _ _ h => h) (Or.inl ⟨by rfl, ?_⟩) ?_ ?_
      rotate_left
      · intro w'
        go_simp
        with_reducible rfl
      rotate_left
      · simp only [Act.put, List.setIfInBounds_toArray, List.set_cons_zero, List.set_cons_succ, i64_w, i32_w]
        rfl
      refine pure_ (i := 2) (N := some 10) (v := ?_) (a' := ?_) #[true, false, true, false, false, false, false, false, false, false, false, false, false, false] rfl rfl (any_of HT_.out (by kernel_rfl)) (fun _ _ _ h => h) (Or.inl ⟨by rfl, ?_⟩) ?_ ?_
      rotate_left
      · intro w'
        go_simp
        with_reducible rfl
      rotate_left
      · simp only [Act.put, List.setIfInBounds_toArray, List.set_cons_zero, List.set_cons_succ, i64_w, i32_w]
        rfl
      refine pure_ (i := 4) (N := some 12) (v := ?_) (a' := ?_) #[true, false, true, false, true, false, false, false, false, false, false, false, false, false] rfl rfl (any_of HT_.out (by kernel_rfl)) (fun _ _ _ h => h) (Or.inl ⟨by rfl, ?_⟩) ?_ ?_
      rotate_left
      · intro w'
        go_simp
        with_reducible rfl
      rotate_left
      · simp only [Act.put, List.setIfInBounds_toArray, List.set_cons_zero, List.set_cons_succ, i64_w, i32_w]
        rfl
      refine pure_ (i := 6) (N := some 14) (v := ?_) (a' := ?_) #[true, false, true, false, true, false, true, false, false, false, false, false, false, false] rfl rfl (any_of HT_.out (by kernel_rfl)) (fun _ _ _ h => h) (Or.inl ⟨by rfl, ?_⟩) ?_ ?_
      rotate_left
      · intro w'
        go_simp
        with_reducible rfl
      rotate_left
      · simp only [Act.put, List.setIfInBounds_toArray, List.set_cons_zero, List.set_cons_succ, i64_w, i32_w]
        rfl
      refine take_ (i := 1) (N := some 9) (v := ?_) (a' := ?_) #[true, true, true, false, true, false, true, false, false, false, false, false, false, false] rfl rfl (take_ofW HT_.out HW_.out (by kernel_rfl)) (fun _ _ _ h => h) (Or.inl ⟨by rfl, ?_⟩) hHeld ?_ ?_
      rotate_left
      · rintro w' ⟨s0, s1, s2, s3, s4, s5, s6, s7⟩
        go_simp
        with_reducible rfl
      rotate_left
      · simp only [Act.put, List.setIfInBounds_toArray, List.set_cons_zero, List.set_cons_succ, i64_w, i32_w]
        rfl
      refine take_ (i := 3) (N := some 11) (v := ?_) (a' := ?_) #[true, true, true, true, true, false, true, false, false, false, false, false, false, false] rfl rfl (take_ofW HT_.out HW_.out (by kernel_rfl)) (fun _ _ _ h => h) (Or.inl ⟨by rfl, ?_⟩) hHeld ?_ ?_
      rotate_left
      · rintro w' ⟨s0, s1, s2, s3, s4, s5, s6, s7⟩
        go_simp
        with_reducible rfl
      rotate_left
      · simp only [Act.put, List.setIfInBounds_toArray, List.set_cons_zero, List.set_cons_succ, i64_w, i32_w]
        rfl
      refine take_ (i := 5) (N := some 13) (v := ?_) (a' := ?_) #[true, true, true, true, true, true, true, false, false, false, false, false, false, false] rfl rfl (take_ofW HT_.out HW_.out (by kernel_rfl)) (fun _ _ _ h => h) (Or.inl ⟨by rfl, ?_⟩) hHeld ?_ ?_
      rotate_left
      · rintro w' ⟨s0, s1, s2, s3, s4, s5, s6, s7⟩
        go_simp
        with_reducible rfl
      rotate_left
      · simp only [Act.put, List.setIfInBounds_toArray, List.set_cons_zero, List.set_cons_succ, i64_w, i32_w]
        rfl
      refine take_ (i := 7) (N := some 15) (v := ?_) (a' := ?_) #[true, true, true, true, true, true, true, true, false, false, false, false, false, false] rfl rfl (take_ofW HT_.out HW_.out (by kernel_rfl)) (fun _ _ _ h => h) (Or.inl ⟨by rfl, ?_⟩) hHeld ?_ ?_
      rotate_left
      · rintro w' ⟨s0, s1, s2, s3, s4, s5, s6, s7⟩
        go_simp
        with_reducible rfl
      rotate_left
      · simp only [Act.put, List.setIfInBounds_toArray, List.set_cons_zero, List.set_cons_succ, i64_w, i32_w]
        rfl
      refine join_ (σ := Nat × Nat) 4 #[true, true, true, true, true, true, true, true, true, true, false, false, false, false] (fun s_ => [(3, .pointer (some ⟨s_.1, 0, none⟩)), (5, .pointer (some ⟨s_.2, 0, none⟩))]) (fun s_ w' => (w'.cell? ⟨gb349, 0, none⟩ = some (.string a0_0) ∧ w'.cell? ⟨gb349, 1, none⟩ = some (.int .i64 a0_1) ∧ w'.cell? ⟨gb349, 2, none⟩ = some (.int .i64 a0_2) ∧ w'.cell? ⟨gb349, 3, none⟩ = some (.int .i64 a0_3) ∧ w'.cell? ⟨gb349, 4, none⟩ = some (.int .u8 a0_4) ∧ w'.cell? ⟨gb349, 5, none⟩ = some (.int .i64 a0_5) ∧ w'.cell? ⟨gb349, 6, none⟩ = some (.int .i64 a0_6) ∧ w'.cell? ⟨gb349, 7, none⟩ = some (.int .u8 a0_7)) ∧ (w'.heap[gb349]? = some (.cells #[.string a0_0, .int .i64 a0_1, .int .i64 a0_2, .int .i64 a0_3, .int .u8 a0_4, .int .i64 a0_5, .int .i64 a0_6, .int .u8 a0_7] 54 (0, 0))) ∧ (w'.heap[s_.1]? = some (.cells #[.string (⟨#[]⟩ : ByteArray), .int .i64 0, .int .i64 0, .int .i64 0] 29 (0, 0))) ∧ (w'.heap[s_.2]? = some (.cells #[.int .i64 0, .int .i64 0] 41 (0, 0))) ∧ (w.heap.size ≤ s_.1) ∧ (w.heap.size ≤ s_.1) ∧ (gb349 ≠ s_.1) ∧ (s_.1 ≠ gb349) ∧ (s_.2 ≠ s_.1) ∧ (s_.1 ≠ s_.2) ∧ (w.heap.size ≤ s_.2) ∧ (w.heap.size ≤ s_.2) ∧ (gb349 ≠ s_.2) ∧ (s_.2 ≠ gb349) ∧ (Below w.heap.size w w')) ?_ ?_
      rotate_left
      · intro hCont
        refine two_ (i := 8) (j := 9) (Ni := some 3) (Nj := some 5) #[true, true, true, true, true, true, true, true, true, false, false, false, false, false] #[true, true, true, true, true, true, true, true, false, true, false, false, false, false] rfl rfl rfl rfl (two_of HT_.out (by kernel_rfl)) (by decide) (by decide) (fun K hK => ?_) (fun K hK => ?_)
        · skip
          refine box_step ?hg (N := 3) ?hd (cs := #[.string (⟨#[]⟩ : ByteArray), .int .i64 0, .int .i64 0, .int .i64 0]) (t := 29) ?hr ?_; (case hd => rfl); (case hg => rfl); (case hr => first | (go_simp; done) | (go_simp; rfl))
          intro gb350 hg w67 hbox hb
          have n0_ := Aside0.mk (blk_below (g := gb349) (o := .cells #[.string a0_0, .int .i64 a0_1, .int .i64 a0_2, .int .i64 a0_3, .int .u8 a0_4, .int .i64 a0_5, .int .i64 a0_6, .int .u8 a0_7] 54 (0, 0)) (by (with_reducible repeat (first | refine blk_drewN ?_ _ | refine blk_drew ?_ | refine blk_alloc ?_ _)); exact BK349.out) hb)
          have n1_ := Aside0.mk (below_step (by repeat (first | (with_reducible first | exact HB.out | apply below_alloc | apply pw_below_drewN | apply below_drew1 | refine below_set ?_ GE349.out) | exact HB.out)) hb)
          have n2_ := Aside0.mk (hbox)
          have n3_ := Aside0.mk ((by rw [hg]; exact (below_size (by repeat (first | (with_reducible first | exact HB.out | apply below_alloc | apply pw_below_drewN | apply below_drew1 | refine below_set ?_ GE349.out) | exact HB.out))) : w.heap.size ≤ gb350))
          have n4_ := Aside0.mk ((by rw [hg]; exact (below_size (by repeat (first | (with_reducible first | exact HB.out | apply below_alloc | apply pw_below_drewN | apply below_drew1 | refine below_set ?_ GE349.out) | exact HB.out))) : w.heap.size ≤ gb350))
          have n5_ := Aside0.mk ((by rw [hg]; exact Nat.ne_of_lt (blk_lt (g := gb349) (o := .cells #[.string a0_0, .int .i64 a0_1, .int .i64 a0_2, .int .i64 a0_3, .int .u8 a0_4, .int .i64 a0_5, .int .i64 a0_6, .int .u8 a0_7] 54 (0, 0)) (by (with_reducible repeat (first | refine blk_drewN ?_ _ | refine blk_drew ?_ | refine blk_alloc ?_ _)); exact BK349.out)) : gb349 ≠ gb350))
          have n6_ := Aside0.mk ((by rw [hg]; exact Nat.ne_of_gt (blk_lt (g := gb349) (o := .cells #[.string a0_0, .int .i64 a0_1, .int .i64 a0_2, .int .i64 a0_3, .int .u8 a0_4, .int .i64 a0_5, .int .i64 a0_6, .int .u8 a0_7] 54 (0, 0)) (by (with_reducible repeat (first | refine blk_drewN ?_ _ | refine blk_drew ?_ | refine blk_alloc ?_ _)); exact BK349.out)) : gb350 ≠ gb349))
          clear BK349
          clear HB
          have BK349 := n0_
          have HB := n1_
          have BK350 := n2_
          have GW350 := n3_
          have GE350 := n4_
          have NB349_350 := n5_
          have NB350_349 := n6_
          clear n0_ n1_ n2_ n3_ n4_ n5_ n6_
          clear hb hbox hg
          refine hK.out _ _ ⟨(blk_cell BK349.out 0).trans rfl, (blk_cell BK349.out 1).trans rfl, (blk_cell BK349.out 2).trans rfl, (blk_cell BK349.out 3).trans rfl, (blk_cell BK349.out 4).trans rfl, (blk_cell BK349.out 5).trans rfl, (blk_cell BK349.out 6).trans rfl, (blk_cell BK349.out 7).trans rfl⟩ (fun hHeld => ?_)
          clear hK K
          refine norm_ (a' := ?_) ?_ ?_
          rotate_left
          · show Act.put _ (some 3) _ = _
            simp only [Act.put, List.setIfInBounds_toArray, List.set_cons_zero, List.set_cons_succ, i64_w, i32_w]
            rfl
          refine one_ (i := 9) (N := some 5) #[true, true, true, true, true, true, true, true, true, true, false, false, false, false] rfl rfl (one_of HT_.out (by kernel_rfl)) (by decide) (fun K hK => ?_)
          refine box_step ?hg (N := 5) ?hd (cs := #[.int .i64 0, .int .i64 0]) (t := 41) ?hr ?_; (case hd => rfl); (case hg => rfl); (case hr => first | (go_simp; done) | (go_simp; rfl))
          intro gb351 hg w68 hbox hb
          have n0_ := Aside0.mk (blk_below (g := gb349) (o := .cells #[.string a0_0, .int .i64 a0_1, .int .i64 a0_2, .int .i64 a0_3, .int .u8 a0_4, .int .i64 a0_5, .int .i64 a0_6, .int .u8 a0_7] 54 (0, 0)) (by (with_reducible repeat (first | refine blk_drewN ?_ _ | refine blk_drew ?_ | refine blk_alloc ?_ _)); exact BK349.out) hb)
          have n1_ := Aside0.mk (blk_below (g := gb350) (o := .cells #[.string (⟨#[]⟩ : ByteArray), .int .i64 0, .int .i64 0, .int .i64 0] 29 (0, 0)) (by (with_reducible repeat (first | refine blk_drewN ?_ _ | refine blk_drew ?_ | refine blk_alloc ?_ _)); exact BK350.out) hb)
          have n2_ := Aside0.mk (below_step (by repeat (first | (with_reducible first | exact HB.out | apply below_alloc | apply pw_below_drewN | apply below_drew1 | refine below_set ?_ GE349.out | refine below_set ?_ GE350.out) | exact HB.out)) hb)
          have n3_ := Aside0.mk (hbox)
          have n4_ := Aside0.mk ((by rw [hg]; exact (below_size (by repeat (first | (with_reducible first | exact HB.out | apply below_alloc | apply pw_below_drewN | apply below_drew1 | refine below_set ?_ GE349.out | refine below_set ?_ GE350.out) | exact HB.out))) : w.heap.size ≤ gb351))
          have n5_ := Aside0.mk ((by rw [hg]; exact (below_size (by repeat (first | (with_reducible first | exact HB.out | apply below_alloc | apply pw_below_drewN | apply below_drew1 | refine below_set ?_ GE349.out | refine below_set ?_ GE350.out) | exact HB.out))) : w.heap.size ≤ gb351))
          have n6_ := Aside0.mk ((by rw [hg]; exact Nat.ne_of_lt (blk_lt (g := gb349) (o := .cells #[.string a0_0, .int .i64 a0_1, .int .i64 a0_2, .int .i64 a0_3, .int .u8 a0_4, .int .i64 a0_5, .int .i64 a0_6, .int .u8 a0_7] 54 (0, 0)) (by (with_reducible repeat (first | refine blk_drewN ?_ _ | refine blk_drew ?_ | refine blk_alloc ?_ _)); exact BK349.out)) : gb349 ≠ gb351))
          have n7_ := Aside0.mk ((by rw [hg]; exact Nat.ne_of_gt (blk_lt (g := gb349) (o := .cells #[.string a0_0, .int .i64 a0_1, .int .i64 a0_2, .int .i64 a0_3, .int .u8 a0_4, .int .i64 a0_5, .int .i64 a0_6, .int .u8 a0_7] 54 (0, 0)) (by (with_reducible repeat (first | refine blk_drewN ?_ _ | refine blk_drew ?_ | refine blk_alloc ?_ _)); exact BK349.out)) : gb351 ≠ gb349))
          have n8_ := Aside0.mk ((by rw [hg]; exact Nat.ne_of_lt (blk_lt (g := gb350) (o := .cells #[.string (⟨#[]⟩ : ByteArray), .int .i64 0, .int .i64 0, .int .i64 0] 29 (0, 0)) (by (with_reducible repeat (first | refine blk_drewN ?_ _ | refine blk_drew ?_ | refine blk_alloc ?_ _)); exact BK350.out)) : gb350 ≠ gb351))
          have n9_ := Aside0.mk ((by rw [hg]; exact Nat.ne_of_gt (blk_lt (g := gb350) (o := .cells #[.string (⟨#[]⟩ : ByteArray), .int .i64 0, .int .i64 0, .int .i64 0] 29 (0, 0)) (by (with_reducible repeat (first | refine blk_drewN ?_ _ | refine blk_drew ?_ | refine blk_alloc ?_ _)); exact BK350.out)) : gb351 ≠ gb350))
          clear BK349
          clear BK350
          clear HB
          have BK349 := n0_
          have BK350 := n1_
          have HB := n2_
          have BK351 := n3_
          have GW351 := n4_
          have GE351 := n5_
          have NB349_351 := n6_
          have NB351_349 := n7_
          have NB350_351 := n8_
          have NB351_350 := n9_
          clear n0_ n1_ n2_ n3_ n4_ n5_ n6_ n7_ n8_ n9_
          clear hb hbox hg
          refine hK.out _ _ ⟨(blk_cell BK349.out 0).trans rfl, (blk_cell BK349.out 1).trans rfl, (blk_cell BK349.out 2).trans rfl, (blk_cell BK349.out 3).trans rfl, (blk_cell BK349.out 4).trans rfl, (blk_cell BK349.out 5).trans rfl, (blk_cell BK349.out 6).trans rfl, (blk_cell BK349.out 7).trans rfl⟩ (fun hHeld => ?_)
          clear hK K
          refine norm_ (a' := ?_) ?_ ?_
          rotate_left
          · show Act.put _ (some 5) _ = _
            simp only [Act.put, List.setIfInBounds_toArray, List.set_cons_zero, List.set_cons_succ, i64_w, i32_w]
            rfl
          exact norm_ (by simp only [putAll, Act.put, List.setIfInBounds_toArray, List.set_cons_zero, List.set_cons_succ]) (hCont (gb350, gb351) _ ⟨hHeld, (by (with_reducible repeat (first | refine blk_drewN ?_ _ | refine blk_drew ?_ | refine blk_alloc ?_ _)); exact BK349.out), (by (with_reducible repeat (first | refine blk_drewN ?_ _ | refine blk_drew ?_ | refine blk_alloc ?_ _)); exact BK350.out), (by (with_reducible repeat (first | refine blk_drewN ?_ _ | refine blk_drew ?_ | refine blk_alloc ?_ _)); exact BK351.out), GW350.out, GE350.out, NB349_350.out, NB350_349.out, NB351_350.out, NB350_351.out, GW351.out, GE351.out, NB349_351.out, NB351_349.out, (by repeat (first | (with_reducible first | exact HB.out | apply below_alloc | apply pw_below_drewN | apply below_drew1 | refine below_set ?_ GE349.out | refine below_set ?_ GE350.out | refine below_set ?_ GE351.out) | exact HB.out))⟩)
        · skip
          refine box_step ?hg (N := 5) ?hd (cs := #[.int .i64 0, .int .i64 0]) (t := 41) ?hr ?_; (case hd => rfl); (case hg => rfl); (case hr => first | (go_simp; done) | (go_simp; rfl))
          intro gb351 hg w67 hbox hb
          have n0_ := Aside0.mk (blk_below (g := gb349) (o := .cells #[.string a0_0, .int .i64 a0_1, .int .i64 a0_2, .int .i64 a0_3, .int .u8 a0_4, .int .i64 a0_5, .int .i64 a0_6, .int .u8 a0_7] 54 (0, 0)) (by (with_reducible repeat (first | refine blk_drewN ?_ _ | refine blk_drew ?_ | refine blk_alloc ?_ _)); exact BK349.out) hb)
          have n1_ := Aside0.mk (below_step (by repeat (first | (with_reducible first | exact HB.out | apply below_alloc | apply pw_below_drewN | apply below_drew1 | refine below_set ?_ GE349.out) | exact HB.out)) hb)
          have n2_ := Aside0.mk (hbox)
          have n3_ := Aside0.mk ((by rw [hg]; exact (below_size (by repeat (first | (with_reducible first | exact HB.out | apply below_alloc | apply pw_below_drewN | apply below_drew1 | refine below_set ?_ GE349.out) | exact HB.out))) : w.heap.size ≤ gb351))
          have n4_ := Aside0.mk ((by rw [hg]; exact (below_size (by repeat (first | (with_reducible first | exact HB.out | apply below_alloc | apply pw_below_drewN | apply below_drew1 | refine below_set ?_ GE349.out) | exact HB.out))) : w.heap.size ≤ gb351))
          have n5_ := Aside0.mk ((by rw [hg]; exact Nat.ne_of_lt (blk_lt (g := gb349) (o := .cells #[.string a0_0, .int .i64 a0_1, .int .i64 a0_2, .int .i64 a0_3, .int .u8 a0_4, .int .i64 a0_5, .int .i64 a0_6, .int .u8 a0_7] 54 (0, 0)) (by (with_reducible repeat (first | refine blk_drewN ?_ _ | refine blk_drew ?_ | refine blk_alloc ?_ _)); exact BK349.out)) : gb349 ≠ gb351))
          have n6_ := Aside0.mk ((by rw [hg]; exact Nat.ne_of_gt (blk_lt (g := gb349) (o := .cells #[.string a0_0, .int .i64 a0_1, .int .i64 a0_2, .int .i64 a0_3, .int .u8 a0_4, .int .i64 a0_5, .int .i64 a0_6, .int .u8 a0_7] 54 (0, 0)) (by (with_reducible repeat (first | refine blk_drewN ?_ _ | refine blk_drew ?_ | refine blk_alloc ?_ _)); exact BK349.out)) : gb351 ≠ gb349))
          clear BK349
          clear HB
          have BK349 := n0_
          have HB := n1_
          have BK351 := n2_
          have GW351 := n3_
          have GE351 := n4_
          have NB349_351 := n5_
          have NB351_349 := n6_
          clear n0_ n1_ n2_ n3_ n4_ n5_ n6_
          clear hb hbox hg
          refine hK.out _ _ ⟨(blk_cell BK349.out 0).trans rfl, (blk_cell BK349.out 1).trans rfl, (blk_cell BK349.out 2).trans rfl, (blk_cell BK349.out 3).trans rfl, (blk_cell BK349.out 4).trans rfl, (blk_cell BK349.out 5).trans rfl, (blk_cell BK349.out 6).trans rfl, (blk_cell BK349.out 7).trans rfl⟩ (fun hHeld => ?_)
          clear hK K
          refine norm_ (a' := ?_) ?_ ?_
          rotate_left
          · show Act.put _ (some 5) _ = _
            simp only [Act.put, List.setIfInBounds_toArray, List.set_cons_zero, List.set_cons_succ, i64_w, i32_w]
            rfl
          refine one_ (i := 8) (N := some 3) #[true, true, true, true, true, true, true, true, true, true, false, false, false, false] rfl rfl (one_of HT_.out (by kernel_rfl)) (by decide) (fun K hK => ?_)
          refine box_step ?hg (N := 3) ?hd (cs := #[.string (⟨#[]⟩ : ByteArray), .int .i64 0, .int .i64 0, .int .i64 0]) (t := 29) ?hr ?_; (case hd => rfl); (case hg => rfl); (case hr => first | (go_simp; done) | (go_simp; rfl))
          intro gb350 hg w68 hbox hb
          have n0_ := Aside0.mk (blk_below (g := gb349) (o := .cells #[.string a0_0, .int .i64 a0_1, .int .i64 a0_2, .int .i64 a0_3, .int .u8 a0_4, .int .i64 a0_5, .int .i64 a0_6, .int .u8 a0_7] 54 (0, 0)) (by (with_reducible repeat (first | refine blk_drewN ?_ _ | refine blk_drew ?_ | refine blk_alloc ?_ _)); exact BK349.out) hb)
          have n1_ := Aside0.mk (blk_below (g := gb351) (o := .cells #[.int .i64 0, .int .i64 0] 41 (0, 0)) (by (with_reducible repeat (first | refine blk_drewN ?_ _ | refine blk_drew ?_ | refine blk_alloc ?_ _)); exact BK351.out) hb)
          have n2_ := Aside0.mk (below_step (by repeat (first | (with_reducible first | exact HB.out | apply below_alloc | apply pw_below_drewN | apply below_drew1 | refine below_set ?_ GE349.out | refine below_set ?_ GE351.out) | exact HB.out)) hb)
          have n3_ := Aside0.mk (hbox)
          have n4_ := Aside0.mk ((by rw [hg]; exact (below_size (by repeat (first | (with_reducible first | exact HB.out | apply below_alloc | apply pw_below_drewN | apply below_drew1 | refine below_set ?_ GE349.out | refine below_set ?_ GE351.out) | exact HB.out))) : w.heap.size ≤ gb350))
          have n5_ := Aside0.mk ((by rw [hg]; exact (below_size (by repeat (first | (with_reducible first | exact HB.out | apply below_alloc | apply pw_below_drewN | apply below_drew1 | refine below_set ?_ GE349.out | refine below_set ?_ GE351.out) | exact HB.out))) : w.heap.size ≤ gb350))
          have n6_ := Aside0.mk ((by rw [hg]; exact Nat.ne_of_lt (blk_lt (g := gb349) (o := .cells #[.string a0_0, .int .i64 a0_1, .int .i64 a0_2, .int .i64 a0_3, .int .u8 a0_4, .int .i64 a0_5, .int .i64 a0_6, .int .u8 a0_7] 54 (0, 0)) (by (with_reducible repeat (first | refine blk_drewN ?_ _ | refine blk_drew ?_ | refine blk_alloc ?_ _)); exact BK349.out)) : gb349 ≠ gb350))
          have n7_ := Aside0.mk ((by rw [hg]; exact Nat.ne_of_gt (blk_lt (g := gb349) (o := .cells #[.string a0_0, .int .i64 a0_1, .int .i64 a0_2, .int .i64 a0_3, .int .u8 a0_4, .int .i64 a0_5, .int .i64 a0_6, .int .u8 a0_7] 54 (0, 0)) (by (with_reducible repeat (first | refine blk_drewN ?_ _ | refine blk_drew ?_ | refine blk_alloc ?_ _)); exact BK349.out)) : gb350 ≠ gb349))
          have n8_ := Aside0.mk ((by rw [hg]; exact Nat.ne_of_lt (blk_lt (g := gb351) (o := .cells #[.int .i64 0, .int .i64 0] 41 (0, 0)) (by (with_reducible repeat (first | refine blk_drewN ?_ _ | refine blk_drew ?_ | refine blk_alloc ?_ _)); exact BK351.out)) : gb351 ≠ gb350))
          have n9_ := Aside0.mk ((by rw [hg]; exact Nat.ne_of_gt (blk_lt (g := gb351) (o := .cells #[.int .i64 0, .int .i64 0] 41 (0, 0)) (by (with_reducible repeat (first | refine blk_drewN ?_ _ | refine blk_drew ?_ | refine blk_alloc ?_ _)); exact BK351.out)) : gb350 ≠ gb351))
          clear BK349
          clear BK351
          clear HB
          have BK349 := n0_
          have BK351 := n1_
          have HB := n2_
          have BK350 := n3_
          have GW350 := n4_
          have GE350 := n5_
          have NB349_350 := n6_
          have NB350_349 := n7_
          have NB351_350 := n8_
          have NB350_351 := n9_
          clear n0_ n1_ n2_ n3_ n4_ n5_ n6_ n7_ n8_ n9_
          clear hb hbox hg
          refine hK.out _ _ ⟨(blk_cell BK349.out 0).trans rfl, (blk_cell BK349.out 1).trans rfl, (blk_cell BK349.out 2).trans rfl, (blk_cell BK349.out 3).trans rfl, (blk_cell BK349.out 4).trans rfl, (blk_cell BK349.out 5).trans rfl, (blk_cell BK349.out 6).trans rfl, (blk_cell BK349.out 7).trans rfl⟩ (fun hHeld => ?_)
          clear hK K
          refine norm_ (a' := ?_) ?_ ?_
          rotate_left
          · show Act.put _ (some 3) _ = _
            simp only [Act.put, List.setIfInBounds_toArray, List.set_cons_zero, List.set_cons_succ, i64_w, i32_w]
            rfl
          exact norm_ (by simp only [putAll, Act.put, List.setIfInBounds_toArray, List.set_cons_zero, List.set_cons_succ]) (hCont (gb350, gb351) _ ⟨hHeld, (by (with_reducible repeat (first | refine blk_drewN ?_ _ | refine blk_drew ?_ | refine blk_alloc ?_ _)); exact BK349.out), (by (with_reducible repeat (first | refine blk_drewN ?_ _ | refine blk_drew ?_ | refine blk_alloc ?_ _)); exact BK350.out), (by (with_reducible repeat (first | refine blk_drewN ?_ _ | refine blk_drew ?_ | refine blk_alloc ?_ _)); exact BK351.out), GW350.out, GE350.out, NB349_350.out, NB350_349.out, NB351_350.out, NB350_351.out, GW351.out, GE351.out, NB349_351.out, NB351_349.out, (by repeat (first | (with_reducible first | exact HB.out | apply below_alloc | apply pw_below_drewN | apply below_drew1 | refine below_set ?_ GE349.out | refine below_set ?_ GE351.out | refine below_set ?_ GE350.out) | exact HB.out))⟩)
      rintro ⟨gb350, gb351⟩ w69 ⟨hS_, h0_, h1_, h2_, h3_, h4_, h5_, h6_, h7_, h8_, h9_, h10_, h11_, h12_, h13_⟩
      have n0_ : Aside0 (w69.heap[gb349]? = some (.cells #[.string a0_0, .int .i64 a0_1, .int .i64 a0_2, .int .i64 a0_3, .int .u8 a0_4, .int .i64 a0_5, .int .i64 a0_6, .int .u8 a0_7] 54 (0, 0))) := ⟨h0_⟩
      have n1_ : Aside0 (w69.heap[gb350]? = some (.cells #[.string (⟨#[]⟩ : ByteArray), .int .i64 0, .int .i64 0, .int .i64 0] 29 (0, 0))) := ⟨h1_⟩
      have n2_ : Aside0 (w69.heap[gb351]? = some (.cells #[.int .i64 0, .int .i64 0] 41 (0, 0))) := ⟨h2_⟩
      have n3_ : Aside0 (w.heap.size ≤ gb350) := ⟨h3_⟩
      have n4_ : Aside0 (w.heap.size ≤ gb350) := ⟨h4_⟩
      have n5_ : Aside0 (gb349 ≠ gb350) := ⟨h5_⟩
      have n6_ : Aside0 (gb350 ≠ gb349) := ⟨h6_⟩
      have n7_ : Aside0 (gb351 ≠ gb350) := ⟨h7_⟩
      have n8_ : Aside0 (gb350 ≠ gb351) := ⟨h8_⟩
      have n9_ : Aside0 (w.heap.size ≤ gb351) := ⟨h9_⟩
      have n10_ : Aside0 (w.heap.size ≤ gb351) := ⟨h10_⟩
      have n11_ : Aside0 (gb349 ≠ gb351) := ⟨h11_⟩
      have n12_ : Aside0 (gb351 ≠ gb349) := ⟨h12_⟩
      have n13_ : Aside0 (Below w.heap.size w w69) := ⟨h13_⟩
      clear BK349
      clear HB
      clear h0_ h1_ h2_ h3_ h4_ h5_ h6_ h7_ h8_ h9_ h10_ h11_ h12_ h13_
      have BK349 := n0_
      have BK350 := n1_
      have BK351 := n2_
      have GW350 := n3_
      have GE350 := n4_
      have NB349_350 := n5_
      have NB350_349 := n6_
      have NB351_350 := n7_
      have NB350_351 := n8_
      have GW351 := n9_
      have GE351 := n10_
      have NB349_351 := n11_
      have NB351_349 := n12_
      have HB := n13_
      clear n0_ n1_ n2_ n3_ n4_ n5_ n6_ n7_ n8_ n9_ n10_ n11_ n12_ n13_
      have hHeld : w69.cell? ⟨gb349, 0, none⟩ = some (.string a0_0) ∧ w69.cell? ⟨gb349, 1, none⟩ = some (.int .i64 a0_1) ∧ w69.cell? ⟨gb349, 2, none⟩ = some (.int .i64 a0_2) ∧ w69.cell? ⟨gb349, 3, none⟩ = some (.int .i64 a0_3) ∧ w69.cell? ⟨gb349, 4, none⟩ = some (.int .u8 a0_4) ∧ w69.cell? ⟨gb349, 5, none⟩ = some (.int .i64 a0_5) ∧ w69.cell? ⟨gb349, 6, none⟩ = some (.int .i64 a0_6) ∧ w69.cell? ⟨gb349, 7, none⟩ = some (.int .u8 a0_7) := hS_
      refine norm_ (a' := ?_) ?_ ?_
      rotate_left
      · simp only [putAll, Act.put, List.setIfInBounds_toArray, List.set_cons_zero, List.set_cons_succ]
        rfl
      refine one_ (i := 10) (N := none) #[true, true, true, true, true, true, true, true, true, true, true, false, false, false] rfl rfl (one_of HT_.out (by kernel_rfl)) (by decide) (fun K hK => ?_)
      have hs70 : w69.cell? ⟨gb350, 0, none⟩ = some (.string (⟨#[]⟩ : ByteArray)) := (blk_cell BK350.out 0).trans rfl
      have hfs70 := blk_frozen BK350.out 0
      have hns70_0 := NB349_350.out
      have hns70_2 := NB351_350.out
      have hms70_0 := NB350_349.out
      have hms70_2 := NB350_351.out
      have hs71 : w69.cell? ⟨gb350, 1, none⟩ = some (.int .i64 0) := (blk_cell BK350.out 1).trans rfl
      have hfs71 := blk_frozen BK350.out 1
      have hns71_0 := NB349_350.out
      have hns71_2 := NB351_350.out
      have hms71_0 := NB350_349.out
      have hms71_2 := NB350_351.out
      have hs72 : w69.cell? ⟨gb350, 2, none⟩ = some (.int .i64 0) := (blk_cell BK350.out 2).trans rfl
      have hfs72 := blk_frozen BK350.out 2
      have hns72_0 := NB349_350.out
      have hns72_2 := NB351_350.out
      have hms72_0 := NB350_349.out
      have hms72_2 := NB350_351.out
      have hs73 : w69.cell? ⟨gb350, 3, none⟩ = some (.int .i64 0) := (blk_cell BK350.out 3).trans rfl
      have hfs73 := blk_frozen BK350.out 3
      have hns73_0 := NB349_350.out
      have hns73_2 := NB351_350.out
      have hms73_0 := NB350_349.out
      have hms73_2 := NB350_351.out
      refine skip_ (w1 := ?_) (by rfl) rfl ?_ ?_
      rotate_left
      · go_simp
        rfl
      refine hK.out _ _ ⟨((cell_far (p := ⟨gb350, _, none⟩) NB349_350.out _).trans (((cell_far (p := ⟨gb350, _, none⟩) NB349_350.out _).trans (((cell_far (p := ⟨gb350, _, none⟩) NB349_350.out _).trans (((cell_far (p := ⟨gb350, _, none⟩) NB349_350.out _).trans (hHeld.1)))))))), ((cell_far (p := ⟨gb350, _, none⟩) NB349_350.out _).trans (((cell_far (p := ⟨gb350, _, none⟩) NB349_350.out _).trans (((cell_far (p := ⟨gb350, _, none⟩) NB349_350.out _).trans (((cell_far (p := ⟨gb350, _, none⟩) NB349_350.out _).trans (hHeld.2.1)))))))), ((cell_far (p := ⟨gb350, _, none⟩) NB349_350.out _).trans (((cell_far (p := ⟨gb350, _, none⟩) NB349_350.out _).trans (((cell_far (p := ⟨gb350, _, none⟩) NB349_350.out _).trans (((cell_far (p := ⟨gb350, _, none⟩) NB349_350.out _).trans (hHeld.2.2.1)))))))), ((cell_far (p := ⟨gb350, _, none⟩) NB349_350.out _).trans (((cell_far (p := ⟨gb350, _, none⟩) NB349_350.out _).trans (((cell_far (p := ⟨gb350, _, none⟩) NB349_350.out _).trans (((cell_far (p := ⟨gb350, _, none⟩) NB349_350.out _).trans (hHeld.2.2.2.1)))))))), ((cell_far (p := ⟨gb350, _, none⟩) NB349_350.out _).trans (((cell_far (p := ⟨gb350, _, none⟩) NB349_350.out _).trans (((cell_far (p := ⟨gb350, _, none⟩) NB349_350.out _).trans (((cell_far (p := ⟨gb350, _, none⟩) NB349_350.out _).trans (hHeld.2.2.2.2.1)))))))), ((cell_far (p := ⟨gb350, _, none⟩) NB349_350.out _).trans (((cell_far (p := ⟨gb350, _, none⟩) NB349_350.out _).trans (((cell_far (p := ⟨gb350, _, none⟩) NB349_350.out _).trans (((cell_far (p := ⟨gb350, _, none⟩) NB349_350.out _).trans (hHeld.2.2.2.2.2.1)))))))), ((cell_far (p := ⟨gb350, _, none⟩) NB349_350.out _).trans (((cell_far (p := ⟨gb350, _, none⟩) NB349_350.out _).trans (((cell_far (p := ⟨gb350, _, none⟩) NB349_350.out _).trans (((cell_far (p := ⟨gb350, _, none⟩) NB349_350.out _).trans (hHeld.2.2.2.2.2.2.1)))))))), ((cell_far (p := ⟨gb350, _, none⟩) NB349_350.out _).trans (((cell_far (p := ⟨gb350, _, none⟩) NB349_350.out _).trans (((cell_far (p := ⟨gb350, _, none⟩) NB349_350.out _).trans (((cell_far (p := ⟨gb350, _, none⟩) NB349_350.out _).trans (hHeld.2.2.2.2.2.2.2))))))))⟩ (fun hHeld => ?_)
      clear hK K
      refine pure_ (i := 11) (N := some 4) (v := ?_) (a' := ?_) #[true, true, true, true, true, true, true, true, true, true, true, true, false, false] rfl rfl (any_of HT_.out (by kernel_rfl)) (fun _ _ _ h => h) (Or.inl ⟨by rfl, ?_⟩) ?_ ?_
      rotate_left
      · intro w'
        go_simp
        with_reducible rfl
      rotate_left
      · simp only [Act.put, List.setIfInBounds_toArray, List.set_cons_zero, List.set_cons_succ, i64_w, i32_w]
        rfl
      refine one_ (i := 12) (N := none) #[true, true, true, true, true, true, true, true, true, true, true, true, true, false] rfl rfl (one_of HT_.out (by kernel_rfl)) (by decide) (fun K hK => ?_)
      have hs74 : w69.cell? ⟨gb351, 0, none⟩ = some (.int .i64 0) := (blk_cell BK351.out 0).trans rfl
      have hfs74 := blk_frozen BK351.out 0
      have hns74_0 := NB349_351.out
      have hns74_1 := NB350_351.out
      have hms74_0 := NB351_349.out
      have hms74_1 := NB351_350.out
      have hs75 : w69.cell? ⟨gb351, 1, none⟩ = some (.int .i64 0) := (blk_cell BK351.out 1).trans rfl
      have hfs75 := blk_frozen BK351.out 1
      have hns75_0 := NB349_351.out
      have hns75_1 := NB350_351.out
      have hms75_0 := NB351_349.out
      have hms75_1 := NB351_350.out
      refine skip_ (w1 := ?_) (by rfl) rfl ?_ ?_
      rotate_left
      · go_simp
        rfl
      refine hK.out _ _ ⟨((cell_far (p := ⟨gb351, _, none⟩) NB349_351.out _).trans (((cell_far (p := ⟨gb351, _, none⟩) NB349_351.out _).trans (hHeld.1)))), ((cell_far (p := ⟨gb351, _, none⟩) NB349_351.out _).trans (((cell_far (p := ⟨gb351, _, none⟩) NB349_351.out _).trans (hHeld.2.1)))), ((cell_far (p := ⟨gb351, _, none⟩) NB349_351.out _).trans (((cell_far (p := ⟨gb351, _, none⟩) NB349_351.out _).trans (hHeld.2.2.1)))), ((cell_far (p := ⟨gb351, _, none⟩) NB349_351.out _).trans (((cell_far (p := ⟨gb351, _, none⟩) NB349_351.out _).trans (hHeld.2.2.2.1)))), ((cell_far (p := ⟨gb351, _, none⟩) NB349_351.out _).trans (((cell_far (p := ⟨gb351, _, none⟩) NB349_351.out _).trans (hHeld.2.2.2.2.1)))), ((cell_far (p := ⟨gb351, _, none⟩) NB349_351.out _).trans (((cell_far (p := ⟨gb351, _, none⟩) NB349_351.out _).trans (hHeld.2.2.2.2.2.1)))), ((cell_far (p := ⟨gb351, _, none⟩) NB349_351.out _).trans (((cell_far (p := ⟨gb351, _, none⟩) NB349_351.out _).trans (hHeld.2.2.2.2.2.2.1)))), ((cell_far (p := ⟨gb351, _, none⟩) NB349_351.out _).trans (((cell_far (p := ⟨gb351, _, none⟩) NB349_351.out _).trans (hHeld.2.2.2.2.2.2.2))))⟩ (fun hHeld => ?_)
      clear hK K
      refine pure_ (i := 13) (N := some 6) (v := ?_) (a' := ?_) #[true, true, true, true, true, true, true, true, true, true, true, true, true, true] rfl rfl (any_of HT_.out (by kernel_rfl)) (fun _ _ _ h => h) (Or.inl ⟨by rfl, ?_⟩) ?_ ?_
      rotate_left
      · intro w'
        go_simp
        with_reducible rfl
      rotate_left
      · simp only [Act.put, List.setIfInBounds_toArray, List.set_cons_zero, List.set_cons_succ, i64_w, i32_w]
        rfl
      refine done_ (done_of HT_.out (by kernel_rfl)) ?_
      have hnb76 := NB350_349.out
      have hnc76 := NB349_350.out
      have hnb77 := NB350_351.out
      have hnc77 := NB351_350.out
      have hcz78_0 : w69.cell? ⟨gb350, 0, none⟩ = some (.string (⟨#[]⟩ : ByteArray)) := (blk_cell BK350.out 0).trans rfl
      have hcz78_1 : w69.cell? ⟨gb350, 1, none⟩ = some (.int .i64 0) := (blk_cell BK350.out 1).trans rfl
      have hcz78_2 : w69.cell? ⟨gb350, 2, none⟩ = some (.int .i64 0) := (blk_cell BK350.out 2).trans rfl
      have hcz78_3 : w69.cell? ⟨gb350, 3, none⟩ = some (.int .i64 0) := (blk_cell BK350.out 3).trans rfl
      have hfz78_0 := blk_frozen BK350.out 0
      have hfz78_1 := blk_frozen BK350.out 1
      have hfz78_2 := blk_frozen BK350.out 2
      have hfz78_3 := blk_frozen BK350.out 3
      try go_wp2_with (first | ((with_reducible refine gate_callee (f := 37) rfl ?_); refine goesL_ (some 22) rfl rfl Try.func37 (by kernel_rfl) rfl #[.agg #[.string a0_0, .int .i64 a0_1, .int .i64 a0_2, .int .i64 a0_3]] rfl (by (try simp only [List.map_toArray, List.map_cons, List.map_nil]); first | done | rfl | (simp only [List.length_drop, List.length_take]; rfl)) ?_; (with_reducible refine (value_Of.calls a0_0 a0_1 a0_2 a0_3 t353 _ A19.out).mono ?_); rintro e w79 ⟨rfl, hb⟩; refine ⟨_, rfl, ?_⟩; have n0_ := Aside0.mk (blk_below (g := gb349) (o := .cells #[.string a0_0, .int .i64 a0_1, .int .i64 a0_2, .int .i64 a0_3, .int .u8 a0_4, .int .i64 a0_5, .int .i64 a0_6, .int .u8 a0_7] 54 (0, 0)) (by (with_reducible repeat (first | refine blk_drewN ?_ _ | refine blk_drew ?_ | refine blk_alloc ?_ _)); refine blk_far ?_ NB349_351.out _; (with_reducible repeat (first | refine blk_drewN ?_ _ | refine blk_drew ?_ | refine blk_alloc ?_ _)); refine blk_far ?_ NB349_351.out _; (with_reducible repeat (first | refine blk_drewN ?_ _ | refine blk_drew ?_ | refine blk_alloc ?_ _)); refine blk_far ?_ NB349_350.out _; (with_reducible repeat (first | refine blk_drewN ?_ _ | refine blk_drew ?_ | refine blk_alloc ?_ _)); refine blk_far ?_ NB349_350.out _; (with_reducible repeat (first | refine blk_drewN ?_ _ | refine blk_drew ?_ | refine blk_alloc ?_ _)); refine blk_far ?_ NB349_350.out _; (with_reducible repeat (first | refine blk_drewN ?_ _ | refine blk_drew ?_ | refine blk_alloc ?_ _)); refine blk_far ?_ NB349_350.out _; (with_reducible repeat (first | refine blk_drewN ?_ _ | refine blk_drew ?_ | refine blk_alloc ?_ _)); exact BK349.out) hb); have n1_ := Aside0.mk (blk_below (g := gb350) (o := .cells #[.string a0_0, .int .i64 a0_1, .int .i64 a0_2, .int .i64 a0_3] 29 (0, 0)) (by (with_reducible repeat (first | refine blk_drewN ?_ _ | refine blk_drew ?_ | refine blk_alloc ?_ _)); refine blk_far ?_ NB350_351.out _; (with_reducible repeat (first | refine blk_drewN ?_ _ | refine blk_drew ?_ | refine blk_alloc ?_ _)); refine blk_far ?_ NB350_351.out _; (with_reducible repeat (first | refine blk_drewN ?_ _ | refine blk_drew ?_ | refine blk_alloc ?_ _)); refine blk_put (cs := #[.string a0_0, .int .i64 a0_1, .int .i64 a0_2, .int .i64 0]) ?_ 3 _ rfl; (with_reducible repeat (first | refine blk_drewN ?_ _ | refine blk_drew ?_ | refine blk_alloc ?_ _)); refine blk_put (cs := #[.string a0_0, .int .i64 a0_1, .int .i64 0, .int .i64 0]) ?_ 2 _ rfl; (with_reducible repeat (first | refine blk_drewN ?_ _ | refine blk_drew ?_ | refine blk_alloc ?_ _)); refine blk_put (cs := #[.string a0_0, .int .i64 0, .int .i64 0, .int .i64 0]) ?_ 1 _ rfl; (with_reducible repeat (first | refine blk_drewN ?_ _ | refine blk_drew ?_ | refine blk_alloc ?_ _)); refine blk_put (cs := #[.string (⟨#[]⟩ : ByteArray), .int .i64 0, .int .i64 0, .int .i64 0]) ?_ 0 _ rfl; (with_reducible repeat (first | refine blk_drewN ?_ _ | refine blk_drew ?_ | refine blk_alloc ?_ _)); exact BK350.out) hb); have n2_ := Aside0.mk (blk_below (g := gb351) (o := .cells #[.int .i64 a0_5, .int .i64 a0_6] 41 (0, 0)) (by (with_reducible repeat (first | refine blk_drewN ?_ _ | refine blk_drew ?_ | refine blk_alloc ?_ _)); refine blk_put (cs := #[.int .i64 a0_5, .int .i64 0]) ?_ 1 _ rfl; (with_reducible repeat (first | refine blk_drewN ?_ _ | refine blk_drew ?_ | refine blk_alloc ?_ _)); refine blk_put (cs := #[.int .i64 0, .int .i64 0]) ?_ 0 _ rfl; (with_reducible repeat (first | refine blk_drewN ?_ _ | refine blk_drew ?_ | refine blk_alloc ?_ _)); refine blk_far ?_ NB351_350.out _; (with_reducible repeat (first | refine blk_drewN ?_ _ | refine blk_drew ?_ | refine blk_alloc ?_ _)); refine blk_far ?_ NB351_350.out _; (with_reducible repeat (first | refine blk_drewN ?_ _ | refine blk_drew ?_ | refine blk_alloc ?_ _)); refine blk_far ?_ NB351_350.out _; (with_reducible repeat (first | refine blk_drewN ?_ _ | refine blk_drew ?_ | refine blk_alloc ?_ _)); refine blk_far ?_ NB351_350.out _; (with_reducible repeat (first | refine blk_drewN ?_ _ | refine blk_drew ?_ | refine blk_alloc ?_ _)); exact BK351.out) hb); have n3_ := Aside0.mk (below_step (by repeat (first | (with_reducible first | exact HB.out | apply below_alloc | apply pw_below_drewN | apply below_drew1 | refine below_set ?_ GE349.out | refine below_set ?_ GE350.out | refine below_set ?_ GE351.out) | exact HB.out)) hb); clear BK349; clear BK350; clear BK351; clear HB; have BK349 := n0_; have BK350 := n1_; have BK351 := n2_; have HB := n3_; clear n0_ n1_ n2_ n3_; (try clear hb); (try clear hb2); (try clear hk); (try clear hi)))
      have n0_ := Aside0.mk (blk_drew BK349.out)
      have n1_ := Aside0.mk (blk_drew BK350.out)
      have n2_ := Aside0.mk (blk_drew BK351.out)
      have n3_ := Aside0.mk (below_drew1 HB.out)
      clear BK349
      clear BK350
      clear BK351
      clear HB
      have BK349 := n0_
      have BK350 := n1_
      have BK351 := n2_
      have HB := n3_
      clear n0_ n1_ n2_ n3_
      refine start_ (n := 21) (S := fun w' => w'.cell? ⟨gb350, 0, none⟩ = some (.string a0_0) ∧ w'.cell? ⟨gb350, 1, none⟩ = some (.int .i64 a0_1) ∧ w'.cell? ⟨gb350, 2, none⟩ = some (.int .i64 a0_2) ∧ w'.cell? ⟨gb350, 3, none⟩ = some (.int .i64 a0_3)) (ds := []) #[false, false, false, false, false, false, false, false, false, false, false, false, false, false, false, false, false, false, false, false, false] (by kernel_rfl) rfl rfl ⟨(blk_cell BK350.out 0).trans rfl, (blk_cell BK350.out 1).trans rfl, (blk_cell BK350.out 2).trans rfl, (blk_cell BK350.out 3).trans rfl⟩ (fun hHeld => ?_); refine with_tabW riverbanklaw14_ValueOf.tab5 riverbanklaw14_ValueOf.bits5 (fun HT_ HW_ => ?_)
      generalize w79.drew = w80 at BK349 BK350 BK351 HB hHeld ⊢
      refine pure_ (i := 0) (N := some 23) (v := ?_) (a' := ?_) #[true, false, false, false, false, false, false, false, false, false, false, false, false, false, false, false, false, false, false, false, false] rfl rfl (any_of HT_.out (by kernel_rfl)) (fun _ _ _ h => h) (Or.inl ⟨by rfl, ?_⟩) ?_ ?_
      rotate_left
      · intro w'
        go_simp
        with_reducible rfl
      rotate_left
      · simp only [Act.put, List.setIfInBounds_toArray, List.set_cons_zero, List.set_cons_succ, i64_w, i32_w]
        rfl
      refine take_ (i := 1) (N := some 24) (v := ?_) (a' := ?_) #[true, true, false, false, false, false, false, false, false, false, false, false, false, false, false, false, false, false, false, false, false] rfl rfl (take_ofW HT_.out HW_.out (by kernel_rfl)) (fun _ _ _ h => h) (Or.inl ⟨by rfl, ?_⟩) hHeld ?_ ?_
      rotate_left
      · rintro w' ⟨s0, s1, s2, s3⟩
        go_simp
        with_reducible rfl
      rotate_left
      · simp only [Act.put, List.setIfInBounds_toArray, List.set_cons_zero, List.set_cons_succ, i64_w, i32_w]
        rfl
      refine one_ (i := 2) (N := some 25) #[true, true, true, false, false, false, false, false, false, false, false, false, false, false, false, false, false, false, false, false, false] rfl rfl (one_of HT_.out (by kernel_rfl)) (by decide) (fun K hK => ?_)
      refine goes_ Try.func38 (by kernel_rfl) rfl #[.agg #[.string a0_0, .int .i64 a0_1, .int .i64 a0_2, .int .i64 a0_3]] (by rfl) rfl rfl (by (try simp only [List.map_toArray, List.map_cons, List.map_nil]); first | done | rfl | (simp only [List.length_drop, List.length_take]; rfl)) ?_
      with_reducible refine (riverbankref14_Of.calls k a0_0 a0_1 a0_2 a0_3 t354 _ A20.out).mono ?_
      rintro e w81 ⟨rfl, hb⟩
      refine ⟨_, rfl, ?_⟩
      have n0_ := Aside0.mk (blk_below (g := gb349) (o := .cells #[.string a0_0, .int .i64 a0_1, .int .i64 a0_2, .int .i64 a0_3, .int .u8 a0_4, .int .i64 a0_5, .int .i64 a0_6, .int .u8 a0_7] 54 (0, 0)) (by (with_reducible repeat (first | refine blk_drewN ?_ _ | refine blk_drew ?_ | refine blk_alloc ?_ _)); exact BK349.out) hb)
      have n1_ := Aside0.mk (blk_below (g := gb350) (o := .cells #[.string a0_0, .int .i64 a0_1, .int .i64 a0_2, .int .i64 a0_3] 29 (0, 0)) (by (with_reducible repeat (first | refine blk_drewN ?_ _ | refine blk_drew ?_ | refine blk_alloc ?_ _)); exact BK350.out) hb)
      have n2_ := Aside0.mk (blk_below (g := gb351) (o := .cells #[.int .i64 a0_5, .int .i64 a0_6] 41 (0, 0)) (by (with_reducible repeat (first | refine blk_drewN ?_ _ | refine blk_drew ?_ | refine blk_alloc ?_ _)); exact BK351.out) hb)
      have n3_ := Aside0.mk (below_step (by repeat (first | (with_reducible first | exact HB.out | apply below_alloc | apply pw_below_drewN | apply below_drew1 | refine below_set ?_ GE349.out | refine below_set ?_ GE350.out | refine below_set ?_ GE351.out) | exact HB.out)) hb)
      clear BK349
      clear BK350
      clear BK351
      clear HB
      have BK349 := n0_
      have BK350 := n1_
      have BK351 := n2_
      have HB := n3_
      clear n0_ n1_ n2_ n3_
      (try clear hb)
      (try clear hb2)
      (try clear hk)
      (try clear hi)
      refine hK.out _ _ ⟨(blk_cell BK350.out 0).trans rfl, (blk_cell BK350.out 1).trans rfl, (blk_cell BK350.out 2).trans rfl, (blk_cell BK350.out 3).trans rfl⟩ (fun hHeld => ?_)
      clear hK K
      refine norm_ (a' := ?_) ?_ ?_
      rotate_left
      · show Act.put _ (some 25) _ = _
        simp only [Act.put, List.setIfInBounds_toArray, List.set_cons_zero, List.set_cons_succ, i64_w, i32_w]
        rfl
      refine pure_ (i := 3) (N := some 26) (v := ?_) (a' := ?_) #[true, true, true, true, false, false, false, false, false, false, false, false, false, false, false, false, false, false, false, false, false] rfl rfl (any_of HT_.out (by kernel_rfl)) (fun _ _ _ h => h) (Or.inl ⟨by rfl, ?_⟩) ?_ ?_
      rotate_left
      · intro w'
        go_simp
        with_reducible rfl
      rotate_left
      · simp only [Act.put, List.setIfInBounds_toArray, List.set_cons_zero, List.set_cons_succ, i64_w, i32_w]
        rfl
      refine pure_ (i := 4) (N := some 27) (v := ?_) (a' := ?_) #[true, true, true, true, true, false, false, false, false, false, false, false, false, false, false, false, false, false, false, false, false] rfl rfl (any_of HT_.out (by kernel_rfl)) (fun _ _ _ h => h) (Or.inl ⟨by rfl, ?_⟩) ?_ ?_
      rotate_left
      · intro w'
        go_simp
        with_reducible rfl
      rotate_left
      · simp only [Act.put, List.setIfInBounds_toArray, List.set_cons_zero, List.set_cons_succ, i64_w, i32_w]
        rfl
      refine pure_ (i := 5) (N := some 28) (v := undef) (a' := ?_) #[true, true, true, true, true, true, false, false, false, false, false, false, false, false, false, false, false, false, false, false, false] rfl rfl (any_of HT_.out (by kernel_rfl)) (fun _ _ _ h => h) (Or.inr ⟨by rfl, rfl⟩) ?_ ?_
      rotate_left
      · simp only [Act.put, List.setIfInBounds_toArray, List.set_cons_zero, List.set_cons_succ, i64_w, i32_w]
        rfl
      refine pure_ (i := 6) (N := some 29) (v := undef) (a' := ?_) #[true, true, true, true, true, true, true, false, false, false, false, false, false, false, false, false, false, false, false, false, false] rfl rfl (any_of HT_.out (by kernel_rfl)) (fun _ _ _ h => h) (Or.inr ⟨by rfl, rfl⟩) ?_ ?_
      rotate_left
      · simp only [Act.put, List.setIfInBounds_toArray, List.set_cons_zero, List.set_cons_succ, i64_w, i32_w]
        rfl
      refine pure_ (i := 7) (N := some 30) (v := undef) (a' := ?_) #[true, true, true, true, true, true, true, true, false, false, false, false, false, false, false, false, false, false, false, false, false] rfl rfl (any_of HT_.out (by kernel_rfl)) (fun _ _ _ h => h) (Or.inr ⟨by rfl, rfl⟩) ?_ ?_
      rotate_left
      · simp only [Act.put, List.setIfInBounds_toArray, List.set_cons_zero, List.set_cons_succ, i64_w, i32_w]
        rfl
      refine pure_ (i := 8) (N := some 31) (v := undef) (a' := ?_) #[true, true, true, true, true, true, true, true, true, false, false, false, false, false, false, false, false, false, false, false, false] rfl rfl (any_of HT_.out (by kernel_rfl)) (fun _ _ _ h => h) (Or.inr ⟨by rfl, rfl⟩) ?_ ?_
      rotate_left
      · simp only [Act.put, List.setIfInBounds_toArray, List.set_cons_zero, List.set_cons_succ, i64_w, i32_w]
        rfl
      refine pure_ (i := 9) (N := some 32) (v := undef) (a' := ?_) #[true, true, true, true, true, true, true, true, true, true, false, false, false, false, false, false, false, false, false, false, false] rfl rfl (any_of HT_.out (by kernel_rfl)) (fun _ _ _ h => h) (Or.inr ⟨by rfl, rfl⟩) ?_ ?_
      rotate_left
      · simp only [Act.put, List.setIfInBounds_toArray, List.set_cons_zero, List.set_cons_succ, i64_w, i32_w]
        rfl
      refine pure_ (i := 10) (N := some 33) (v := undef) (a' := ?_) #[true, true, true, true, true, true, true, true, true, true, true, false, false, false, false, false, false, false, false, false, false] rfl rfl (any_of HT_.out (by kernel_rfl)) (fun _ _ _ h => h) (Or.inr ⟨by rfl, rfl⟩) ?_ ?_
      rotate_left
      · simp only [Act.put, List.setIfInBounds_toArray, List.set_cons_zero, List.set_cons_succ, i64_w, i32_w]
        rfl
      refine pure_ (i := 11) (N := some 34) (v := undef) (a' := ?_) #[true, true, true, true, true, true, true, true, true, true, true, true, false, false, false, false, false, false, false, false, false] rfl rfl (any_of HT_.out (by kernel_rfl)) (fun _ _ _ h => h) (Or.inr ⟨by rfl, rfl⟩) ?_ ?_
      rotate_left
      · simp only [Act.put, List.setIfInBounds_toArray, List.set_cons_zero, List.set_cons_succ, i64_w, i32_w]
        rfl
      refine pure_ (i := 12) (N := some 35) (v := undef) (a' := ?_) #[true, true, true, true, true, true, true, true, true, true, true, true, true, false, false, false, false, false, false, false, false] rfl rfl (any_of HT_.out (by kernel_rfl)) (fun _ _ _ h => h) (Or.inr ⟨by rfl, rfl⟩) ?_ ?_
      rotate_left
      · simp only [Act.put, List.setIfInBounds_toArray, List.set_cons_zero, List.set_cons_succ, i64_w, i32_w]
        rfl
      refine pure_ (i := 13) (N := some 36) (v := undef) (a' := ?_) #[true, true, true, true, true, true, true, true, true, true, true, true, true, true, false, false, false, false, false, false, false] rfl rfl (any_of HT_.out (by kernel_rfl)) (fun _ _ _ h => h) (Or.inr ⟨by rfl, rfl⟩) ?_ ?_
      rotate_left
      · simp only [Act.put, List.setIfInBounds_toArray, List.set_cons_zero, List.set_cons_succ, i64_w, i32_w]
        rfl
      refine pure_ (i := 14) (N := some 37) (v := undef) (a' := ?_) #[true, true, true, true, true, true, true, true, true, true, true, true, true, true, true, false, false, false, false, false, false] rfl rfl (any_of HT_.out (by kernel_rfl)) (fun _ _ _ h => h) (Or.inr ⟨by rfl, rfl⟩) ?_ ?_
      rotate_left
      · simp only [Act.put, List.setIfInBounds_toArray, List.set_cons_zero, List.set_cons_succ, i64_w, i32_w]
        rfl
      refine pure_ (i := 15) (N := some 38) (v := undef) (a' := ?_) #[true, true, true, true, true, true, true, true, true, true, true, true, true, true, true, true, false, false, false, false, false] rfl rfl (any_of HT_.out (by kernel_rfl)) (fun _ _ _ h => h) (Or.inr ⟨by rfl, rfl⟩) ?_ ?_
      rotate_left
      · simp only [Act.put, List.setIfInBounds_toArray, List.set_cons_zero, List.set_cons_succ, i64_w, i32_w]
        rfl
      refine pure_ (i := 16) (N := some 39) (v := ?_) (a' := ?_) #[true, true, true, true, true, true, true, true, true, true, true, true, true, true, true, true, true, false, false, false, false] rfl rfl (any_of HT_.out (by kernel_rfl)) (fun _ _ _ h => h) (Or.inl ⟨by rfl, ?_⟩) ?_ ?_
      rotate_left
      · intro w'
        go_simp
        with_reducible rfl
      rotate_left
      · simp only [Act.put, List.setIfInBounds_toArray, List.set_cons_zero, List.set_cons_succ, i64_w, i32_w]
        rfl
      refine pure_ (i := 17) (N := some 40) (v := ?_) (a' := ?_) #[true, true, true, true, true, true, true, true, true, true, true, true, true, true, true, true, true, true, false, false, false] rfl rfl (any_of HT_.out (by kernel_rfl)) (fun _ _ _ h => h) (Or.inl ⟨by rfl, ?_⟩) ?_ ?_
      rotate_left
      · intro w'
        go_simp
        with_reducible rfl
      rotate_left
      · simp only [Act.put, List.setIfInBounds_toArray, List.set_cons_zero, List.set_cons_succ, i64_w, i32_w]
        rfl
      refine pure_ (i := 18) (N := some 41) (v := undef) (a' := ?_) #[true, true, true, true, true, true, true, true, true, true, true, true, true, true, true, true, true, true, true, false, false] rfl rfl (any_of HT_.out (by kernel_rfl)) (fun _ _ _ h => h) (Or.inr ⟨by rfl, rfl⟩) ?_ ?_
      rotate_left
      · simp only [Act.put, List.setIfInBounds_toArray, List.set_cons_zero, List.set_cons_succ, i64_w, i32_w]
        rfl
      refine pure_ (i := 19) (N := some 42) (v := ?_) (a' := ?_) #[true, true, true, true, true, true, true, true, true, true, true, true, true, true, true, true, true, true, true, true, false] rfl rfl (any_of HT_.out (by kernel_rfl)) (fun _ _ _ h => h) (Or.inl ⟨by rfl, ?_⟩) ?_ ?_
      rotate_left
      · intro w'
        go_simp
        with_reducible rfl
      rotate_left
      · simp only [Act.put, List.setIfInBounds_toArray, List.set_cons_zero, List.set_cons_succ, i64_w, i32_w]
        rfl
      refine pure_ (i := 20) (N := some 2) (v := ?_) (a' := ?_) #[true, true, true, true, true, true, true, true, true, true, true, true, true, true, true, true, true, true, true, true, true] rfl rfl (any_of HT_.out (by kernel_rfl)) (fun _ _ _ h => h) (Or.inl ⟨by rfl, ?_⟩) ?_ ?_
      rotate_left
      · intro w'
        go_simp
        with_reducible rfl
      rotate_left
      · simp only [Act.put, List.setIfInBounds_toArray, List.set_cons_zero, List.set_cons_succ, i64_w, i32_w]
        rfl
      refine done_ (done_of HT_.out (by kernel_rfl)) ?_
      try go_wp2
      go_ret
      exact ⟨by first | rfl | (simp [errW_none, errW_some] <;> rfl) | (simp [*, errW_none, errW_some] <;> rfl), by repeat (first | (with_reducible first | exact HB.out | apply below_alloc | apply pw_below_drewN | apply below_drew1 | refine below_set ?_ GE349.out | refine below_set ?_ GE350.out | refine below_set ?_ GE351.out) | exact HB.out)⟩

end Go.Proofs.Ytmfbgcimfmgobaa.Print
