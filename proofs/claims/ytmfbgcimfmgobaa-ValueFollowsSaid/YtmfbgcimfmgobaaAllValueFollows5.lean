/- Merged by a program of this session (wip/gprint/merge.py): what this claim needs of this session's texts, each part as it was. -/
import Derived.Test.YtmfbgcimfmgobaaAllValueFollows4

-- of YtmfbgcimfmgobaaPrint27
-- Written by a program of this session (wip/gprint/gprint.py) over the kit's print; the parts marked GIVEN by hand.
namespace Go.Proofs.Ytmfbgcimfmgobaa.Print
open Go.RowKit Go.Proofs.YtmfbgcimfmgobaaW.PrintWords Go.Proofs.YtmfbgcimfmgobaaW.PrintLast Go.Proofs.YtmfbgcimfmgobaaW.PrintMore
attribute [local go_sem] max2_int min2_int max_two min_two max_three min_three max_four min_four   -- for this text's walks alone
set_option linter.unusedVariables false
set_option linter.unusedSimpArgs false
/-! ### riverbankref08_Of: function 53 -/
def riverbankref08_Of.l0 : Nat → ByteArray → Int → List (S41) → List (S41) → Int → Option ((List (S41)))
  | 0, _, _, _, _, _ => none
  | k + 1, x0, x1, x5, x6, x7 => if x7 < (x5.length : Int) then (if 0 ≤ x7 then (if 0 ≤ ((rd_T41 x5 x7).f1) then (if ((rd_T41 x5 x7).f1) < (x0.size : Int) then ((riverbankref02_Kind.f k (bt x0 ((rd_T41 x5 x7).f1))).bind fun t275 => (if t275 = 75 then (riverbankref08_Of.l0 k x0 x1 x5 x6 (wrap64 (x7 + 1))) else ((riverbankref06_Moved.f x0 ((rd_T41 x5 x7).f0) ((rd_T41 x5 x7).f1)).bind fun t277 => ((riverbankref08_Safe.f k t277 x1).bind fun t278 => (if t278 = true then (if x6.length < 8796093022208 then (riverbankref08_Of.l0 k x0 x1 x5 (x6 ++ [(⟨(rd_T41 x5 x7).f0, (rd_T41 x5 x7).f1⟩ : S41)]) (wrap64 (x7 + 1))) else (none)) else (riverbankref08_Of.l0 k x0 x1 x5 x6 (wrap64 (x7 + 1)))))))) else (none)) else (none)) else (none)) else (some x6)
def riverbankref08_Of.f (k : Nat) (a0 : ByteArray) (a1 : Int) : Option ((List (S41))) := (riverbankref06_Of.f k a0 a1).bind fun t271 => (riverbankref08_Of.l0 k a0 a1 t271 ([] : List (S41)) 0)
theorem riverbankref08_Of.mono_l : ∀ k, (∀ y0 y1 y2 y3 y4, LeO (riverbankref08_Of.l0 k y0 y1 y2 y3 y4) (riverbankref08_Of.l0 (k + 1) y0 y1 y2 y3 y4))
  | 0 => fun _ _ _ _ _ r h => by simp [riverbankref08_Of.l0] at h
  | k + 1 => by
    have ih0 := riverbankref08_Of.mono_l k
    · intro y0 y1 y2 y3 y4
      unfold riverbankref08_Of.l0
      repeat' first
      | (with_reducible exact ih0 _ _ _ _ _)
      | (with_reducible exact riverbankref02_Kind.mono _ _)
      | (with_reducible exact riverbankref06_Of.mono _ _ _)
      | (with_reducible exact riverbankref08_Safe.mono _ _ _)
      | (with_reducible exact LeO.refl _)
      | (with_reducible exact LeO.none _)
      | (with_reducible refine LeO.ite ?_ ?_)
      | (with_reducible refine LeO.bind ?_ (fun _ => ?_))
      | exact ih0 _ _ _ _ _
      | exact riverbankref02_Kind.mono _ _
      | exact riverbankref06_Of.mono _ _ _
      | exact riverbankref08_Safe.mono _ _ _
      | exact LeO.none _
      | refine LeO.ite ?_ ?_
      | refine LeO.bind ?_ (fun _ => ?_)
theorem riverbankref08_Of.mono : ∀ a0 a1 k, LeO (riverbankref08_Of.f k a0 a1) (riverbankref08_Of.f (k + 1) a0 a1) := by
  intro a0 a1 k
  have ih0 := riverbankref08_Of.mono_l k
  unfold riverbankref08_Of.f
  repeat' first
      | (with_reducible exact ih0 _ _ _ _ _)
      | (with_reducible exact riverbankref02_Kind.mono _ _)
      | (with_reducible exact riverbankref06_Of.mono _ _ _)
      | (with_reducible exact riverbankref08_Safe.mono _ _ _)
      | (with_reducible exact LeO.refl _)
      | (with_reducible exact LeO.none _)
      | (with_reducible refine LeO.ite ?_ ?_)
      | (with_reducible refine LeO.bind ?_ (fun _ => ?_))
      | exact ih0 _ _ _ _ _
      | exact riverbankref02_Kind.mono _ _
      | exact riverbankref06_Of.mono _ _ _
      | exact riverbankref08_Safe.mono _ _ _
      | exact LeO.none _
      | refine LeO.ite ?_ ?_
      | refine LeO.bind ?_ (fun _ => ?_)
set_option maxHeartbeats 8000000 in
set_option maxRecDepth 100000 in
theorem riverbankref08_Of.calls (k : Nat) (a0 : ByteArray) (a1 : Int) (r : List (S41)) (w : World) (h : riverbankref08_Of.f k a0 a1 = some r) :
    Calls Try.prog 53 #[.string a0, .int .i64 a1] w fun e w' => ∃ v0_ : Value, e = .returned (v0_) ∧ Kd.R k41 41 w' w.heap.size (fun _ => True) v0_ r ∧ Below w.heap.size w w' := by
  have hu41 := Try.underlying41
  have HB := Aside0.mk (Below.refl w.heap.size w)
  have H : ((riverbankref06_Of.f k a0 a1).bind fun t271 => (riverbankref08_Of.l0 k a0 a1 t271 ([] : List (S41)) 0)) = some r := h
  clear h
  replace H := Option.bind_eq_some_iff.mp H
  obtain ⟨t271, A30, H⟩ := H
  replace H : (riverbankref08_Of.l0 k a0 a1 t271 ([] : List (S41)) 0) = some r := H
  have A3 := Aside0.mk A30
  clear A30
  have H' := Aside0.mk H
  clear H
  go_enter Try.func53, Try.ntmps53
  go_wp2_with (first | ((with_reducible refine gate_callee (f := 74) rfl ?_); refine goesL_ (some 10) rfl rfl Try.func74 (by kernel_rfl) rfl #[.string a0, .int .i64 a1] rfl (by (try simp only [List.map_toArray, List.map_cons, List.map_nil]); first | done | rfl | (simp only [List.length_drop, List.length_take]; rfl)) ?_; (with_reducible refine (riverbankref06_Of.calls k a0 a1 t271 _ A3.out).mono ?_); rintro e w4 ⟨v272, rfl, ho0, hb⟩; refine ⟨_, rfl, ?_⟩; have n0_ := Aside0.mk (Kd.R_lower ho0 (below_size (by repeat (first | (with_reducible first | exact HB.out | apply below_alloc | apply pw_below_drewN | apply below_drew1) | exact HB.out)))); have n1_ := Aside0.mk (below_step (by repeat (first | (with_reducible first | exact HB.out | apply below_alloc | apply pw_below_drewN | apply below_drew1) | exact HB.out)) hb); clear HB; have HO273 := n0_; have HB := n1_; clear n0_ n1_; (try clear hb); (try clear hb2); (try clear hk); (try clear hi); (try clear ho0)))
  go_loopg [6, 7] k (fun kq v6 v7 w' => ∃ (x6_1 : List (S41)) (x7_1 : Int), v7 = .int .i64 x7_1 ∧ Aside0 (riverbankref08_Of.l0 kq a0 a1 t271 x6_1 x7_1 = some r) ∧ Aside0 (kq ≤ k) ∧ Aside0 (Kd.R k41 41 w' w.heap.size (fun k_ => some k_ ≠ (v6 : Value).ownBlock) v272 t271) ∧ Aside0 (Kd.R k41 41 w' w.heap.size (fun k_ => some k_ ≠ (v272 : Value).ownBlock) v6 x6_1) ∧ Aside0 (Below w.heap.size w w'))
  case atStart => exact ⟨(([] : List (S41))), (0), (by first | rfl | (simp; done) | (simp [*]; done)), H', ⟨Nat.le_refl _⟩, ⟨by (with_reducible repeat (first | apply Kd.R_alloc | apply Kd.R_drewN | apply Kd.R_drew)); exact Kd.R_mono HO273.out (fun _ hk => (by simp [Value.ownBlock]))⟩, ⟨by first | exact Kd.R_nil _ _ _ _ _ | exact Kd.N_nil _ _ _ _ _ | exact Kd.V_nil _ _ _ _ _ | exact Kd.Q_nil _ _ _ _ _ | exact Kd.S_nil _ _ _ _ _⟩, ⟨by repeat (first | (with_reducible first | exact HB.out | apply below_alloc | apply pw_below_drewN | apply below_drew1) | exact HB.out)⟩⟩
  case round =>
    clear H'
    try clear p2
    obtain ⟨x6_1, x7_1, rfl, HA, HK1, HO_5, HO_6, HB⟩ := hrel
    cases gk with
    | zero => exact absurd HA.out (by simp [riverbankref08_Of.l0])
    | succ k1 =>
      have H := HA.out
      clear HA
      simp only [riverbankref08_Of.l0] at H
      by_cases c5 : x7_1 < (t271.length : Int)
      · rw [if_pos c5] at H
        have c5b0 : decide (x7_1 < (t271.length : Int)) = true := decide_eq_true c5
        clear c5
        by_cases c6 : 0 ≤ x7_1
        · rw [if_pos c6] at H
          have c6b0 : decide (0 ≤ x7_1) = true := decide_eq_true c6
          clear c6
          by_cases c7 : 0 ≤ ((rd_T41 t271 x7_1).f1)
          · rw [if_pos c7] at H
            have c7b0 : decide (0 ≤ ((rd_T41 t271 x7_1).f1)) = true := decide_eq_true c7
            clear c7
            by_cases c8 : ((rd_T41 t271 x7_1).f1) < (a0.size : Int)
            · rw [if_pos c8] at H
              have c8b0 : decide (((rd_T41 t271 x7_1).f1) < (a0.size : Int)) = true := decide_eq_true c8
              clear c8
              replace H := Option.bind_eq_some_iff.mp H
              obtain ⟨t275, A100, H⟩ := H
              replace H : (if t275 = 75 then (riverbankref08_Of.l0 k1 a0 a1 t271 x6_1 (wrap64 (x7_1 + 1))) else ((riverbankref06_Moved.f a0 ((rd_T41 t271 x7_1).f0) ((rd_T41 t271 x7_1).f1)).bind fun t277 => ((riverbankref08_Safe.f k1 t277 a1).bind fun t278 => (if t278 = true then (if x6_1.length < 8796093022208 then (riverbankref08_Of.l0 k1 a0 a1 t271 (x6_1 ++ [(⟨(rd_T41 t271 x7_1).f0, (rd_T41 t271 x7_1).f1⟩ : S41)]) (wrap64 (x7_1 + 1))) else (none)) else (riverbankref08_Of.l0 k1 a0 a1 t271 x6_1 (wrap64 (x7_1 + 1))))))) = some r := H
              have A10 := Aside0.mk A100
              clear A100
              by_cases c11 : t275 = 75
              · rw [if_pos c11] at H
                have c11b0 : (t275 == 75) = true := beq_iff_eq.mpr c11
                have c11b1 : (t275 != 75) = false := bne_eq_false_iff_eq.mpr c11
                clear c11
                have H' := Aside0.mk H
                clear H
                obtain ⟨Ao12, co12, eo12⟩ := Kd.R_slice HO_5.out
                subst eo12
                have p274 : 0 ≤ (x7_1 : Int) := of_decide_eq_true (by first | (with_reducible assumption) | assumption)
                have q274 : x7_1 < (t271.length : Int) := of_decide_eq_true (by first | (with_reducible assumption) | assumption)
                obtain ⟨ad274, e274, hx274_0, hx274_1⟩ := at_T41 (Kd.R_reads' HO_5.out).2.2 x7_1 p274 q274
                cases e274
                replace p274 := eq_true p274
                replace q274 := eq_true q274
                have p9 : 0 ≤ (((rd_T41 t271 x7_1).f1) : Int) := of_decide_eq_true (by first | (with_reducible assumption) | assumption)
                have q9 : ((rd_T41 t271 x7_1).f1) < (a0.size : Int) := of_decide_eq_true (by first | (with_reducible assumption) | assumption)
                have hx9 := bt_at a0 ((rd_T41 t271 x7_1).f1)
                replace p9 := eq_true p9
                replace q9 := eq_true q9
                go_wp2_with (first | ((with_reducible refine gate_callee (f := 57) rfl ?_); refine goesL_ (some 24) rfl rfl Try.func57 (by kernel_rfl) rfl #[.int .u8 (bt a0 ((rd_T41 t271 x7_1).f1))] rfl (by (try simp only [List.map_toArray, List.map_cons, List.map_nil]); first | done | rfl | (simp only [List.length_drop, List.length_take]; rfl)) ?_; (with_reducible refine (riverbankref02_Kind.calls k1 (bt a0 ((rd_T41 t271 x7_1).f1)) t275 _ A10.out).mono ?_); rintro e w' ⟨rfl, ⟨nd, rfl⟩⟩; refine ⟨_, rfl, ?_⟩))
                go_roundg k1
                case measure => have := HK1.out; omega
                case rel => exact ⟨(x6_1), (wrap64 (x7_1 + 1)), (by first | rfl | (simp; done) | (simp [*]; done)), H', ⟨by have := HK1.out; omega⟩, ⟨by (with_reducible repeat (first | apply Kd.R_alloc | apply Kd.R_drewN | apply Kd.R_drew)); exact HO_5.out⟩, ⟨by (with_reducible repeat (first | apply Kd.R_alloc | apply Kd.R_drewN | apply Kd.R_drew)); exact HO_6.out⟩, ⟨by repeat (first | (with_reducible first | exact HB.out | apply below_alloc | apply pw_below_drewN | apply below_drew1) | exact HB.out)⟩⟩
              · rw [if_neg c11] at H
                have c11b0 : (t275 == 75) = false := beq_eq_false_iff_ne.mpr c11
                have c11b1 : (t275 != 75) = true := bne_iff_ne.mpr c11
                replace H := Option.bind_eq_some_iff.mp H
                obtain ⟨t277, A130, H⟩ := H
                replace H : ((riverbankref08_Safe.f k1 t277 a1).bind fun t278 => (if t278 = true then (if x6_1.length < 8796093022208 then (riverbankref08_Of.l0 k1 a0 a1 t271 (x6_1 ++ [(⟨(rd_T41 t271 x7_1).f0, (rd_T41 t271 x7_1).f1⟩ : S41)]) (wrap64 (x7_1 + 1))) else (none)) else (riverbankref08_Of.l0 k1 a0 a1 t271 x6_1 (wrap64 (x7_1 + 1))))) = some r := H
                have A13 := Aside0.mk A130
                clear A130
                replace H := Option.bind_eq_some_iff.mp H
                obtain ⟨t278, A140, H⟩ := H
                replace H : (if t278 = true then (if x6_1.length < 8796093022208 then (riverbankref08_Of.l0 k1 a0 a1 t271 (x6_1 ++ [(⟨(rd_T41 t271 x7_1).f0, (rd_T41 t271 x7_1).f1⟩ : S41)]) (wrap64 (x7_1 + 1))) else (none)) else (riverbankref08_Of.l0 k1 a0 a1 t271 x6_1 (wrap64 (x7_1 + 1)))) = some r := H
                have A14 := Aside0.mk A140
                clear A140
                by_cases c15 : t278 = true
                · subst c15
                  have H1 : (if x6_1.length < 8796093022208 then (riverbankref08_Of.l0 k1 a0 a1 t271 (x6_1 ++ [(⟨(rd_T41 t271 x7_1).f0, (rd_T41 t271 x7_1).f1⟩ : S41)]) (wrap64 (x7_1 + 1))) else (none)) = some r := by rw [if_pos rfl] at H; exact H
                  clear H
                  have H := H1
                  clear H1
                  by_cases c16 : x6_1.length < 8796093022208
                  · rw [if_pos c16] at H
                    have LMc16 := Aside0.mk c16
                    clear c16
                    obtain ⟨y280, hy280⟩ : ∃ y_ : List (S41), y_ = (x6_1 ++ [(⟨(rd_T41 t271 x7_1).f0, (rd_T41 t271 x7_1).f1⟩ : S41)]) := ⟨_, rfl⟩
                    replace H : (riverbankref08_Of.l0 k1 a0 a1 t271 y280 (wrap64 (x7_1 + 1))) = some r := by first | (rw [hy280]; with_reducible exact H) | (have H2_ := (Option.bind_some _ _).symm.trans H; rw [hy280]; with_reducible exact H2_) | (have H2_ := (Option.bind_some _ _).symm.trans H; with_reducible exact H2_) | with_reducible exact H | (rw [hy280]; exact H) | exact H
                    have Ny280 := Aside0.mk hy280
                    clear hy280
                    have H' := Aside0.mk H
                    clear H
                    obtain ⟨Ao17, co17, eo17⟩ := Kd.R_slice HO_5.out
                    subst eo17
                    have p274 : 0 ≤ (x7_1 : Int) := of_decide_eq_true (by first | (with_reducible assumption) | assumption)
                    have q274 : x7_1 < (t271.length : Int) := of_decide_eq_true (by first | (with_reducible assumption) | assumption)
                    obtain ⟨ad274, e274, hx274_0, hx274_1⟩ := at_T41 (Kd.R_reads' HO_5.out).2.2 x7_1 p274 q274
                    cases e274
                    replace p274 := eq_true p274
                    replace q274 := eq_true q274
                    have p9 : 0 ≤ (((rd_T41 t271 x7_1).f1) : Int) := of_decide_eq_true (by first | (with_reducible assumption) | assumption)
                    have q9 : ((rd_T41 t271 x7_1).f1) < (a0.size : Int) := of_decide_eq_true (by first | (with_reducible assumption) | assumption)
                    have hx9 := bt_at a0 ((rd_T41 t271 x7_1).f1)
                    replace p9 := eq_true p9
                    replace q9 := eq_true q9
                    go_wp2_with (first | ((with_reducible refine gate_callee (f := 57) rfl ?_); refine goesL_ (some 24) rfl rfl Try.func57 (by kernel_rfl) rfl #[.int .u8 (bt a0 ((rd_T41 t271 x7_1).f1))] rfl (by (try simp only [List.map_toArray, List.map_cons, List.map_nil]); first | done | rfl | (simp only [List.length_drop, List.length_take]; rfl)) ?_; (with_reducible refine (riverbankref02_Kind.calls k1 (bt a0 ((rd_T41 t271 x7_1).f1)) t275 _ A10.out).mono ?_); rintro e w' ⟨rfl, ⟨nd, rfl⟩⟩; refine ⟨_, rfl, ?_⟩; have p276 : 0 ≤ (x7_1 : Int) := of_decide_eq_true (by first | (with_reducible assumption) | assumption); have q276 : x7_1 < (t271.length : Int) := of_decide_eq_true (by first | (with_reducible assumption) | assumption); obtain ⟨ad276, e276, hx276_0, hx276_1⟩ := at_T41 (Kd.R_reads' HO_5.out).2.2 x7_1 p276 q276; obtain rfl : ad274 = ad276 := (by injection e276); replace p276 := eq_true p276; replace q276 := eq_true q276) | (go_at_call 75; (with_reducible refine (riverbankref06_Moved.calls a0 ((rd_T41 t271 x7_1).f0) ((rd_T41 t271 x7_1).f1) t277 _ A13.out).mono ?_); rintro e w18 ⟨rfl, hb⟩; have n0_ := Aside0.mk (Kd.R_below (by (with_reducible repeat (first | apply Kd.R_alloc | apply Kd.R_drewN | apply Kd.R_drew)); exact HO_5.out) hb); have n1_ := Aside0.mk (Kd.R_below (by (with_reducible repeat (first | apply Kd.R_alloc | apply Kd.R_drewN | apply Kd.R_drew)); exact HO_6.out) hb); have n2_ := Aside0.mk (below_step (by repeat (first | (with_reducible first | exact HB.out | apply below_alloc | apply pw_below_drewN | apply below_drew1) | exact HB.out)) hb); clear HO_5; clear HO_6; clear HB; have HO_5 := n0_; have HO_6 := n1_; have HB := n2_; clear n0_ n1_ n2_; (try clear hb); (try clear hb2); (try clear hk); (try clear hi)) | (go_at_call 55; (with_reducible refine (riverbankref08_Safe.calls k1 t277 a1 true _ A14.out).mono ?_); rintro e w19 ⟨rfl, hb⟩; have n0_ := Aside0.mk (Kd.R_below (by (with_reducible repeat (first | apply Kd.R_alloc | apply Kd.R_drewN | apply Kd.R_drew)); exact HO_5.out) hb); have n1_ := Aside0.mk (Kd.R_below (by (with_reducible repeat (first | apply Kd.R_alloc | apply Kd.R_drewN | apply Kd.R_drew)); exact HO_6.out) hb); have n2_ := Aside0.mk (below_step (by repeat (first | (with_reducible first | exact HB.out | apply below_alloc | apply pw_below_drewN | apply below_drew1) | exact HB.out)) hb); clear HO_5; clear HO_6; clear HB; have HO_5 := n0_; have HO_6 := n1_; have HB := n2_; clear n0_ n1_ n2_; (try clear hb); (try clear hb2); (try clear hk); (try clear hi); have p279 : 0 ≤ (x7_1 : Int) := of_decide_eq_true (by first | (with_reducible assumption) | assumption); have q279 : x7_1 < (t271.length : Int) := of_decide_eq_true (by first | (with_reducible assumption) | assumption); obtain ⟨ad279, e279, hx279_0, hx279_1⟩ := at_T41 (Kd.R_reads' HO_5.out).2.2 x7_1 p279 q279; obtain rfl : ad274 = ad279 := (by injection e279); replace p279 := eq_true p279; replace q279 := eq_true q279) | ((with_reducible refine gate_builtin (b := .append) (xs := #[.tmp 36, .tmp 41]) rfl ?_); at_builtin; refine Kd.R_append k41 (w0 := w) w.heap.size rfl (.tmp 36) (.tmp 41) 46 41 (.agg #[(.int .i64 0), (.int .i64 0)]) 16 rfl Try.underlying46 info41 rfl (by decide) (by omega) u6 x6_1 (⟨(rd_T41 t271 x7_1).f0, (rd_T41 t271 x7_1).f1⟩ : S41) [.int .i64 ((rd_T41 t271 x7_1).f0), .int .i64 ((rd_T41 t271 x7_1).f1)] (fun k_ => some k_ ≠ (.slice (some ad274) t271.length co17 : Value).ownBlock) (fun _ => False) rfl rfl ?aP (fun _ hk => hk.elim) ?aF ?aO ?aB ?aS ?aL ?_; (case aP => exact k41_mkM _ _ _ (⟨(rd_T41 t271 x7_1).f0, (rd_T41 t271 x7_1).f1⟩ : S41)); (case aB => exact (by repeat (first | (with_reducible first | exact HB.out | apply below_alloc | apply pw_below_drewN | apply below_drew1) | exact HB.out))); (case aF => exact (fun k_ hk => Kd.fresh' (Kd.R_lt (by (with_reducible repeat (first | apply Kd.R_alloc | apply Kd.R_drewN | apply Kd.R_drew)); exact HO_5.out)) k_ hk)); (case aO => exact (by (with_reducible repeat (first | apply Kd.R_alloc | apply Kd.R_drewN | apply Kd.R_drew)); exact HO_6.out)); (case aS => exact (below_size (by repeat (first | (with_reducible first | exact HB.out | apply below_alloc | apply pw_below_drewN | apply below_drew1) | exact HB.out)))); (case aL => have := LMc16.out; omega); intro v281 w20 ho hb hg hat; rw [← Ny280.out] at ho; have n0_ := Aside0.mk (Kd.R_after (ok := (fun _ => True)) (by (with_reducible repeat (first | apply Kd.R_alloc | apply Kd.R_drewN | apply Kd.R_drew)); exact Kd.R_mono HO_5.out (fun _ hk => ⟨trivial, hk⟩)) hg hat); have n1_ := Aside0.mk (hb); have n2_ := Aside0.mk (ho); clear HO_5; clear HB; clear HO_6; have HO_5 := n0_; have HB := n1_; have HO282 := n2_; clear n0_ n1_ n2_; clear ho hb hg hat))
                    go_roundg k1
                    case measure => have := HK1.out; omega
                    case rel => exact ⟨(y280), (wrap64 (x7_1 + 1)), (by first | rfl | (simp; done) | (simp [*]; done)), H', ⟨by have := HK1.out; omega⟩, ⟨by (with_reducible repeat (first | apply Kd.R_alloc | apply Kd.R_drewN | apply Kd.R_drew)); exact Kd.R_mono HO_5.out (fun _ hk => hk.2)⟩, ⟨by (with_reducible repeat (first | apply Kd.R_alloc | apply Kd.R_drewN | apply Kd.R_drew)); exact HO282.out⟩, ⟨by repeat (first | (with_reducible first | exact HB.out | apply below_alloc | apply pw_below_drewN | apply below_drew1) | exact HB.out)⟩⟩
                  · rw [if_neg c16] at H
                    exact absurd H (by simp)
                · replace c15 := Bool.eq_false_iff.mpr c15
                  subst c15
                  have H1 : (riverbankref08_Of.l0 k1 a0 a1 t271 x6_1 (wrap64 (x7_1 + 1))) = some r := by rw [if_neg (show ¬ (false = true) by decide)] at H; exact H
                  clear H
                  have H := H1
                  clear H1
                  have H' := Aside0.mk H
                  clear H
                  obtain ⟨Ao21, co21, eo21⟩ := Kd.R_slice HO_5.out
                  subst eo21
                  have p274 : 0 ≤ (x7_1 : Int) := of_decide_eq_true (by first | (with_reducible assumption) | assumption)
                  have q274 : x7_1 < (t271.length : Int) := of_decide_eq_true (by first | (with_reducible assumption) | assumption)
                  obtain ⟨ad274, e274, hx274_0, hx274_1⟩ := at_T41 (Kd.R_reads' HO_5.out).2.2 x7_1 p274 q274
                  cases e274
                  replace p274 := eq_true p274
                  replace q274 := eq_true q274
                  have p9 : 0 ≤ (((rd_T41 t271 x7_1).f1) : Int) := of_decide_eq_true (by first | (with_reducible assumption) | assumption)
                  have q9 : ((rd_T41 t271 x7_1).f1) < (a0.size : Int) := of_decide_eq_true (by first | (with_reducible assumption) | assumption)
                  have hx9 := bt_at a0 ((rd_T41 t271 x7_1).f1)
                  replace p9 := eq_true p9
                  replace q9 := eq_true q9
                  go_wp2_with (first | ((with_reducible refine gate_callee (f := 57) rfl ?_); refine goesL_ (some 24) rfl rfl Try.func57 (by kernel_rfl) rfl #[.int .u8 (bt a0 ((rd_T41 t271 x7_1).f1))] rfl (by (try simp only [List.map_toArray, List.map_cons, List.map_nil]); first | done | rfl | (simp only [List.length_drop, List.length_take]; rfl)) ?_; (with_reducible refine (riverbankref02_Kind.calls k1 (bt a0 ((rd_T41 t271 x7_1).f1)) t275 _ A10.out).mono ?_); rintro e w' ⟨rfl, ⟨nd, rfl⟩⟩; refine ⟨_, rfl, ?_⟩; have p276 : 0 ≤ (x7_1 : Int) := of_decide_eq_true (by first | (with_reducible assumption) | assumption); have q276 : x7_1 < (t271.length : Int) := of_decide_eq_true (by first | (with_reducible assumption) | assumption); obtain ⟨ad276, e276, hx276_0, hx276_1⟩ := at_T41 (Kd.R_reads' HO_5.out).2.2 x7_1 p276 q276; obtain rfl : ad274 = ad276 := (by injection e276); replace p276 := eq_true p276; replace q276 := eq_true q276) | (go_at_call 75; (with_reducible refine (riverbankref06_Moved.calls a0 ((rd_T41 t271 x7_1).f0) ((rd_T41 t271 x7_1).f1) t277 _ A13.out).mono ?_); rintro e w22 ⟨rfl, hb⟩; have n0_ := Aside0.mk (Kd.R_below (by (with_reducible repeat (first | apply Kd.R_alloc | apply Kd.R_drewN | apply Kd.R_drew)); exact HO_5.out) hb); have n1_ := Aside0.mk (Kd.R_below (by (with_reducible repeat (first | apply Kd.R_alloc | apply Kd.R_drewN | apply Kd.R_drew)); exact HO_6.out) hb); have n2_ := Aside0.mk (below_step (by repeat (first | (with_reducible first | exact HB.out | apply below_alloc | apply pw_below_drewN | apply below_drew1) | exact HB.out)) hb); clear HO_5; clear HO_6; clear HB; have HO_5 := n0_; have HO_6 := n1_; have HB := n2_; clear n0_ n1_ n2_; (try clear hb); (try clear hb2); (try clear hk); (try clear hi)) | (go_at_call 55; (with_reducible refine (riverbankref08_Safe.calls k1 t277 a1 false _ A14.out).mono ?_); rintro e w23 ⟨rfl, hb⟩; have n0_ := Aside0.mk (Kd.R_below (by (with_reducible repeat (first | apply Kd.R_alloc | apply Kd.R_drewN | apply Kd.R_drew)); exact HO_5.out) hb); have n1_ := Aside0.mk (Kd.R_below (by (with_reducible repeat (first | apply Kd.R_alloc | apply Kd.R_drewN | apply Kd.R_drew)); exact HO_6.out) hb); have n2_ := Aside0.mk (below_step (by repeat (first | (with_reducible first | exact HB.out | apply below_alloc | apply pw_below_drewN | apply below_drew1) | exact HB.out)) hb); clear HO_5; clear HO_6; clear HB; have HO_5 := n0_; have HO_6 := n1_; have HB := n2_; clear n0_ n1_ n2_; (try clear hb); (try clear hb2); (try clear hk); (try clear hi)))
                  go_roundg k1
                  case measure => have := HK1.out; omega
                  case rel => exact ⟨(x6_1), (wrap64 (x7_1 + 1)), (by first | rfl | (simp; done) | (simp [*]; done)), H', ⟨by have := HK1.out; omega⟩, ⟨by (with_reducible repeat (first | apply Kd.R_alloc | apply Kd.R_drewN | apply Kd.R_drew)); exact HO_5.out⟩, ⟨by (with_reducible repeat (first | apply Kd.R_alloc | apply Kd.R_drewN | apply Kd.R_drew)); exact HO_6.out⟩, ⟨by repeat (first | (with_reducible first | exact HB.out | apply below_alloc | apply pw_below_drewN | apply below_drew1) | exact HB.out)⟩⟩
            · rw [if_neg c8] at H
              exact absurd H (by simp)
          · rw [if_neg c7] at H
            exact absurd H (by simp)
        · rw [if_neg c6] at H
          exact absurd H (by simp)
      · rw [if_neg c5] at H
        have c5b0 : decide (x7_1 < (t271.length : Int)) = false := decide_eq_false c5
        clear c5
        obtain rfl := Option.some.inj H
        obtain ⟨Ao24, co24, eo24⟩ := Kd.R_slice HO_5.out
        subst eo24
        go_wp2
        go_ret
        exact ⟨_, by first | rfl | (simp [errW_none, errW_some] <;> rfl) | (simp [*, errW_none, errW_some] <;> rfl), by (with_reducible repeat (first | apply Kd.R_alloc | apply Kd.R_drewN | apply Kd.R_drew)); exact Kd.R_mono HO_6.out (fun _ hk => trivial), by repeat (first | (with_reducible first | exact HB.out | apply below_alloc | apply pw_below_drewN | apply below_drew1) | exact HB.out)⟩

/-! ### riverbankref08_Moves: function 30 -/
def riverbankref08_Moves.f (k : Nat) (a0_0 : ByteArray) (a0_1 : Int) (a0_2 : Int) (a0_3 : Int) : Option ((List (S41))) := (riverbankref07_Well.f k a0_0 a0_1 a0_2 a0_3).bind fun t284 => (if t284 = 0 then ((riverbankref08_Of.f k a0_0 a0_1).bind fun t285 => (some t285)) else (some ([] : List (S41))))
theorem riverbankref08_Moves.mono : ∀ a0 a1 a2 a3 k, LeO (riverbankref08_Moves.f k a0 a1 a2 a3) (riverbankref08_Moves.f (k + 1) a0 a1 a2 a3) := by
  intro a0 a1 a2 a3 k
  unfold riverbankref08_Moves.f
  repeat' first
      | (with_reducible exact riverbankref07_Well.mono _ _ _ _ _)
      | (with_reducible exact riverbankref08_Of.mono _ _ _)
      | (with_reducible exact LeO.refl _)
      | (with_reducible exact LeO.none _)
      | (with_reducible refine LeO.ite ?_ ?_)
      | (with_reducible refine LeO.bind ?_ (fun _ => ?_))
      | exact riverbankref07_Well.mono _ _ _ _ _
      | exact riverbankref08_Of.mono _ _ _
      | exact LeO.none _
      | refine LeO.ite ?_ ?_
      | refine LeO.bind ?_ (fun _ => ?_)
set_option maxHeartbeats 8000000 in
set_option maxRecDepth 100000 in
theorem riverbankref08_Moves.calls (k : Nat) (a0_0 : ByteArray) (a0_1 : Int) (a0_2 : Int) (a0_3 : Int) (r : List (S41)) (w : World) (h : riverbankref08_Moves.f k a0_0 a0_1 a0_2 a0_3 = some r) :
    Calls Try.prog 30 #[.agg #[.string a0_0, .int .i64 a0_1, .int .i64 a0_2, .int .i64 a0_3]] w fun e w' => ∃ v0_ : Value, e = .returned (v0_) ∧ Kd.R k41 41 w' w.heap.size (fun _ => True) v0_ r ∧ Below w.heap.size w w' := by
  have hu29 := Try.underlying29
  have HB := Aside0.mk (Below.refl w.heap.size w)
  have H : ((riverbankref07_Well.f k a0_0 a0_1 a0_2 a0_3).bind fun t284 => (if t284 = 0 then ((riverbankref08_Of.f k a0_0 a0_1).bind fun t285 => (some t285)) else (some ([] : List (S41))))) = some r := h
  clear h
  replace H := Option.bind_eq_some_iff.mp H
  obtain ⟨t284, A20, H⟩ := H
  replace H : (if t284 = 0 then ((riverbankref08_Of.f k a0_0 a0_1).bind fun t285 => (some t285)) else (some ([] : List (S41)))) = some r := H
  have A2 := Aside0.mk A20
  clear A20
  by_cases c3 : t284 = 0
  · rw [if_pos c3] at H
    have c3b0 : (t284 == 0) = true := beq_iff_eq.mpr c3
    have c3b1 : (t284 != 0) = false := bne_eq_false_iff_eq.mpr c3
    clear c3
    replace H := Option.bind_eq_some_iff.mp H
    obtain ⟨t285, A40, H⟩ := H
    replace H : (some t285) = some r := H
    have A4 := Aside0.mk A40
    clear A40
    obtain rfl := Option.some.inj H
    go_enter Try.func30, Try.ntmps30
    go_wp2_with (first | ((with_reducible refine gate_dst (N := 1) rfl ?_); refine box_event ?hg (N := 1) ?hd (cs := #[.string a0_0, .int .i64 a0_1, .int .i64 a0_2, .int .i64 a0_3]) (t := 29) ?hr ?_; (case hd => rfl); (case hg => rfl); (case hr => first | (go_simp; done) | (go_simp; rfl)); intro gb283 hg w5 hbox hb; have n0_ := Aside0.mk (below_step (by repeat (first | (with_reducible first | exact HB.out | apply below_alloc | apply pw_below_drewN | apply below_drew1) | exact HB.out)) hb); have n1_ := Aside0.mk (hbox); have n2_ := Aside0.mk ((by rw [hg]; exact (below_size (by repeat (first | (with_reducible first | exact HB.out | apply below_alloc | apply pw_below_drewN | apply below_drew1) | exact HB.out))) : w.heap.size ≤ gb283)); have n3_ := Aside0.mk ((by rw [hg]; exact (below_size (by repeat (first | (with_reducible first | exact HB.out | apply below_alloc | apply pw_below_drewN | apply below_drew1) | exact HB.out))) : w.heap.size ≤ gb283)); clear HB; have HB := n0_; have BK283 := n1_; have GW283 := n2_; have GE283 := n3_; clear n0_ n1_ n2_ n3_; clear hb hbox hg; have hcz6_0 : w5.cell? ⟨gb283, 0, none⟩ = some (.string a0_0) := (blk_cell BK283.out 0).trans rfl; have hcz6_1 : w5.cell? ⟨gb283, 1, none⟩ = some (.int .i64 a0_1) := (blk_cell BK283.out 1).trans rfl; have hcz6_2 : w5.cell? ⟨gb283, 2, none⟩ = some (.int .i64 a0_2) := (blk_cell BK283.out 2).trans rfl; have hcz6_3 : w5.cell? ⟨gb283, 3, none⟩ = some (.int .i64 a0_3) := (blk_cell BK283.out 3).trans rfl; have hfz6_0 := blk_frozen BK283.out 0; have hfz6_1 := blk_frozen BK283.out 1; have hfz6_2 := blk_frozen BK283.out 2; have hfz6_3 := blk_frozen BK283.out 3) | ((with_reducible refine gate_callee (f := 52) rfl ?_); refine goesL_ (some 4) rfl rfl Try.func52 (by kernel_rfl) rfl #[.agg #[.string a0_0, .int .i64 a0_1, .int .i64 a0_2, .int .i64 a0_3]] rfl (by (try simp only [List.map_toArray, List.map_cons, List.map_nil]); first | done | rfl | (simp only [List.length_drop, List.length_take]; rfl)) ?_; (with_reducible refine (riverbankref07_Well.calls k a0_0 a0_1 a0_2 a0_3 t284 _ A2.out).mono ?_); rintro e w7 ⟨rfl, hb⟩; refine ⟨_, rfl, ?_⟩; have n0_ := Aside0.mk (blk_below (g := gb283) (o := .cells #[.string a0_0, .int .i64 a0_1, .int .i64 a0_2, .int .i64 a0_3] 29 (0, 0)) (by (with_reducible repeat (first | refine blk_drewN ?_ _ | refine blk_drew ?_ | refine blk_alloc ?_ _)); exact BK283.out) hb); have n1_ := Aside0.mk (below_step (by repeat (first | (with_reducible first | exact HB.out | apply below_alloc | apply pw_below_drewN | apply below_drew1 | refine below_set ?_ GE283.out) | exact HB.out)) hb); clear BK283; clear HB; have BK283 := n0_; have HB := n1_; clear n0_ n1_; (try clear hb); (try clear hb2); (try clear hk); (try clear hi); have hcz8_0 : w7.cell? ⟨gb283, 0, none⟩ = some (.string a0_0) := (blk_cell BK283.out 0).trans rfl; have hcz8_1 : w7.cell? ⟨gb283, 1, none⟩ = some (.int .i64 a0_1) := (blk_cell BK283.out 1).trans rfl; have hcz8_2 : w7.cell? ⟨gb283, 2, none⟩ = some (.int .i64 a0_2) := (blk_cell BK283.out 2).trans rfl; have hcz8_3 : w7.cell? ⟨gb283, 3, none⟩ = some (.int .i64 a0_3) := (blk_cell BK283.out 3).trans rfl; have hfz8_0 := blk_frozen BK283.out 0; have hfz8_1 := blk_frozen BK283.out 1; have hfz8_2 := blk_frozen BK283.out 2; have hfz8_3 := blk_frozen BK283.out 3) | ((with_reducible refine gate_callee (f := 53) rfl ?_); refine goesL_ (some 10) rfl rfl Try.func53 (by kernel_rfl) rfl #[.string a0_0, .int .i64 a0_1] rfl (by (try simp only [List.map_toArray, List.map_cons, List.map_nil]); first | done | rfl | (simp only [List.length_drop, List.length_take]; rfl)) ?_; (with_reducible refine (riverbankref08_Of.calls k a0_0 a0_1 t285 _ A4.out).mono ?_); rintro e w9 ⟨v286, rfl, ho0, hb⟩; refine ⟨_, rfl, ?_⟩; have n0_ := Aside0.mk (Kd.R_lower ho0 (below_size (by repeat (first | (with_reducible first | exact HB.out | apply below_alloc | apply pw_below_drewN | apply below_drew1 | refine below_set ?_ GE283.out) | exact HB.out)))); have n1_ := Aside0.mk (blk_below (g := gb283) (o := .cells #[.string a0_0, .int .i64 a0_1, .int .i64 a0_2, .int .i64 a0_3] 29 (0, 0)) (by (with_reducible repeat (first | refine blk_drewN ?_ _ | refine blk_drew ?_ | refine blk_alloc ?_ _)); exact BK283.out) hb); have n2_ := Aside0.mk (below_step (by repeat (first | (with_reducible first | exact HB.out | apply below_alloc | apply pw_below_drewN | apply below_drew1 | refine below_set ?_ GE283.out) | exact HB.out)) hb); clear BK283; clear HB; have HO287 := n0_; have BK283 := n1_; have HB := n2_; clear n0_ n1_ n2_; (try clear hb); (try clear hb2); (try clear hk); (try clear hi); (try clear ho0)))
    go_ret
    exact ⟨_, by first | rfl | (simp [errW_none, errW_some] <;> rfl) | (simp [*, errW_none, errW_some] <;> rfl), by (with_reducible repeat (first | apply Kd.R_alloc | apply Kd.R_drewN | apply Kd.R_drew)); exact HO287.out, by repeat (first | (with_reducible first | exact HB.out | apply below_alloc | apply pw_below_drewN | apply below_drew1 | refine below_set ?_ GE283.out) | exact HB.out)⟩
  · rw [if_neg c3] at H
    have c3b0 : (t284 == 0) = false := beq_eq_false_iff_ne.mpr c3
    have c3b1 : (t284 != 0) = true := bne_iff_ne.mpr c3
    obtain rfl := Option.some.inj H
    go_enter Try.func30, Try.ntmps30
    go_wp2_with (first | ((with_reducible refine gate_dst (N := 1) rfl ?_); refine box_event ?hg (N := 1) ?hd (cs := #[.string a0_0, .int .i64 a0_1, .int .i64 a0_2, .int .i64 a0_3]) (t := 29) ?hr ?_; (case hd => rfl); (case hg => rfl); (case hr => first | (go_simp; done) | (go_simp; rfl)); intro gb283 hg w10 hbox hb; have n0_ := Aside0.mk (below_step (by repeat (first | (with_reducible first | exact HB.out | apply below_alloc | apply pw_below_drewN | apply below_drew1) | exact HB.out)) hb); have n1_ := Aside0.mk (hbox); have n2_ := Aside0.mk ((by rw [hg]; exact (below_size (by repeat (first | (with_reducible first | exact HB.out | apply below_alloc | apply pw_below_drewN | apply below_drew1) | exact HB.out))) : w.heap.size ≤ gb283)); have n3_ := Aside0.mk ((by rw [hg]; exact (below_size (by repeat (first | (with_reducible first | exact HB.out | apply below_alloc | apply pw_below_drewN | apply below_drew1) | exact HB.out))) : w.heap.size ≤ gb283)); clear HB; have HB := n0_; have BK283 := n1_; have GW283 := n2_; have GE283 := n3_; clear n0_ n1_ n2_ n3_; clear hb hbox hg; have hcz11_0 : w10.cell? ⟨gb283, 0, none⟩ = some (.string a0_0) := (blk_cell BK283.out 0).trans rfl; have hcz11_1 : w10.cell? ⟨gb283, 1, none⟩ = some (.int .i64 a0_1) := (blk_cell BK283.out 1).trans rfl; have hcz11_2 : w10.cell? ⟨gb283, 2, none⟩ = some (.int .i64 a0_2) := (blk_cell BK283.out 2).trans rfl; have hcz11_3 : w10.cell? ⟨gb283, 3, none⟩ = some (.int .i64 a0_3) := (blk_cell BK283.out 3).trans rfl; have hfz11_0 := blk_frozen BK283.out 0; have hfz11_1 := blk_frozen BK283.out 1; have hfz11_2 := blk_frozen BK283.out 2; have hfz11_3 := blk_frozen BK283.out 3) | ((with_reducible refine gate_callee (f := 52) rfl ?_); refine goesL_ (some 4) rfl rfl Try.func52 (by kernel_rfl) rfl #[.agg #[.string a0_0, .int .i64 a0_1, .int .i64 a0_2, .int .i64 a0_3]] rfl (by (try simp only [List.map_toArray, List.map_cons, List.map_nil]); first | done | rfl | (simp only [List.length_drop, List.length_take]; rfl)) ?_; (with_reducible refine (riverbankref07_Well.calls k a0_0 a0_1 a0_2 a0_3 t284 _ A2.out).mono ?_); rintro e w12 ⟨rfl, hb⟩; refine ⟨_, rfl, ?_⟩; have n0_ := Aside0.mk (blk_below (g := gb283) (o := .cells #[.string a0_0, .int .i64 a0_1, .int .i64 a0_2, .int .i64 a0_3] 29 (0, 0)) (by (with_reducible repeat (first | refine blk_drewN ?_ _ | refine blk_drew ?_ | refine blk_alloc ?_ _)); exact BK283.out) hb); have n1_ := Aside0.mk (below_step (by repeat (first | (with_reducible first | exact HB.out | apply below_alloc | apply pw_below_drewN | apply below_drew1 | refine below_set ?_ GE283.out) | exact HB.out)) hb); clear BK283; clear HB; have BK283 := n0_; have HB := n1_; clear n0_ n1_; (try clear hb); (try clear hb2); (try clear hk); (try clear hi)))
    go_ret
    exact ⟨_, by first | rfl | (simp [errW_none, errW_some] <;> rfl) | (simp [*, errW_none, errW_some] <;> rfl), by first | exact Kd.R_nil _ _ _ _ _ | exact Kd.N_nil _ _ _ _ _ | exact Kd.V_nil _ _ _ _ _ | exact Kd.Q_nil _ _ _ _ _ | exact Kd.S_nil _ _ _ _ _, by repeat (first | (with_reducible first | exact HB.out | apply below_alloc | apply pw_below_drewN | apply below_drew1 | refine below_set ?_ GE283.out) | exact HB.out)⟩

end Go.Proofs.Ytmfbgcimfmgobaa.Print

-- of YtmfbgcimfmgobaaPrint28
-- Written by a program of this session (wip/gprint/gprint.py) over the kit's print; the parts marked GIVEN by hand.
namespace Go.Proofs.Ytmfbgcimfmgobaa.Print
open Go.RowKit Go.Proofs.YtmfbgcimfmgobaaW.PrintWords Go.Proofs.YtmfbgcimfmgobaaW.PrintLast Go.Proofs.YtmfbgcimfmgobaaW.PrintMore
attribute [local go_sem] max2_int min2_int max_two min_two max_three min_three max_four min_four   -- for this text's walks alone
set_option linter.unusedVariables false
set_option linter.unusedSimpArgs false
/-! GIVEN riverbankref06_Apply -/
-- GIVEN riverbank/riverbankref06.Apply
-- MAKES yes
-- ROUNDS yes
-- NEEDS riverbank/riverbankref03.Check
-- NEEDS riverbank/riverbankref02.Side
-- NEEDS riverbank/riverbankref02.Kind
-- NEEDS riverbank/riverbankref05.Fast
-- NEEDS riverbank/riverbankref06.Moved
def riverbankref06_Apply.j0 : Nat → Bool → ByteArray → Int → Int → Int → Int → Int → Option (ByteArray × Int × Int × Int × Int × Int)
  | 0, _, _, _, _, _, _, _ => none
  | k + 1, x63, x289000, x289001, x289002, x289003, x290000, x290001 => if x63 = true then (none) else ((riverbankref06_Moved.f x289000 x290000 x290001).bind fun t295 => (if 0 ≤ x290001 then (if x290001 < (x289000.size : Int) then (if (bt x289000 x290001) = 46 then (if x289001 = 1 then (some (t295, wrap64 (1 - x289001), mn (wrap64 (x289002 + 1)) 120, mn (wrap64 (x289003 + 1)) 9999, 0, 0)) else (some (t295, wrap64 (1 - x289001), mn (wrap64 (x289002 + 1)) 120, x289003, 0, 0))) else (if x289001 = 1 then (some (t295, wrap64 (1 - x289001), 0, mn (wrap64 (x289003 + 1)) 9999, bt x289000 x290001, 0)) else (some (t295, wrap64 (1 - x289001), 0, x289003, bt x289000 x290001, 0)))) else (none)) else (none)))
def riverbankref06_Apply.f (k : Nat) (a0_0 : ByteArray) (a0_1 : Int) (a0_2 : Int) (a0_3 : Int) (a1_0 : Int) (a1_1 : Int) : Option (ByteArray × Int × Int × Int × Int × Int) := (riverbankref03_Check.f k a0_0 a0_1 a0_2 a0_3).bind fun t291 => (if t291 = 0 then (if a1_0 < 0 then (none) else (if a1_0 > 89 then (none) else (if a1_1 < 0 then (none) else (if a1_1 > 89 then (none) else (if 0 ≤ a1_0 then (if a1_0 < (a0_0.size : Int) then ((riverbankref02_Side.f k (bt a0_0 a1_0)).bind fun t292 => (if t292 = a0_1 then ((riverbankref05_Fast.f k a0_0 a1_0 a1_1).bind fun t293 => (if t293 = true then (if 0 ≤ a1_1 then (if a1_1 < (a0_0.size : Int) then ((riverbankref02_Kind.f k (bt a0_0 a1_1)).bind fun t294 => (riverbankref06_Apply.j0 k (t294 == 75) a0_0 a0_1 a0_2 a0_3 a1_0 a1_1)) else (none)) else (none)) else (none))) else (none))) else (none)) else (none)))))) else (none))
theorem riverbankref06_Apply.mono_l : ∀ k, (∀ y0 y1 y2 y3 y4 y5 y6, LeO (riverbankref06_Apply.j0 k y0 y1 y2 y3 y4 y5 y6) (riverbankref06_Apply.j0 (k + 1) y0 y1 y2 y3 y4 y5 y6))
  | 0 => fun _ _ _ _ _ _ _ r h => by simp [riverbankref06_Apply.j0] at h
  | k + 1 => by
    have ih0 := riverbankref06_Apply.mono_l k
    · intro y0 y1 y2 y3 y4 y5 y6
      unfold riverbankref06_Apply.j0
      repeat' first
      | (with_reducible exact ih0 _ _ _ _ _ _ _)
      | (with_reducible exact riverbankref02_Kind.mono _ _)
      | (with_reducible exact riverbankref02_Side.mono _ _)
      | (with_reducible exact riverbankref03_Check.mono _ _ _ _ _)
      | (with_reducible exact riverbankref05_Fast.mono _ _ _ _)
      | (with_reducible exact LeO.refl _)
      | (with_reducible exact LeO.none _)
      | (with_reducible refine LeO.ite ?_ ?_)
      | (with_reducible refine LeO.bind ?_ (fun _ => ?_))
      | exact ih0 _ _ _ _ _ _ _
      | exact riverbankref02_Kind.mono _ _
      | exact riverbankref02_Side.mono _ _
      | exact riverbankref03_Check.mono _ _ _ _ _
      | exact riverbankref05_Fast.mono _ _ _ _
      | exact LeO.none _
      | refine LeO.ite ?_ ?_
      | refine LeO.bind ?_ (fun _ => ?_)
theorem riverbankref06_Apply.mono : ∀ a0 a1 a2 a3 a4 a5 k, LeO (riverbankref06_Apply.f k a0 a1 a2 a3 a4 a5) (riverbankref06_Apply.f (k + 1) a0 a1 a2 a3 a4 a5) := by
  intro a0 a1 a2 a3 a4 a5 k
  have ih0 := riverbankref06_Apply.mono_l k
  unfold riverbankref06_Apply.f
  repeat' first
      | (with_reducible exact ih0 _ _ _ _ _ _ _)
      | (with_reducible exact riverbankref02_Kind.mono _ _)
      | (with_reducible exact riverbankref02_Side.mono _ _)
      | (with_reducible exact riverbankref03_Check.mono _ _ _ _ _)
      | (with_reducible exact riverbankref05_Fast.mono _ _ _ _)
      | (with_reducible exact LeO.refl _)
      | (with_reducible exact LeO.none _)
      | (with_reducible refine LeO.ite ?_ ?_)
      | (with_reducible refine LeO.bind ?_ (fun _ => ?_))
      | exact ih0 _ _ _ _ _ _ _
      | exact riverbankref02_Kind.mono _ _
      | exact riverbankref02_Side.mono _ _
      | exact riverbankref03_Check.mono _ _ _ _ _
      | exact riverbankref05_Fast.mono _ _ _ _
      | exact LeO.none _
      | refine LeO.ite ?_ ?_
      | refine LeO.bind ?_ (fun _ => ?_)
def riverbankref06_Apply.T4 : Bool × List (List Nat × List Nat) := (true, [([], []), ([0], [0]), ([1], [1]), ([2], [2]), ([3], [3]), ([4, 3], [3, 4]), ([5, 3], [3, 5]), ([3, 6], [3, 6]), ([7, 3], [7]), ([8], [8]), ([9, 8], [8, 9]), ([10, 8], [8, 10]), ([8, 11], [8, 11]), ([12, 8], [12]), ([13], [13]), ([14, 13], [13, 14]), ([15, 13], [13, 15]), ([13, 16], [13, 16]), ([17, 13], [17]), ([18], [18]), ([19, 18], [18, 19]), ([18], [18]), ([21, 18], [18, 21]), ([20, 22, 18], [18, 20, 22]), ([23, 18, 18], [18, 23]), ([18], [18]), ([25, 18], [18, 25]), ([24, 26, 18], [18, 24, 26]), ([18, 27], [18, 27]), ([28, 24], [28]), ([29], [29]), ([30, 29], [29, 30]), ([29], [29]), ([32, 29], [29, 32]), ([29], [29]), ([34, 29], [29, 34]), ([31, 33, 35, 29, 29], [29, 31, 33, 35]), ([36, 29], [29, 36]), ([29, 37], [29, 37]), ([38, 36], [38]), ([39], [39]), ([40, 39], [39, 40]), ([39], [39]), ([42, 39], [39, 42]), ([41, 43, 39], [39, 41, 43]), ([44, 39, 39], [39, 44]), ([45, 39], [39, 45]), ([39, 46], [39, 46])])
def riverbankref06_Apply.B4 : List Nat := [0, 1, 3, 7, 15, 31, 63, 127, 255, 511, 1023, 2047, 4095, 8191, 16383, 32767, 65535, 131071, 262143, 524287, 1048575, 524287, 2621439, 8388607, 16777215, 524287, 34078719, 134217727, 268435455, 536870911, 1073741823, 2147483647, 1073741823, 5368709119, 1073741823, 18253611007, 68719476735, 137438953471, 274877906943, 549755813887, 1099511627775, 2199023255551, 1099511627775, 5497558138879, 17592186044415, 35184372088831, 70368744177663, 140737488355327]
theorem riverbankref06_Apply.tab4 : rtab .any (opsOf Try.f54 4) = riverbankref06_Apply.T4 := by kernel_rfl
theorem riverbankref06_Apply.bits4 : waitsOk riverbankref06_Apply.T4.2 riverbankref06_Apply.B4 = true := by kernel_rfl
def riverbankref06_Apply.T6 : Bool × List (List Nat × List Nat) := (true, [([], []), ([0], [0]), ([], []), ([1, 2], [1, 2]), ([], []), ([4], [4]), ([5], [5]), ([], []), ([7], [7]), ([8], [8]), ([9], [9]), ([], []), ([11], [11]), ([3, 6, 10, 12], [3, 6, 10, 12]), ([], []), ([14, 13, 3, 0, 1, 2, 3, 4, 5, 6, 7, 8, 9, 10, 11, 12, 13, 14], [13, 14])])
def riverbankref06_Apply.B6 : List Nat := [0, 1, 0, 7, 0, 16, 48, 0, 128, 384, 896, 0, 2048, 8191, 0, 32767]
theorem riverbankref06_Apply.tab6 : rtab .any (opsOf Try.f54 6) = riverbankref06_Apply.T6 := by kernel_rfl
theorem riverbankref06_Apply.bits6 : waitsOk riverbankref06_Apply.T6.2 riverbankref06_Apply.B6 = true := by kernel_rfl
set_option maxHeartbeats 8000000 in
set_option maxRecDepth 100000 in
theorem riverbankref06_Apply.calls (k : Nat) (a0_0 : ByteArray) (a0_1 : Int) (a0_2 : Int) (a0_3 : Int) (a1_0 : Int) (a1_1 : Int) (r1 : ByteArray) (r2 : Int) (r3 : Int) (r4 : Int) (r5 : Int) (r6 : Int) (w : World) (h : riverbankref06_Apply.f k a0_0 a0_1 a0_2 a0_3 a1_0 a1_1 = some (r1, r2, r3, r4, r5, r6)) :
    Calls Try.prog 54 #[.agg #[.string a0_0, .int .i64 a0_1, .int .i64 a0_2, .int .i64 a0_3], .agg #[.int .i64 a1_0, .int .i64 a1_1]] w fun e w' => e = .returned (.tuple #[.agg #[.string r1, .int .i64 r2, .int .i64 r3, .int .i64 r4], .int .u8 r5, .int .i64 r6]) ∧ Below w.heap.size w w' := by
  have hu29 := Try.underlying29
  have hu41 := Try.underlying41
  have HB := Aside0.mk (Below.refl w.heap.size w)
  have H : ((riverbankref03_Check.f k a0_0 a0_1 a0_2 a0_3).bind fun t291 => (if t291 = 0 then (if a1_0 < 0 then (none) else (if a1_0 > 89 then (none) else (if a1_1 < 0 then (none) else (if a1_1 > 89 then (none) else (if 0 ≤ a1_0 then (if a1_0 < (a0_0.size : Int) then ((riverbankref02_Side.f k (bt a0_0 a1_0)).bind fun t292 => (if t292 = a0_1 then ((riverbankref05_Fast.f k a0_0 a1_0 a1_1).bind fun t293 => (if t293 = true then (if 0 ≤ a1_1 then (if a1_1 < (a0_0.size : Int) then ((riverbankref02_Kind.f k (bt a0_0 a1_1)).bind fun t294 => (riverbankref06_Apply.j0 k (t294 == 75) a0_0 a0_1 a0_2 a0_3 a1_0 a1_1)) else (none)) else (none)) else (none))) else (none))) else (none)) else (none)))))) else (none))) = some (r1, r2, r3, r4, r5, r6) := h
  clear h
  replace H := Option.bind_eq_some_iff.mp H
  obtain ⟨t291, A30, H⟩ := H
  replace H : (if t291 = 0 then (if a1_0 < 0 then (none) else (if a1_0 > 89 then (none) else (if a1_1 < 0 then (none) else (if a1_1 > 89 then (none) else (if 0 ≤ a1_0 then (if a1_0 < (a0_0.size : Int) then ((riverbankref02_Side.f k (bt a0_0 a1_0)).bind fun t292 => (if t292 = a0_1 then ((riverbankref05_Fast.f k a0_0 a1_0 a1_1).bind fun t293 => (if t293 = true then (if 0 ≤ a1_1 then (if a1_1 < (a0_0.size : Int) then ((riverbankref02_Kind.f k (bt a0_0 a1_1)).bind fun t294 => (riverbankref06_Apply.j0 k (t294 == 75) a0_0 a0_1 a0_2 a0_3 a1_0 a1_1)) else (none)) else (none)) else (none))) else (none))) else (none)) else (none)))))) else (none)) = some (r1, r2, r3, r4, r5, r6) := H
  have A3 := Aside0.mk A30
  clear A30
  by_cases c4 : t291 = 0
  · rw [if_pos c4] at H
    have c4b0 : (t291 == 0) = true := beq_iff_eq.mpr c4
    have c4b1 : (t291 != 0) = false := bne_eq_false_iff_eq.mpr c4
    clear c4
    have HC5 := Aside0.mk H
    clear H
    go_enter Try.func54, Try.ntmps54
    go_upto_region 4 with (first | ((with_reducible refine gate_dst (N := 2) rfl ?_); refine box_event ?hg (N := 2) ?hd (cs := #[.string a0_0, .int .i64 a0_1, .int .i64 a0_2, .int .i64 a0_3]) (t := 29) ?hr ?_; (case hd => rfl); (case hg => rfl); (case hr => first | (go_simp; done) | (go_simp; rfl)); intro gb288 hg w6 hbox hb; have n0_ := Aside0.mk (below_step (by repeat (first | (with_reducible first | exact HB.out | apply below_alloc | apply pw_below_drewN | apply below_drew1) | exact HB.out)) hb); have n1_ := Aside0.mk (hbox); have n2_ := Aside0.mk ((by rw [hg]; exact (below_size (by repeat (first | (with_reducible first | exact HB.out | apply below_alloc | apply pw_below_drewN | apply below_drew1) | exact HB.out))) : w.heap.size ≤ gb288)); have n3_ := Aside0.mk ((by rw [hg]; exact (below_size (by repeat (first | (with_reducible first | exact HB.out | apply below_alloc | apply pw_below_drewN | apply below_drew1) | exact HB.out))) : w.heap.size ≤ gb288)); clear HB; have HB := n0_; have BK288 := n1_; have GW288 := n2_; have GE288 := n3_; clear n0_ n1_ n2_ n3_; clear hb hbox hg) | ((with_reducible refine gate_dst (N := 3) rfl ?_); refine box_event ?hg (N := 3) ?hd (cs := #[.int .i64 a1_0, .int .i64 a1_1]) (t := 41) ?hr ?_; (case hd => rfl); (case hg => rfl); (case hr => first | (go_simp; done) | (go_simp; rfl)); intro gb289 hg w7 hbox hb; have n0_ := Aside0.mk (blk_below (g := gb288) (o := .cells #[.string a0_0, .int .i64 a0_1, .int .i64 a0_2, .int .i64 a0_3] 29 (0, 0)) (by (with_reducible repeat (first | refine blk_drewN ?_ _ | refine blk_drew ?_ | refine blk_alloc ?_ _)); exact BK288.out) hb); have n1_ := Aside0.mk (below_step (by repeat (first | (with_reducible first | exact HB.out | apply below_alloc | apply pw_below_drewN | apply below_drew1 | refine below_set ?_ GE288.out) | exact HB.out)) hb); have n2_ := Aside0.mk (hbox); have n3_ := Aside0.mk ((by rw [hg]; exact (below_size (by repeat (first | (with_reducible first | exact HB.out | apply below_alloc | apply pw_below_drewN | apply below_drew1 | refine below_set ?_ GE288.out) | exact HB.out))) : w.heap.size ≤ gb289)); have n4_ := Aside0.mk ((by rw [hg]; exact (below_size (by repeat (first | (with_reducible first | exact HB.out | apply below_alloc | apply pw_below_drewN | apply below_drew1 | refine below_set ?_ GE288.out) | exact HB.out))) : w.heap.size ≤ gb289)); have n5_ := Aside0.mk ((by rw [hg]; exact Nat.ne_of_lt (blk_lt (g := gb288) (o := .cells #[.string a0_0, .int .i64 a0_1, .int .i64 a0_2, .int .i64 a0_3] 29 (0, 0)) (by (with_reducible repeat (first | refine blk_drewN ?_ _ | refine blk_drew ?_ | refine blk_alloc ?_ _)); exact BK288.out)) : gb288 ≠ gb289)); have n6_ := Aside0.mk ((by rw [hg]; exact Nat.ne_of_gt (blk_lt (g := gb288) (o := .cells #[.string a0_0, .int .i64 a0_1, .int .i64 a0_2, .int .i64 a0_3] 29 (0, 0)) (by (with_reducible repeat (first | refine blk_drewN ?_ _ | refine blk_drew ?_ | refine blk_alloc ?_ _)); exact BK288.out)) : gb289 ≠ gb288)); clear BK288; clear HB; have BK288 := n0_; have HB := n1_; have BK289 := n2_; have GW289 := n3_; have GE289 := n4_; have NB288_289 := n5_; have NB289_288 := n6_; clear n0_ n1_ n2_ n3_ n4_ n5_ n6_; clear hb hbox hg) | ((with_reducible refine gate_dst (N := 4) rfl ?_); refine box_event ?hg (N := 4) ?hd (cs := #[.string (⟨#[]⟩ : ByteArray), .int .i64 0, .int .i64 0, .int .i64 0]) (t := 29) ?hr ?_; (case hd => rfl); (case hg => rfl); (case hr => first | (go_simp; done) | (go_simp; rfl)); intro gb290 hg w8 hbox hb; have n0_ := Aside0.mk (blk_below (g := gb288) (o := .cells #[.string a0_0, .int .i64 a0_1, .int .i64 a0_2, .int .i64 a0_3] 29 (0, 0)) (by (with_reducible repeat (first | refine blk_drewN ?_ _ | refine blk_drew ?_ | refine blk_alloc ?_ _)); exact BK288.out) hb); have n1_ := Aside0.mk (blk_below (g := gb289) (o := .cells #[.int .i64 a1_0, .int .i64 a1_1] 41 (0, 0)) (by (with_reducible repeat (first | refine blk_drewN ?_ _ | refine blk_drew ?_ | refine blk_alloc ?_ _)); exact BK289.out) hb); have n2_ := Aside0.mk (below_step (by repeat (first | (with_reducible first | exact HB.out | apply below_alloc | apply pw_below_drewN | apply below_drew1 | refine below_set ?_ GE288.out | refine below_set ?_ GE289.out) | exact HB.out)) hb); have n3_ := Aside0.mk (hbox); have n4_ := Aside0.mk ((by rw [hg]; exact (below_size (by repeat (first | (with_reducible first | exact HB.out | apply below_alloc | apply pw_below_drewN | apply below_drew1 | refine below_set ?_ GE288.out | refine below_set ?_ GE289.out) | exact HB.out))) : w.heap.size ≤ gb290)); have n5_ := Aside0.mk ((by rw [hg]; exact (below_size (by repeat (first | (with_reducible first | exact HB.out | apply below_alloc | apply pw_below_drewN | apply below_drew1 | refine below_set ?_ GE288.out | refine below_set ?_ GE289.out) | exact HB.out))) : w.heap.size ≤ gb290)); have n6_ := Aside0.mk ((by rw [hg]; exact Nat.ne_of_lt (blk_lt (g := gb288) (o := .cells #[.string a0_0, .int .i64 a0_1, .int .i64 a0_2, .int .i64 a0_3] 29 (0, 0)) (by (with_reducible repeat (first | refine blk_drewN ?_ _ | refine blk_drew ?_ | refine blk_alloc ?_ _)); exact BK288.out)) : gb288 ≠ gb290)); have n7_ := Aside0.mk ((by rw [hg]; exact Nat.ne_of_gt (blk_lt (g := gb288) (o := .cells #[.string a0_0, .int .i64 a0_1, .int .i64 a0_2, .int .i64 a0_3] 29 (0, 0)) (by (with_reducible repeat (first | refine blk_drewN ?_ _ | refine blk_drew ?_ | refine blk_alloc ?_ _)); exact BK288.out)) : gb290 ≠ gb288)); have n8_ := Aside0.mk ((by rw [hg]; exact Nat.ne_of_lt (blk_lt (g := gb289) (o := .cells #[.int .i64 a1_0, .int .i64 a1_1] 41 (0, 0)) (by (with_reducible repeat (first | refine blk_drewN ?_ _ | refine blk_drew ?_ | refine blk_alloc ?_ _)); exact BK289.out)) : gb289 ≠ gb290)); have n9_ := Aside0.mk ((by rw [hg]; exact Nat.ne_of_gt (blk_lt (g := gb289) (o := .cells #[.int .i64 a1_0, .int .i64 a1_1] 41 (0, 0)) (by (with_reducible repeat (first | refine blk_drewN ?_ _ | refine blk_drew ?_ | refine blk_alloc ?_ _)); exact BK289.out)) : gb290 ≠ gb289)); clear BK288; clear BK289; clear HB; have BK288 := n0_; have BK289 := n1_; have HB := n2_; have BK290 := n3_; have GW290 := n4_; have GE290 := n5_; have NB288_290 := n6_; have NB290_288 := n7_; have NB289_290 := n8_; have NB290_289 := n9_; clear n0_ n1_ n2_ n3_ n4_ n5_ n6_ n7_ n8_ n9_; clear hb hbox hg; have hnb9 := NB288_289.out; have hnc9 := NB289_288.out; have hnb10 := NB288_290.out; have hnc10 := NB290_288.out; have hcz11_0 : w8.cell? ⟨gb288, 0, none⟩ = some (.string a0_0) := (blk_cell BK288.out 0).trans rfl; have hcz11_1 : w8.cell? ⟨gb288, 1, none⟩ = some (.int .i64 a0_1) := (blk_cell BK288.out 1).trans rfl; have hcz11_2 : w8.cell? ⟨gb288, 2, none⟩ = some (.int .i64 a0_2) := (blk_cell BK288.out 2).trans rfl; have hcz11_3 : w8.cell? ⟨gb288, 3, none⟩ = some (.int .i64 a0_3) := (blk_cell BK288.out 3).trans rfl; have hfz11_0 := blk_frozen BK288.out 0; have hfz11_1 := blk_frozen BK288.out 1; have hfz11_2 := blk_frozen BK288.out 2; have hfz11_3 := blk_frozen BK288.out 3) | ((with_reducible refine gate_callee (f := 71) rfl ?_); refine goesL_ (some 11) rfl rfl Try.func71 (by kernel_rfl) rfl #[.agg #[.string a0_0, .int .i64 a0_1, .int .i64 a0_2, .int .i64 a0_3]] rfl (by (try simp only [List.map_toArray, List.map_cons, List.map_nil]); first | done | rfl | (simp only [List.length_drop, List.length_take]; rfl)) ?_; (with_reducible refine (riverbankref03_Check.calls k a0_0 a0_1 a0_2 a0_3 t291 _ A3.out).mono ?_); rintro e w12 ⟨rfl, hb⟩; refine ⟨_, rfl, ?_⟩; have n0_ := Aside0.mk (blk_below (g := gb288) (o := .cells #[.string a0_0, .int .i64 a0_1, .int .i64 a0_2, .int .i64 a0_3] 29 (0, 0)) (by (with_reducible repeat (first | refine blk_drewN ?_ _ | refine blk_drew ?_ | refine blk_alloc ?_ _)); exact BK288.out) hb); have n1_ := Aside0.mk (blk_below (g := gb289) (o := .cells #[.int .i64 a1_0, .int .i64 a1_1] 41 (0, 0)) (by (with_reducible repeat (first | refine blk_drewN ?_ _ | refine blk_drew ?_ | refine blk_alloc ?_ _)); exact BK289.out) hb); have n2_ := Aside0.mk (blk_below (g := gb290) (o := .cells #[.string (⟨#[]⟩ : ByteArray), .int .i64 0, .int .i64 0, .int .i64 0] 29 (0, 0)) (by (with_reducible repeat (first | refine blk_drewN ?_ _ | refine blk_drew ?_ | refine blk_alloc ?_ _)); exact BK290.out) hb); have n3_ := Aside0.mk (below_step (by repeat (first | (with_reducible first | exact HB.out | apply below_alloc | apply pw_below_drewN | apply below_drew1 | refine below_set ?_ GE288.out | refine below_set ?_ GE289.out | refine below_set ?_ GE290.out) | exact HB.out)) hb); clear BK288; clear BK289; clear BK290; clear HB; have BK288 := n0_; have BK289 := n1_; have BK290 := n2_; have HB := n3_; clear n0_ n1_ n2_ n3_; (try clear hb); (try clear hb2); (try clear hk); (try clear hi)))
    (try simp only [Act.put, List.setIfInBounds_toArray, List.set_cons_zero, List.set_cons_succ])
    go_cut [63] (fun v63 wc => ∃ (kq : Nat) (x63_4 : Bool), v63 = .bool x63_4 ∧ Aside0 (riverbankref06_Apply.j0 kq x63_4 a0_0 a0_1 a0_2 a0_3 a1_0 a1_1 = some (r1, r2, r3, r4, r5, r6)) ∧ Aside0 (kq ≤ k) ∧ Aside0 (wc.heap[gb288]? = some (.cells #[.string a0_0, .int .i64 a0_1, .int .i64 a0_2, .int .i64 a0_3] 29 (0, 0))) ∧ Aside0 (wc.heap[gb289]? = some (.cells #[.int .i64 a1_0, .int .i64 a1_1] 41 (0, 0))) ∧ Aside0 (wc.heap[gb290]? = some (.cells #[.string (⟨#[]⟩ : ByteArray), .int .i64 0, .int .i64 0, .int .i64 0] 29 (0, 0))) ∧ Aside0 (Below w.heap.size w wc))
    case first =>
      have H := HC5.out
      clear HC5
      by_cases c13 : a1_0 < 0
      · rw [if_pos c13] at H; cases H
      · rw [if_neg c13] at H
        have c13b0 : decide (a1_0 < 0) = false := decide_eq_false c13
        clear c13
        (first | rw [c13b0] | (simp only [i64_w, i32_w]; rw [c13b0]) | skip)
        by_cases c15 : a1_0 > 89
        · rw [if_pos c15] at H; cases H
        · rw [if_neg c15] at H
          have c15b0 : decide (89 < a1_0) = false := decide_eq_false c15
          clear c15
          by_cases c17 : a1_1 < 0
          · rw [if_pos c17] at H; cases H
          · rw [if_neg c17] at H
            have c17b0 : decide (a1_1 < 0) = false := decide_eq_false c17
            clear c17
            by_cases c19 : a1_1 > 89
            · rw [if_pos c19] at H; cases H
            · rw [if_neg c19] at H
              have c19b0 : decide (89 < a1_1) = false := decide_eq_false c19
              clear c19
              by_cases c21 : 0 ≤ a1_0
              · rw [if_pos c21] at H
                have c21b0 : decide (0 ≤ a1_0) = true := decide_eq_true c21
                clear c21
                by_cases c22 : a1_0 < (a0_0.size : Int)
                · rw [if_pos c22] at H
                  have c22b0 : decide (a1_0 < (a0_0.size : Int)) = true := decide_eq_true c22
                  clear c22
                  replace H := Option.bind_eq_some_iff.mp H
                  obtain ⟨t292, A240, H⟩ := H
                  replace H : (if t292 = a0_1 then ((riverbankref05_Fast.f k a0_0 a1_0 a1_1).bind fun t293 => (if t293 = true then (if 0 ≤ a1_1 then (if a1_1 < (a0_0.size : Int) then ((riverbankref02_Kind.f k (bt a0_0 a1_1)).bind fun t294 => (riverbankref06_Apply.j0 k (t294 == 75) a0_0 a0_1 a0_2 a0_3 a1_0 a1_1)) else (none)) else (none)) else (none))) else (none)) = some (r1, r2, r3, r4, r5, r6) := H
                  have A24 := Aside0.mk A240
                  clear A240
                  by_cases c25 : t292 = a0_1
                  · rw [if_pos c25] at H
                    have c25b0 : (t292 == a0_1) = true := beq_iff_eq.mpr c25
                    have c25b1 : (t292 != a0_1) = false := bne_eq_false_iff_eq.mpr c25
                    clear c25
                    replace H := Option.bind_eq_some_iff.mp H
                    obtain ⟨t293, A260, H⟩ := H
                    replace H : (if t293 = true then (if 0 ≤ a1_1 then (if a1_1 < (a0_0.size : Int) then ((riverbankref02_Kind.f k (bt a0_0 a1_1)).bind fun t294 => (riverbankref06_Apply.j0 k (t294 == 75) a0_0 a0_1 a0_2 a0_3 a1_0 a1_1)) else (none)) else (none)) else (none)) = some (r1, r2, r3, r4, r5, r6) := H
                    have A26 := Aside0.mk A260
                    clear A260
                    by_cases c27 : t293 = true
                    · subst c27
                      have H1 : (if 0 ≤ a1_1 then (if a1_1 < (a0_0.size : Int) then ((riverbankref02_Kind.f k (bt a0_0 a1_1)).bind fun t294 => (riverbankref06_Apply.j0 k (t294 == 75) a0_0 a0_1 a0_2 a0_3 a1_0 a1_1)) else (none)) else (none)) = some (r1, r2, r3, r4, r5, r6) := by rw [if_pos rfl] at H; exact H
                      clear H
                      have H := H1
                      clear H1
                      by_cases c28 : 0 ≤ a1_1
                      · rw [if_pos c28] at H
                        have c28b0 : decide (0 ≤ a1_1) = true := decide_eq_true c28
                        clear c28
                        by_cases c29 : a1_1 < (a0_0.size : Int)
                        · rw [if_pos c29] at H
                          have c29b0 : decide (a1_1 < (a0_0.size : Int)) = true := decide_eq_true c29
                          clear c29
                          replace H := Option.bind_eq_some_iff.mp H
                          obtain ⟨t294, A310, H⟩ := H
                          replace H : (riverbankref06_Apply.j0 k (t294 == 75) a0_0 a0_1 a0_2 a0_3 a1_0 a1_1) = some (r1, r2, r3, r4, r5, r6) := H
                          have A31 := Aside0.mk A310
                          clear A310
                          have H' := Aside0.mk H
                          clear H
                          try go_wp2
                          have n0_ := Aside0.mk (blk_drew BK288.out)
                          have n1_ := Aside0.mk (blk_drew BK289.out)
                          have n2_ := Aside0.mk (blk_drew BK290.out)
                          have n3_ := Aside0.mk (below_drew1 HB.out)
                          clear BK288
                          clear BK289
                          clear BK290
                          clear HB
                          have BK288 := n0_
                          have BK289 := n1_
                          have BK290 := n2_
                          have HB := n3_
                          clear n0_ n1_ n2_ n3_
                          have p23 : 0 ≤ (a1_0 : Int) := of_decide_eq_true (by first | (with_reducible assumption) | assumption)
                          have q23 : a1_0 < (a0_0.size : Int) := of_decide_eq_true (by first | (with_reducible assumption) | assumption)
                          have hx23 := bt_at a0_0 a1_0
                          replace p23 := eq_true p23
                          replace q23 := eq_true q23
                          refine start_ (n := 48) (S := fun w' => w'.cell? ⟨gb289, 0, none⟩ = some (.int .i64 a1_0) ∧ w'.cell? ⟨gb289, 1, none⟩ = some (.int .i64 a1_1) ∧ w'.cell? ⟨gb288, 0, none⟩ = some (.string a0_0) ∧ w'.cell? ⟨gb288, 1, none⟩ = some (.int .i64 a0_1) ∧ w'.cell? ⟨gb288, 2, none⟩ = some (.int .i64 a0_2) ∧ w'.cell? ⟨gb288, 3, none⟩ = some (.int .i64 a0_3)) (ds := []) #[false, false, false, false, false, false, false, false, false, false, false, false, false, false, false, false, false, false, false, false, false, false, false, false, false, false, false, false, false, false, false, false, false, false, false, false, false, false, false, false, false, false, false, false, false, false, false, false] (by kernel_rfl) rfl rfl ⟨(blk_cell BK289.out 0).trans rfl, (blk_cell BK289.out 1).trans rfl, (blk_cell BK288.out 0).trans rfl, (blk_cell BK288.out 1).trans rfl, (blk_cell BK288.out 2).trans rfl, (blk_cell BK288.out 3).trans rfl⟩ (fun hHeld => ?_); refine with_tabW riverbankref06_Apply.tab4 riverbankref06_Apply.bits4 (fun HT_ HW_ => ?_)
                          generalize w12.drew = w32 at BK288 BK289 BK290 HB hHeld ⊢
                          refine pure_ (i := 0) (N := some 16) (v := ?_) (a' := ?_) #[true, false, false, false, false, false, false, false, false, false, false, false, false, false, false, false, false, false, false, false, false, false, false, false, false, false, false, false, false, false, false, false, false, false, false, false, false, false, false, false, false, false, false, false, false, false, false, false] rfl rfl (any_of HT_.out (by kernel_rfl)) (fun _ _ _ h => h) (Or.inl ⟨by rfl, ?_⟩) ?_ ?_
                          rotate_left
                          · intro w'
                            go_simp
                            with_reducible rfl
                          rotate_left
                          · simp only [Act.put, List.setIfInBounds_toArray, List.set_cons_zero, List.set_cons_succ, i64_w, i32_w]
                            rfl
                          refine take_ (i := 1) (N := some 17) (v := ?_) (a' := ?_) #[true, true, false, false, false, false, false, false, false, false, false, false, false, false, false, false, false, false, false, false, false, false, false, false, false, false, false, false, false, false, false, false, false, false, false, false, false, false, false, false, false, false, false, false, false, false, false, false] rfl rfl (take_ofW HT_.out HW_.out (by kernel_rfl)) (fun _ _ _ h => h) (Or.inl ⟨by rfl, ?_⟩) hHeld ?_ ?_
                          rotate_left
                          · rintro w' ⟨s0, s1, s2, s3, s4, s5⟩
                            go_simp
                            with_reducible rfl
                          rotate_left
                          · simp only [Act.put, List.setIfInBounds_toArray, List.set_cons_zero, List.set_cons_succ, i64_w, i32_w]
                            rfl
                          refine pure_ (i := 2) (N := some 18) (v := ?_) (a' := ?_) #[true, true, true, false, false, false, false, false, false, false, false, false, false, false, false, false, false, false, false, false, false, false, false, false, false, false, false, false, false, false, false, false, false, false, false, false, false, false, false, false, false, false, false, false, false, false, false, false] rfl rfl (any_of HT_.out (by kernel_rfl)) (fun _ _ _ h => h) (Or.inl ⟨by rfl, ?_⟩) ?_ ?_
                          rotate_left
                          · intro w'
                            go_simp
                            with_reducible rfl
                          rotate_left
                          · simp only [Act.put, List.setIfInBounds_toArray, List.set_cons_zero, List.set_cons_succ, i64_w, i32_w]
                            rfl
                          refine pure_ (i := 3) (N := some 19) (v := ?_) (a' := ?_) #[true, true, true, true, false, false, false, false, false, false, false, false, false, false, false, false, false, false, false, false, false, false, false, false, false, false, false, false, false, false, false, false, false, false, false, false, false, false, false, false, false, false, false, false, false, false, false, false] rfl rfl (any_of HT_.out (by kernel_rfl)) (fun _ _ _ h => h) (Or.inl ⟨by rfl, ?_⟩) ?_ ?_
                          rotate_left
                          · intro w'
                            go_simp
                            with_reducible rfl
                          rotate_left
                          · simp only [Act.put, List.setIfInBounds_toArray, List.set_cons_zero, List.set_cons_succ, i64_w, i32_w]
                            rfl
                          refine pure_ (i := 4) (N := some 20) (v := ?_) (a' := ?_) #[true, true, true, true, true, false, false, false, false, false, false, false, false, false, false, false, false, false, false, false, false, false, false, false, false, false, false, false, false, false, false, false, false, false, false, false, false, false, false, false, false, false, false, false, false, false, false, false] rfl rfl (any_of HT_.out (by kernel_rfl)) (fun _ _ _ h => h) (Or.inl ⟨by rfl, ?_⟩) ?_ ?_
                          rotate_left
                          · intro w'
                            go_simp
                            with_reducible rfl
                          rotate_left
                          · simp only [Act.put, List.setIfInBounds_toArray, List.set_cons_zero, List.set_cons_succ, i64_w, i32_w]
                            rfl
                          refine take_ (i := 5) (N := some 21) (v := ?_) (a' := ?_) #[true, true, true, true, true, true, false, false, false, false, false, false, false, false, false, false, false, false, false, false, false, false, false, false, false, false, false, false, false, false, false, false, false, false, false, false, false, false, false, false, false, false, false, false, false, false, false, false] rfl rfl (take_ofW HT_.out HW_.out (by kernel_rfl)) (fun _ _ _ h => h) (Or.inl ⟨by rfl, ?_⟩) hHeld ?_ ?_
                          rotate_left
                          · rintro w' ⟨s0, s1, s2, s3, s4, s5⟩
                            go_simp
                            with_reducible rfl
                          rotate_left
                          · simp only [Act.put, List.setIfInBounds_toArray, List.set_cons_zero, List.set_cons_succ, i64_w, i32_w]
                            rfl
                          refine pure_ (i := 6) (N := some 22) (v := ?_) (a' := ?_) #[true, true, true, true, true, true, true, false, false, false, false, false, false, false, false, false, false, false, false, false, false, false, false, false, false, false, false, false, false, false, false, false, false, false, false, false, false, false, false, false, false, false, false, false, false, false, false, false] rfl rfl (any_of HT_.out (by kernel_rfl)) (fun _ _ _ h => h) (Or.inl ⟨by rfl, ?_⟩) ?_ ?_
                          rotate_left
                          · intro w'
                            go_simp
                            with_reducible rfl
                          rotate_left
                          · simp only [Act.put, List.setIfInBounds_toArray, List.set_cons_zero, List.set_cons_succ, i64_w, i32_w]
                            rfl
                          refine pure_ (i := 7) (N := some 23) (v := ?_) (a' := ?_) #[true, true, true, true, true, true, true, true, false, false, false, false, false, false, false, false, false, false, false, false, false, false, false, false, false, false, false, false, false, false, false, false, false, false, false, false, false, false, false, false, false, false, false, false, false, false, false, false] rfl rfl (any_of HT_.out (by kernel_rfl)) (fun _ _ _ h => h) (Or.inl ⟨by rfl, ?_⟩) ?_ ?_
                          rotate_left
                          · intro w'
                            go_simp
                            with_reducible rfl
                          rotate_left
                          · simp only [Act.put, List.setIfInBounds_toArray, List.set_cons_zero, List.set_cons_succ, i64_w, i32_w]
                            rfl
                          refine pure_ (i := 8) (N := some 24) (v := ?_) (a' := ?_) #[true, true, true, true, true, true, true, true, true, false, false, false, false, false, false, false, false, false, false, false, false, false, false, false, false, false, false, false, false, false, false, false, false, false, false, false, false, false, false, false, false, false, false, false, false, false, false, false] rfl rfl (any_of HT_.out (by kernel_rfl)) (fun _ _ _ h => h) (Or.inl ⟨by rfl, ?_⟩) ?_ ?_
                          rotate_left
                          · intro w'
                            go_simp
                            with_reducible rfl
                          rotate_left
                          · simp only [Act.put, List.setIfInBounds_toArray, List.set_cons_zero, List.set_cons_succ, i64_w, i32_w]
                            rfl
                          refine pure_ (i := 9) (N := some 25) (v := ?_) (a' := ?_) #[true, true, true, true, true, true, true, true, true, true, false, false, false, false, false, false, false, false, false, false, false, false, false, false, false, false, false, false, false, false, false, false, false, false, false, false, false, false, false, false, false, false, false, false, false, false, false, false] rfl rfl (any_of HT_.out (by kernel_rfl)) (fun _ _ _ h => h) (Or.inl ⟨by rfl, ?_⟩) ?_ ?_
                          rotate_left
                          · intro w'
                            go_simp
                            with_reducible rfl
                          rotate_left
                          · simp only [Act.put, List.setIfInBounds_toArray, List.set_cons_zero, List.set_cons_succ, i64_w, i32_w]
                            rfl
                          refine take_ (i := 10) (N := some 26) (v := ?_) (a' := ?_) #[true, true, true, true, true, true, true, true, true, true, true, false, false, false, false, false, false, false, false, false, false, false, false, false, false, false, false, false, false, false, false, false, false, false, false, false, false, false, false, false, false, false, false, false, false, false, false, false] rfl rfl (take_ofW HT_.out HW_.out (by kernel_rfl)) (fun _ _ _ h => h) (Or.inl ⟨by rfl, ?_⟩) hHeld ?_ ?_
                          rotate_left
                          · rintro w' ⟨s0, s1, s2, s3, s4, s5⟩
                            go_simp
                            with_reducible rfl
                          rotate_left
                          · simp only [Act.put, List.setIfInBounds_toArray, List.set_cons_zero, List.set_cons_succ, i64_w, i32_w]
                            rfl
                          refine pure_ (i := 11) (N := some 27) (v := ?_) (a' := ?_) #[true, true, true, true, true, true, true, true, true, true, true, true, false, false, false, false, false, false, false, false, false, false, false, false, false, false, false, false, false, false, false, false, false, false, false, false, false, false, false, false, false, false, false, false, false, false, false, false] rfl rfl (any_of HT_.out (by kernel_rfl)) (fun _ _ _ h => h) (Or.inl ⟨by rfl, ?_⟩) ?_ ?_
                          rotate_left
                          · intro w'
                            go_simp
                            with_reducible rfl
                          rotate_left
                          · simp only [Act.put, List.setIfInBounds_toArray, List.set_cons_zero, List.set_cons_succ, i64_w, i32_w]
                            rfl
                          refine pure_ (i := 12) (N := some 28) (v := ?_) (a' := ?_) #[true, true, true, true, true, true, true, true, true, true, true, true, true, false, false, false, false, false, false, false, false, false, false, false, false, false, false, false, false, false, false, false, false, false, false, false, false, false, false, false, false, false, false, false, false, false, false, false] rfl rfl (any_of HT_.out (by kernel_rfl)) (fun _ _ _ h => h) (Or.inl ⟨by rfl, ?_⟩) ?_ ?_
                          rotate_left
                          · intro w'
                            go_simp
                            with_reducible rfl
                          rotate_left
                          · simp only [Act.put, List.setIfInBounds_toArray, List.set_cons_zero, List.set_cons_succ, i64_w, i32_w]
                            rfl
                          refine pure_ (i := 13) (N := some 29) (v := ?_) (a' := ?_) #[true, true, true, true, true, true, true, true, true, true, true, true, true, true, false, false, false, false, false, false, false, false, false, false, false, false, false, false, false, false, false, false, false, false, false, false, false, false, false, false, false, false, false, false, false, false, false, false] rfl rfl (any_of HT_.out (by kernel_rfl)) (fun _ _ _ h => h) (Or.inl ⟨by rfl, ?_⟩) ?_ ?_
                          rotate_left
                          · intro w'
                            go_simp
                            with_reducible rfl
                          rotate_left
                          · simp only [Act.put, List.setIfInBounds_toArray, List.set_cons_zero, List.set_cons_succ, i64_w, i32_w]
                            rfl
                          refine pure_ (i := 14) (N := some 30) (v := ?_) (a' := ?_) #[true, true, true, true, true, true, true, true, true, true, true, true, true, true, true, false, false, false, false, false, false, false, false, false, false, false, false, false, false, false, false, false, false, false, false, false, false, false, false, false, false, false, false, false, false, false, false, false] rfl rfl (any_of HT_.out (by kernel_rfl)) (fun _ _ _ h => h) (Or.inl ⟨by rfl, ?_⟩) ?_ ?_
                          rotate_left
                          · intro w'
                            go_simp
                            with_reducible rfl
                          rotate_left
                          · simp only [Act.put, List.setIfInBounds_toArray, List.set_cons_zero, List.set_cons_succ, i64_w, i32_w]
                            rfl
                          refine take_ (i := 15) (N := some 31) (v := ?_) (a' := ?_) #[true, true, true, true, true, true, true, true, true, true, true, true, true, true, true, true, false, false, false, false, false, false, false, false, false, false, false, false, false, false, false, false, false, false, false, false, false, false, false, false, false, false, false, false, false, false, false, false] rfl rfl (take_ofW HT_.out HW_.out (by kernel_rfl)) (fun _ _ _ h => h) (Or.inl ⟨by rfl, ?_⟩) hHeld ?_ ?_
                          rotate_left
                          · rintro w' ⟨s0, s1, s2, s3, s4, s5⟩
                            go_simp
                            with_reducible rfl
                          rotate_left
                          · simp only [Act.put, List.setIfInBounds_toArray, List.set_cons_zero, List.set_cons_succ, i64_w, i32_w]
                            rfl
                          refine pure_ (i := 16) (N := some 32) (v := ?_) (a' := ?_) #[true, true, true, true, true, true, true, true, true, true, true, true, true, true, true, true, true, false, false, false, false, false, false, false, false, false, false, false, false, false, false, false, false, false, false, false, false, false, false, false, false, false, false, false, false, false, false, false] rfl rfl (any_of HT_.out (by kernel_rfl)) (fun _ _ _ h => h) (Or.inl ⟨by rfl, ?_⟩) ?_ ?_
                          rotate_left
                          · intro w'
                            go_simp
                            with_reducible rfl
                          rotate_left
                          · simp only [Act.put, List.setIfInBounds_toArray, List.set_cons_zero, List.set_cons_succ, i64_w, i32_w]
                            rfl
                          refine pure_ (i := 17) (N := some 33) (v := ?_) (a' := ?_) #[true, true, true, true, true, true, true, true, true, true, true, true, true, true, true, true, true, true, false, false, false, false, false, false, false, false, false, false, false, false, false, false, false, false, false, false, false, false, false, false, false, false, false, false, false, false, false, false] rfl rfl (any_of HT_.out (by kernel_rfl)) (fun _ _ _ h => h) (Or.inl ⟨by rfl, ?_⟩) ?_ ?_
                          rotate_left
                          · intro w'
                            go_simp
                            with_reducible rfl
                          rotate_left
                          · simp only [Act.put, List.setIfInBounds_toArray, List.set_cons_zero, List.set_cons_succ, i64_w, i32_w]
                            rfl
                          refine pure_ (i := 18) (N := some 34) (v := ?_) (a' := ?_) #[true, true, true, true, true, true, true, true, true, true, true, true, true, true, true, true, true, true, true, false, false, false, false, false, false, false, false, false, false, false, false, false, false, false, false, false, false, false, false, false, false, false, false, false, false, false, false, false] rfl rfl (any_of HT_.out (by kernel_rfl)) (fun _ _ _ h => h) (Or.inl ⟨by rfl, ?_⟩) ?_ ?_
                          rotate_left
                          · intro w'
                            go_simp
                            with_reducible rfl
                          rotate_left
                          · simp only [Act.put, List.setIfInBounds_toArray, List.set_cons_zero, List.set_cons_succ, i64_w, i32_w]
                            rfl
                          refine pure_ (i := 19) (N := some 35) (v := ?_) (a' := ?_) #[true, true, true, true, true, true, true, true, true, true, true, true, true, true, true, true, true, true, true, true, false, false, false, false, false, false, false, false, false, false, false, false, false, false, false, false, false, false, false, false, false, false, false, false, false, false, false, false] rfl rfl (any_of HT_.out (by kernel_rfl)) (fun _ _ _ h => h) (Or.inl ⟨by rfl, ?_⟩) ?_ ?_
                          rotate_left
                          · intro w'
                            go_simp
                            with_reducible rfl
                          rotate_left
                          · simp only [Act.put, List.setIfInBounds_toArray, List.set_cons_zero, List.set_cons_succ, i64_w, i32_w]
                            rfl
                          refine pure_ (i := 21) (N := some 37) (v := ?_) (a' := ?_) #[true, true, true, true, true, true, true, true, true, true, true, true, true, true, true, true, true, true, true, true, false, true, false, false, false, false, false, false, false, false, false, false, false, false, false, false, false, false, false, false, false, false, false, false, false, false, false, false] rfl rfl (any_of HT_.out (by kernel_rfl)) (fun _ _ _ h => h) (Or.inl ⟨by rfl, ?_⟩) ?_ ?_
                          rotate_left
                          · intro w'
                            go_simp
                            with_reducible rfl
                          rotate_left
                          · simp only [Act.put, List.setIfInBounds_toArray, List.set_cons_zero, List.set_cons_succ, i64_w, i32_w]
                            rfl
                          refine pure_ (i := 25) (N := some 41) (v := ?_) (a' := ?_) #[true, true, true, true, true, true, true, true, true, true, true, true, true, true, true, true, true, true, true, true, false, true, false, false, false, true, false, false, false, false, false, false, false, false, false, false, false, false, false, false, false, false, false, false, false, false, false, false] rfl rfl (any_of HT_.out (by kernel_rfl)) (fun _ _ _ h => h) (Or.inl ⟨by rfl, ?_⟩) ?_ ?_
                          rotate_left
                          · intro w'
                            go_simp
                            with_reducible rfl
                          rotate_left
                          · simp only [Act.put, List.setIfInBounds_toArray, List.set_cons_zero, List.set_cons_succ, i64_w, i32_w]
                            rfl
                          refine take_ (i := 20) (N := some 36) (v := ?_) (a' := ?_) #[true, true, true, true, true, true, true, true, true, true, true, true, true, true, true, true, true, true, true, true, true, true, false, false, false, true, false, false, false, false, false, false, false, false, false, false, false, false, false, false, false, false, false, false, false, false, false, false] rfl rfl (take_ofW HT_.out HW_.out (by kernel_rfl)) (fun _ _ _ h => h) (Or.inl ⟨by rfl, ?_⟩) hHeld ?_ ?_
                          rotate_left
                          · rintro w' ⟨s0, s1, s2, s3, s4, s5⟩
                            go_simp
                            with_reducible rfl
                          rotate_left
                          · simp only [Act.put, List.setIfInBounds_toArray, List.set_cons_zero, List.set_cons_succ, i64_w, i32_w]
                            rfl
                          refine take_ (i := 22) (N := some 38) (v := ?_) (a' := ?_) #[true, true, true, true, true, true, true, true, true, true, true, true, true, true, true, true, true, true, true, true, true, true, true, false, false, true, false, false, false, false, false, false, false, false, false, false, false, false, false, false, false, false, false, false, false, false, false, false] rfl rfl (take_ofW HT_.out HW_.out (by kernel_rfl)) (fun _ _ _ h => h) (Or.inl ⟨by rfl, ?_⟩) hHeld ?_ ?_
                          rotate_left
                          · rintro w' ⟨s0, s1, s2, s3, s4, s5⟩
                            go_simp
                            with_reducible rfl
                          rotate_left
                          · simp only [Act.put, List.setIfInBounds_toArray, List.set_cons_zero, List.set_cons_succ, i64_w, i32_w]
                            rfl
                          refine take_ (i := 23) (N := some 39) (v := ?_) (a' := ?_) #[true, true, true, true, true, true, true, true, true, true, true, true, true, true, true, true, true, true, true, true, true, true, true, true, false, true, false, false, false, false, false, false, false, false, false, false, false, false, false, false, false, false, false, false, false, false, false, false] rfl rfl (take_ofW HT_.out HW_.out (by kernel_rfl)) (fun _ _ _ h => h) (Or.inl ⟨by rfl, ?_⟩) hHeld ?_ ?_
                          rotate_left
                          · rintro w' ⟨s0, s1, s2, s3, s4, s5⟩
                            go_simp
                            with_reducible rfl
                          rotate_left
                          · simp only [Act.put, List.setIfInBounds_toArray, List.set_cons_zero, List.set_cons_succ, i64_w, i32_w]
                            rfl
                          refine take_ (i := 26) (N := some 42) (v := ?_) (a' := ?_) #[true, true, true, true, true, true, true, true, true, true, true, true, true, true, true, true, true, true, true, true, true, true, true, true, false, true, true, false, false, false, false, false, false, false, false, false, false, false, false, false, false, false, false, false, false, false, false, false] rfl rfl (take_ofW HT_.out HW_.out (by kernel_rfl)) (fun _ _ _ h => h) (Or.inl ⟨by rfl, ?_⟩) hHeld ?_ ?_
                          rotate_left
                          · rintro w' ⟨s0, s1, s2, s3, s4, s5⟩
                            go_simp
                            with_reducible rfl
                          rotate_left
                          · simp only [Act.put, List.setIfInBounds_toArray, List.set_cons_zero, List.set_cons_succ, i64_w, i32_w]
                            rfl
                          refine one_ (i := 24) (N := some 40) #[true, true, true, true, true, true, true, true, true, true, true, true, true, true, true, true, true, true, true, true, true, true, true, true, true, true, true, false, false, false, false, false, false, false, false, false, false, false, false, false, false, false, false, false, false, false, false, false] rfl rfl (one_of HT_.out (by kernel_rfl)) (by decide) (fun K hK => ?_)
                          refine goes_ Try.func26 (by kernel_rfl) rfl #[.int .u8 (bt a0_0 a1_0)] (by rfl) rfl rfl (by (try simp only [List.map_toArray, List.map_cons, List.map_nil]); first | done | rfl | (simp only [List.length_drop, List.length_take]; rfl)) ?_
                          with_reducible refine (riverbankref02_Side.calls k (bt a0_0 a1_0) t292 _ A24.out).mono ?_
                          rintro e w' ⟨rfl, ⟨nd, rfl⟩⟩
                          refine ⟨_, rfl, ?_⟩
                          refine hK.out _ _ ⟨(blk_cell BK289.out 0).trans rfl, (blk_cell BK289.out 1).trans rfl, (blk_cell BK288.out 0).trans rfl, (blk_cell BK288.out 1).trans rfl, (blk_cell BK288.out 2).trans rfl, (blk_cell BK288.out 3).trans rfl⟩ (fun hHeld => ?_)
                          clear hK K
                          refine norm_ (a' := ?_) ?_ ?_
                          rotate_left
                          · show Act.put _ (some 40) _ = _
                            simp only [Act.put, List.setIfInBounds_toArray, List.set_cons_zero, List.set_cons_succ, i64_w, i32_w]
                            rfl
                          refine pure_ (i := 27) (N := some 43) (v := ?_) (a' := ?_) #[true, true, true, true, true, true, true, true, true, true, true, true, true, true, true, true, true, true, true, true, true, true, true, true, true, true, true, true, false, false, false, false, false, false, false, false, false, false, false, false, false, false, false, false, false, false, false, false] rfl rfl (any_of HT_.out (by kernel_rfl)) (fun _ _ _ h => h) (Or.inl ⟨by rfl, ?_⟩) ?_ ?_
                          rotate_left
                          · intro w'
                            go_simp
                            with_reducible rfl
                          rotate_left
                          · simp only [Act.put, List.setIfInBounds_toArray, List.set_cons_zero, List.set_cons_succ, i64_w, i32_w]
                            rfl
                          refine pure_ (i := 28) (N := some 44) (v := ?_) (a' := ?_) #[true, true, true, true, true, true, true, true, true, true, true, true, true, true, true, true, true, true, true, true, true, true, true, true, true, true, true, true, true, false, false, false, false, false, false, false, false, false, false, false, false, false, false, false, false, false, false, false] rfl rfl (any_of HT_.out (by kernel_rfl)) (fun _ _ _ h => h) (Or.inl ⟨by rfl, ?_⟩) ?_ ?_
                          rotate_left
                          · intro w'
                            go_simp
                            with_reducible rfl
                          rotate_left
                          · simp only [Act.put, List.setIfInBounds_toArray, List.set_cons_zero, List.set_cons_succ, i64_w, i32_w]
                            rfl
                          refine pure_ (i := 29) (N := some 45) (v := ?_) (a' := ?_) #[true, true, true, true, true, true, true, true, true, true, true, true, true, true, true, true, true, true, true, true, true, true, true, true, true, true, true, true, true, true, false, false, false, false, false, false, false, false, false, false, false, false, false, false, false, false, false, false] rfl rfl (any_of HT_.out (by kernel_rfl)) (fun _ _ _ h => h) (Or.inl ⟨by rfl, ?_⟩) ?_ ?_
                          rotate_left
                          · intro w'
                            go_simp
                            with_reducible rfl
                          rotate_left
                          · simp only [Act.put, List.setIfInBounds_toArray, List.set_cons_zero, List.set_cons_succ, i64_w, i32_w]
                            rfl
                          refine pure_ (i := 30) (N := some 46) (v := ?_) (a' := ?_) #[true, true, true, true, true, true, true, true, true, true, true, true, true, true, true, true, true, true, true, true, true, true, true, true, true, true, true, true, true, true, true, false, false, false, false, false, false, false, false, false, false, false, false, false, false, false, false, false] rfl rfl (any_of HT_.out (by kernel_rfl)) (fun _ _ _ h => h) (Or.inl ⟨by rfl, ?_⟩) ?_ ?_
                          rotate_left
                          · intro w'
                            go_simp
                            with_reducible rfl
                          rotate_left
                          · simp only [Act.put, List.setIfInBounds_toArray, List.set_cons_zero, List.set_cons_succ, i64_w, i32_w]
                            rfl
                          refine pure_ (i := 32) (N := some 48) (v := ?_) (a' := ?_) #[true, true, true, true, true, true, true, true, true, true, true, true, true, true, true, true, true, true, true, true, true, true, true, true, true, true, true, true, true, true, true, false, true, false, false, false, false, false, false, false, false, false, false, false, false, false, false, false] rfl rfl (any_of HT_.out (by kernel_rfl)) (fun _ _ _ h => h) (Or.inl ⟨by rfl, ?_⟩) ?_ ?_
                          rotate_left
                          · intro w'
                            go_simp
                            with_reducible rfl
                          rotate_left
                          · simp only [Act.put, List.setIfInBounds_toArray, List.set_cons_zero, List.set_cons_succ, i64_w, i32_w]
                            rfl
                          refine pure_ (i := 34) (N := some 50) (v := ?_) (a' := ?_) #[true, true, true, true, true, true, true, true, true, true, true, true, true, true, true, true, true, true, true, true, true, true, true, true, true, true, true, true, true, true, true, false, true, false, true, false, false, false, false, false, false, false, false, false, false, false, false, false] rfl rfl (any_of HT_.out (by kernel_rfl)) (fun _ _ _ h => h) (Or.inl ⟨by rfl, ?_⟩) ?_ ?_
                          rotate_left
                          · intro w'
                            go_simp
                            with_reducible rfl
                          rotate_left
                          · simp only [Act.put, List.setIfInBounds_toArray, List.set_cons_zero, List.set_cons_succ, i64_w, i32_w]
                            rfl
                          refine take_ (i := 31) (N := some 47) (v := ?_) (a' := ?_) #[true, true, true, true, true, true, true, true, true, true, true, true, true, true, true, true, true, true, true, true, true, true, true, true, true, true, true, true, true, true, true, true, true, false, true, false, false, false, false, false, false, false, false, false, false, false, false, false] rfl rfl (take_ofW HT_.out HW_.out (by kernel_rfl)) (fun _ _ _ h => h) (Or.inl ⟨by rfl, ?_⟩) hHeld ?_ ?_
                          rotate_left
                          · rintro w' ⟨s0, s1, s2, s3, s4, s5⟩
                            go_simp
                            with_reducible rfl
                          rotate_left
                          · simp only [Act.put, List.setIfInBounds_toArray, List.set_cons_zero, List.set_cons_succ, i64_w, i32_w]
                            rfl
                          refine take_ (i := 33) (N := some 49) (v := ?_) (a' := ?_) #[true, true, true, true, true, true, true, true, true, true, true, true, true, true, true, true, true, true, true, true, true, true, true, true, true, true, true, true, true, true, true, true, true, true, true, false, false, false, false, false, false, false, false, false, false, false, false, false] rfl rfl (take_ofW HT_.out HW_.out (by kernel_rfl)) (fun _ _ _ h => h) (Or.inl ⟨by rfl, ?_⟩) hHeld ?_ ?_
                          rotate_left
                          · rintro w' ⟨s0, s1, s2, s3, s4, s5⟩
                            go_simp
                            with_reducible rfl
                          rotate_left
                          · simp only [Act.put, List.setIfInBounds_toArray, List.set_cons_zero, List.set_cons_succ, i64_w, i32_w]
                            rfl
                          refine take_ (i := 35) (N := some 51) (v := ?_) (a' := ?_) #[true, true, true, true, true, true, true, true, true, true, true, true, true, true, true, true, true, true, true, true, true, true, true, true, true, true, true, true, true, true, true, true, true, true, true, true, false, false, false, false, false, false, false, false, false, false, false, false] rfl rfl (take_ofW HT_.out HW_.out (by kernel_rfl)) (fun _ _ _ h => h) (Or.inl ⟨by rfl, ?_⟩) hHeld ?_ ?_
                          rotate_left
                          · rintro w' ⟨s0, s1, s2, s3, s4, s5⟩
                            go_simp
                            with_reducible rfl
                          rotate_left
                          · simp only [Act.put, List.setIfInBounds_toArray, List.set_cons_zero, List.set_cons_succ, i64_w, i32_w]
                            rfl
                          refine one_ (i := 36) (N := some 52) #[true, true, true, true, true, true, true, true, true, true, true, true, true, true, true, true, true, true, true, true, true, true, true, true, true, true, true, true, true, true, true, true, true, true, true, true, true, false, false, false, false, false, false, false, false, false, false, false] rfl rfl (one_of HT_.out (by kernel_rfl)) (by decide) (fun K hK => ?_)
                          refine goes_ Try.func76 (by kernel_rfl) rfl #[.string a0_0, .int .i64 a1_0, .int .i64 a1_1] (by rfl) rfl rfl (by (try simp only [List.map_toArray, List.map_cons, List.map_nil]); first | done | rfl | (simp only [List.length_drop, List.length_take]; rfl)) ?_
                          with_reducible refine (riverbankref05_Fast.calls k a0_0 a1_0 a1_1 true _ A26.out).mono ?_
                          rintro e w33 ⟨rfl, hb⟩
                          refine ⟨_, rfl, ?_⟩
                          have n0_ := Aside0.mk (blk_below (g := gb288) (o := .cells #[.string a0_0, .int .i64 a0_1, .int .i64 a0_2, .int .i64 a0_3] 29 (0, 0)) (by (with_reducible repeat (first | refine blk_drewN ?_ _ | refine blk_drew ?_ | refine blk_alloc ?_ _)); exact BK288.out) hb)
                          have n1_ := Aside0.mk (blk_below (g := gb289) (o := .cells #[.int .i64 a1_0, .int .i64 a1_1] 41 (0, 0)) (by (with_reducible repeat (first | refine blk_drewN ?_ _ | refine blk_drew ?_ | refine blk_alloc ?_ _)); exact BK289.out) hb)
                          have n2_ := Aside0.mk (blk_below (g := gb290) (o := .cells #[.string (⟨#[]⟩ : ByteArray), .int .i64 0, .int .i64 0, .int .i64 0] 29 (0, 0)) (by (with_reducible repeat (first | refine blk_drewN ?_ _ | refine blk_drew ?_ | refine blk_alloc ?_ _)); exact BK290.out) hb)
                          have n3_ := Aside0.mk (below_step (by repeat (first | (with_reducible first | exact HB.out | apply below_alloc | apply pw_below_drewN | apply below_drew1 | refine below_set ?_ GE288.out | refine below_set ?_ GE289.out | refine below_set ?_ GE290.out) | exact HB.out)) hb)
                          clear BK288
                          clear BK289
                          clear BK290
                          clear HB
                          have BK288 := n0_
                          have BK289 := n1_
                          have BK290 := n2_
                          have HB := n3_
                          clear n0_ n1_ n2_ n3_
                          (try clear hb)
                          (try clear hb2)
                          (try clear hk)
                          (try clear hi)
                          have p30 : 0 ≤ (a1_1 : Int) := of_decide_eq_true (by first | (with_reducible assumption) | assumption)
                          have q30 : a1_1 < (a0_0.size : Int) := of_decide_eq_true (by first | (with_reducible assumption) | assumption)
                          have hx30 := bt_at a0_0 a1_1
                          replace p30 := eq_true p30
                          replace q30 := eq_true q30
                          refine hK.out _ _ ⟨(blk_cell BK289.out 0).trans rfl, (blk_cell BK289.out 1).trans rfl, (blk_cell BK288.out 0).trans rfl, (blk_cell BK288.out 1).trans rfl, (blk_cell BK288.out 2).trans rfl, (blk_cell BK288.out 3).trans rfl⟩ (fun hHeld => ?_)
                          clear hK K
                          refine norm_ (a' := ?_) ?_ ?_
                          rotate_left
                          · show Act.put _ (some 52) _ = _
                            simp only [Act.put, List.setIfInBounds_toArray, List.set_cons_zero, List.set_cons_succ, i64_w, i32_w]
                            rfl
                          refine pure_ (i := 37) (N := some 53) (v := ?_) (a' := ?_) #[true, true, true, true, true, true, true, true, true, true, true, true, true, true, true, true, true, true, true, true, true, true, true, true, true, true, true, true, true, true, true, true, true, true, true, true, true, true, false, false, false, false, false, false, false, false, false, false] rfl rfl (any_of HT_.out (by kernel_rfl)) (fun _ _ _ h => h) (Or.inl ⟨by rfl, ?_⟩) ?_ ?_
                          rotate_left
                          · intro w'
                            go_simp
                            with_reducible rfl
                          rotate_left
                          · simp only [Act.put, List.setIfInBounds_toArray, List.set_cons_zero, List.set_cons_succ, i64_w, i32_w]
                            rfl
                          refine pure_ (i := 38) (N := some 54) (v := ?_) (a' := ?_) #[true, true, true, true, true, true, true, true, true, true, true, true, true, true, true, true, true, true, true, true, true, true, true, true, true, true, true, true, true, true, true, true, true, true, true, true, true, true, true, false, false, false, false, false, false, false, false, false] rfl rfl (any_of HT_.out (by kernel_rfl)) (fun _ _ _ h => h) (Or.inl ⟨by rfl, ?_⟩) ?_ ?_
                          rotate_left
                          · intro w'
                            go_simp
                            with_reducible rfl
                          rotate_left
                          · simp only [Act.put, List.setIfInBounds_toArray, List.set_cons_zero, List.set_cons_succ, i64_w, i32_w]
                            rfl
                          refine pure_ (i := 39) (N := some 55) (v := ?_) (a' := ?_) #[true, true, true, true, true, true, true, true, true, true, true, true, true, true, true, true, true, true, true, true, true, true, true, true, true, true, true, true, true, true, true, true, true, true, true, true, true, true, true, true, false, false, false, false, false, false, false, false] rfl rfl (any_of HT_.out (by kernel_rfl)) (fun _ _ _ h => h) (Or.inl ⟨by rfl, ?_⟩) ?_ ?_
                          rotate_left
                          · intro w'
                            go_simp
                            with_reducible rfl
                          rotate_left
                          · simp only [Act.put, List.setIfInBounds_toArray, List.set_cons_zero, List.set_cons_succ, i64_w, i32_w]
                            rfl
                          refine pure_ (i := 40) (N := some 56) (v := ?_) (a' := ?_) #[true, true, true, true, true, true, true, true, true, true, true, true, true, true, true, true, true, true, true, true, true, true, true, true, true, true, true, true, true, true, true, true, true, true, true, true, true, true, true, true, true, false, false, false, false, false, false, false] rfl rfl (any_of HT_.out (by kernel_rfl)) (fun _ _ _ h => h) (Or.inl ⟨by rfl, ?_⟩) ?_ ?_
                          rotate_left
                          · intro w'
                            go_simp
                            with_reducible rfl
                          rotate_left
                          · simp only [Act.put, List.setIfInBounds_toArray, List.set_cons_zero, List.set_cons_succ, i64_w, i32_w]
                            rfl
                          refine pure_ (i := 42) (N := some 58) (v := ?_) (a' := ?_) #[true, true, true, true, true, true, true, true, true, true, true, true, true, true, true, true, true, true, true, true, true, true, true, true, true, true, true, true, true, true, true, true, true, true, true, true, true, true, true, true, true, false, true, false, false, false, false, false] rfl rfl (any_of HT_.out (by kernel_rfl)) (fun _ _ _ h => h) (Or.inl ⟨by rfl, ?_⟩) ?_ ?_
                          rotate_left
                          · intro w'
                            go_simp
                            with_reducible rfl
                          rotate_left
                          · simp only [Act.put, List.setIfInBounds_toArray, List.set_cons_zero, List.set_cons_succ, i64_w, i32_w]
                            rfl
                          refine take_ (i := 41) (N := some 57) (v := ?_) (a' := ?_) #[true, true, true, true, true, true, true, true, true, true, true, true, true, true, true, true, true, true, true, true, true, true, true, true, true, true, true, true, true, true, true, true, true, true, true, true, true, true, true, true, true, true, true, false, false, false, false, false] rfl rfl (take_ofW HT_.out HW_.out (by kernel_rfl)) (fun _ _ _ h => h) (Or.inl ⟨by rfl, ?_⟩) hHeld ?_ ?_
                          rotate_left
                          · rintro w' ⟨s0, s1, s2, s3, s4, s5⟩
                            go_simp
                            with_reducible rfl
                          rotate_left
                          · simp only [Act.put, List.setIfInBounds_toArray, List.set_cons_zero, List.set_cons_succ, i64_w, i32_w]
                            rfl
                          refine take_ (i := 43) (N := some 59) (v := ?_) (a' := ?_) #[true, true, true, true, true, true, true, true, true, true, true, true, true, true, true, true, true, true, true, true, true, true, true, true, true, true, true, true, true, true, true, true, true, true, true, true, true, true, true, true, true, true, true, true, false, false, false, false] rfl rfl (take_ofW HT_.out HW_.out (by kernel_rfl)) (fun _ _ _ h => h) (Or.inl ⟨by rfl, ?_⟩) hHeld ?_ ?_
                          rotate_left
                          · rintro w' ⟨s0, s1, s2, s3, s4, s5⟩
                            go_simp
                            with_reducible rfl
                          rotate_left
                          · simp only [Act.put, List.setIfInBounds_toArray, List.set_cons_zero, List.set_cons_succ, i64_w, i32_w]
                            rfl
                          refine take_ (i := 44) (N := some 60) (v := ?_) (a' := ?_) #[true, true, true, true, true, true, true, true, true, true, true, true, true, true, true, true, true, true, true, true, true, true, true, true, true, true, true, true, true, true, true, true, true, true, true, true, true, true, true, true, true, true, true, true, true, false, false, false] rfl rfl (take_ofW HT_.out HW_.out (by kernel_rfl)) (fun _ _ _ h => h) (Or.inl ⟨by rfl, ?_⟩) hHeld ?_ ?_
                          rotate_left
                          · rintro w' ⟨s0, s1, s2, s3, s4, s5⟩
                            go_simp
                            with_reducible rfl
                          rotate_left
                          · simp only [Act.put, List.setIfInBounds_toArray, List.set_cons_zero, List.set_cons_succ, i64_w, i32_w]
                            rfl
                          refine one_ (i := 45) (N := some 61) #[true, true, true, true, true, true, true, true, true, true, true, true, true, true, true, true, true, true, true, true, true, true, true, true, true, true, true, true, true, true, true, true, true, true, true, true, true, true, true, true, true, true, true, true, true, true, false, false] rfl rfl (one_of HT_.out (by kernel_rfl)) (by decide) (fun K hK => ?_)
                          refine goes_ Try.func57 (by kernel_rfl) rfl #[.int .u8 (bt a0_0 a1_1)] (by rfl) rfl rfl (by (try simp only [List.map_toArray, List.map_cons, List.map_nil]); first | done | rfl | (simp only [List.length_drop, List.length_take]; rfl)) ?_
                          with_reducible refine (riverbankref02_Kind.calls k (bt a0_0 a1_1) t294 _ A31.out).mono ?_
                          rintro e w' ⟨rfl, ⟨nd, rfl⟩⟩
                          refine ⟨_, rfl, ?_⟩
                          refine hK.out _ _ ⟨(blk_cell BK289.out 0).trans rfl, (blk_cell BK289.out 1).trans rfl, (blk_cell BK288.out 0).trans rfl, (blk_cell BK288.out 1).trans rfl, (blk_cell BK288.out 2).trans rfl, (blk_cell BK288.out 3).trans rfl⟩ (fun hHeld => ?_)
                          clear hK K
                          refine norm_ (a' := ?_) ?_ ?_
                          rotate_left
                          · show Act.put _ (some 61) _ = _
                            simp only [Act.put, List.setIfInBounds_toArray, List.set_cons_zero, List.set_cons_succ, i64_w, i32_w]
                            rfl
                          refine pure_ (i := 46) (N := some 62) (v := ?_) (a' := ?_) #[true, true, true, true, true, true, true, true, true, true, true, true, true, true, true, true, true, true, true, true, true, true, true, true, true, true, true, true, true, true, true, true, true, true, true, true, true, true, true, true, true, true, true, true, true, true, true, false] rfl rfl (any_of HT_.out (by kernel_rfl)) (fun _ _ _ h => h) (Or.inl ⟨by rfl, ?_⟩) ?_ ?_
                          rotate_left
                          · intro w'
                            go_simp
                            with_reducible rfl
                          rotate_left
                          · simp only [Act.put, List.setIfInBounds_toArray, List.set_cons_zero, List.set_cons_succ, i64_w, i32_w]
                            rfl
                          refine pure_ (i := 47) (N := some 63) (v := ?_) (a' := ?_) #[true, true, true, true, true, true, true, true, true, true, true, true, true, true, true, true, true, true, true, true, true, true, true, true, true, true, true, true, true, true, true, true, true, true, true, true, true, true, true, true, true, true, true, true, true, true, true, true] rfl rfl (any_of HT_.out (by kernel_rfl)) (fun _ _ _ h => h) (Or.inl ⟨by rfl, ?_⟩) ?_ ?_
                          rotate_left
                          · intro w'
                            go_simp
                            with_reducible rfl
                          rotate_left
                          · simp only [Act.put, List.setIfInBounds_toArray, List.set_cons_zero, List.set_cons_succ, i64_w, i32_w]
                            rfl
                          refine done_ (done_of HT_.out (by kernel_rfl)) ?_
                          try go_wp2
                          go_meet
                          case rel => exact ⟨_, ((t294 == 75)), (by first | rfl | (simp; done) | (simp [*]; done)), H', ⟨by first | omega | exact Nat.le_refl _⟩, ⟨by (with_reducible repeat (first | refine blk_drewN ?_ _ | refine blk_drew ?_ | refine blk_alloc ?_ _)); exact BK288.out⟩, ⟨by (with_reducible repeat (first | refine blk_drewN ?_ _ | refine blk_drew ?_ | refine blk_alloc ?_ _)); exact BK289.out⟩, ⟨by (with_reducible repeat (first | refine blk_drewN ?_ _ | refine blk_drew ?_ | refine blk_alloc ?_ _)); exact BK290.out⟩, ⟨by repeat (first | (with_reducible first | exact HB.out | apply below_alloc | apply pw_below_drewN | apply below_drew1 | refine below_set ?_ GE288.out | refine below_set ?_ GE289.out | refine below_set ?_ GE290.out) | exact HB.out)⟩⟩
                        · rw [if_neg c29] at H
                          exact absurd H (by simp)
                      · rw [if_neg c28] at H
                        exact absurd H (by simp)
                    · rw [if_neg c27] at H; cases H
                  · rw [if_neg c25] at H; cases H
                · rw [if_neg c22] at H
                  exact absurd H (by simp)
              · rw [if_neg c21] at H
                exact absurd H (by simp)
    case rest =>
      clear HC5
      try clear c2
      try clear p2
      try clear q2
      try clear hx2
      try clear c7
      try clear c21
      try clear c22
      try clear p23
      try clear q23
      try clear hx23
      try clear c25
      try clear c25b0
      try clear c25b1
      try clear c26
      try clear p23
      try clear q23
      obtain ⟨kq, x63_4, rfl, HA, HJ4, BK288, BK289, BK290, HB⟩ := hcut
      cases kq with
      | zero => exact absurd HA.out (by simp [riverbankref06_Apply.j0])
      | succ kj4 =>
        have H := HA.out
        clear HA
        simp only [riverbankref06_Apply.j0] at H
        by_cases c37 : x63_4 = true
        · rw [if_pos c37] at H; cases H
        · replace c37 := Bool.eq_false_iff.mpr c37
          subst c37
          have H1 : ((riverbankref06_Moved.f a0_0 a1_0 a1_1).bind fun t295 => (if 0 ≤ a1_1 then (if a1_1 < (a0_0.size : Int) then (if (bt a0_0 a1_1) = 46 then (if a0_1 = 1 then (some (t295, wrap64 (1 - a0_1), mn (wrap64 (a0_2 + 1)) 120, mn (wrap64 (a0_3 + 1)) 9999, 0, 0)) else (some (t295, wrap64 (1 - a0_1), mn (wrap64 (a0_2 + 1)) 120, a0_3, 0, 0))) else (if a0_1 = 1 then (some (t295, wrap64 (1 - a0_1), 0, mn (wrap64 (a0_3 + 1)) 9999, bt a0_0 a1_1, 0)) else (some (t295, wrap64 (1 - a0_1), 0, a0_3, bt a0_0 a1_1, 0)))) else (none)) else (none))) = some (r1, r2, r3, r4, r5, r6) := by rw [if_neg (show ¬ (false = true) by decide)] at H; exact H
          clear H
          have H := H1
          clear H1
          replace H := Option.bind_eq_some_iff.mp H
          obtain ⟨t295, A410, H⟩ := H
          replace H : (if 0 ≤ a1_1 then (if a1_1 < (a0_0.size : Int) then (if (bt a0_0 a1_1) = 46 then (if a0_1 = 1 then (some (t295, wrap64 (1 - a0_1), mn (wrap64 (a0_2 + 1)) 120, mn (wrap64 (a0_3 + 1)) 9999, 0, 0)) else (some (t295, wrap64 (1 - a0_1), mn (wrap64 (a0_2 + 1)) 120, a0_3, 0, 0))) else (if a0_1 = 1 then (some (t295, wrap64 (1 - a0_1), 0, mn (wrap64 (a0_3 + 1)) 9999, bt a0_0 a1_1, 0)) else (some (t295, wrap64 (1 - a0_1), 0, a0_3, bt a0_0 a1_1, 0)))) else (none)) else (none)) = some (r1, r2, r3, r4, r5, r6) := H
          have A41 := Aside0.mk A410
          clear A410
          obtain ⟨ji42, hji42⟩ : ∃ j_ : Int, (mn (wrap64 (a0_2 + 1)) 120) = j_ := ⟨_, rfl⟩
          replace H : (if 0 ≤ a1_1 then (if a1_1 < (a0_0.size : Int) then (if (bt a0_0 a1_1) = 46 then (if a0_1 = 1 then (some (t295, wrap64 (1 - a0_1), ji42, mn (wrap64 (a0_3 + 1)) 9999, 0, 0)) else (some (t295, wrap64 (1 - a0_1), ji42, a0_3, 0, 0))) else (if a0_1 = 1 then (some (t295, wrap64 (1 - a0_1), 0, mn (wrap64 (a0_3 + 1)) 9999, bt a0_0 a1_1, 0)) else (some (t295, wrap64 (1 - a0_1), 0, a0_3, bt a0_0 a1_1, 0)))) else (none)) else (none)) = some (r1, r2, r3, r4, r5, r6) := by first | (rw [hji42] at H; exact H) | (simp only [hji42] at H ⊢; exact H)
          (try rw [hji42] at A41)
          have hji42_ : (if 120 < (wrap64 (a0_2 + 1)) then 120 else (wrap64 (a0_2 + 1))) = ji42 := hji42
          by_cases c43 : 0 ≤ a1_1
          · rw [if_pos c43] at H
            have c43b0 : decide (0 ≤ a1_1) = true := decide_eq_true c43
            clear c43
            by_cases c44 : a1_1 < (a0_0.size : Int)
            · rw [if_pos c44] at H
              have c44b0 : decide (a1_1 < (a0_0.size : Int)) = true := decide_eq_true c44
              clear c44
              have HQ := Aside0.mk H
              clear H
              try go_wp2
              have n0_ := Aside0.mk (blk_drew BK288.out)
              have n1_ := Aside0.mk (blk_drew BK289.out)
              have n2_ := Aside0.mk (blk_drew BK290.out)
              have n3_ := Aside0.mk (below_drew1 HB.out)
              clear BK288
              clear BK289
              clear BK290
              clear HB
              have BK288 := n0_
              have BK289 := n1_
              have BK290 := n2_
              have HB := n3_
              clear n0_ n1_ n2_ n3_
              refine start_ (n := 16) (S := fun w' => w'.cell? ⟨gb288, 0, none⟩ = some (.string a0_0) ∧ w'.cell? ⟨gb288, 1, none⟩ = some (.int .i64 a0_1) ∧ w'.cell? ⟨gb288, 2, none⟩ = some (.int .i64 a0_2) ∧ w'.cell? ⟨gb288, 3, none⟩ = some (.int .i64 a0_3) ∧ w'.cell? ⟨gb289, 0, none⟩ = some (.int .i64 a1_0) ∧ w'.cell? ⟨gb289, 1, none⟩ = some (.int .i64 a1_1)) (ds := []) #[false, false, false, false, false, false, false, false, false, false, false, false, false, false, false, false] (by kernel_rfl) rfl rfl ⟨(blk_cell BK288.out 0).trans rfl, (blk_cell BK288.out 1).trans rfl, (blk_cell BK288.out 2).trans rfl, (blk_cell BK288.out 3).trans rfl, (blk_cell BK289.out 0).trans rfl, (blk_cell BK289.out 1).trans rfl⟩ (fun hHeld => ?_); refine with_tabW riverbankref06_Apply.tab6 riverbankref06_Apply.bits6 (fun HT_ HW_ => ?_)
              generalize wc.drew = w49 at BK288 BK289 BK290 HB hHeld ⊢
              refine pure_ (i := 0) (N := some 65) (v := ?_) (a' := ?_) #[true, false, false, false, false, false, false, false, false, false, false, false, false, false, false, false] rfl rfl (any_of HT_.out (by kernel_rfl)) (fun _ _ _ h => h) (Or.inl ⟨by rfl, ?_⟩) ?_ ?_
              rotate_left
              · intro w'
                go_simp
                with_reducible rfl
              rotate_left
              · simp only [Act.put, List.setIfInBounds_toArray, List.set_cons_zero, List.set_cons_succ, i64_w, i32_w]
                rfl
              refine pure_ (i := 4) (N := some 69) (v := ?_) (a' := ?_) #[true, false, false, false, true, false, false, false, false, false, false, false, false, false, false, false] rfl rfl (any_of HT_.out (by kernel_rfl)) (fun _ _ _ h => h) (Or.inl ⟨by rfl, ?_⟩) ?_ ?_
              rotate_left
              · intro w'
                go_simp
                with_reducible rfl
              rotate_left
              · simp only [Act.put, List.setIfInBounds_toArray, List.set_cons_zero, List.set_cons_succ, i64_w, i32_w]
                rfl
              refine pure_ (i := 7) (N := some 72) (v := ?_) (a' := ?_) #[true, false, false, false, true, false, false, true, false, false, false, false, false, false, false, false] rfl rfl (any_of HT_.out (by kernel_rfl)) (fun _ _ _ h => h) (Or.inl ⟨by rfl, ?_⟩) ?_ ?_
              rotate_left
              · intro w'
                go_simp
                with_reducible rfl
              rotate_left
              · simp only [Act.put, List.setIfInBounds_toArray, List.set_cons_zero, List.set_cons_succ, i64_w, i32_w]
                rfl
              refine pure_ (i := 11) (N := some 76) (v := ?_) (a' := ?_) #[true, false, false, false, true, false, false, true, false, false, false, true, false, false, false, false] rfl rfl (any_of HT_.out (by kernel_rfl)) (fun _ _ _ h => h) (Or.inl ⟨by rfl, ?_⟩) ?_ ?_
              rotate_left
              · intro w'
                go_simp
                with_reducible rfl
              rotate_left
              · simp only [Act.put, List.setIfInBounds_toArray, List.set_cons_zero, List.set_cons_succ, i64_w, i32_w]
                rfl
              refine take_ (i := 1) (N := some 66) (v := ?_) (a' := ?_) #[true, true, false, false, true, false, false, true, false, false, false, true, false, false, false, false] rfl rfl (take_ofW HT_.out HW_.out (by kernel_rfl)) (fun _ _ _ h => h) (Or.inl ⟨by rfl, ?_⟩) hHeld ?_ ?_
              rotate_left
              · rintro w' ⟨s0, s1, s2, s3, s4, s5⟩
                go_simp
                with_reducible rfl
              rotate_left
              · simp only [Act.put, List.setIfInBounds_toArray, List.set_cons_zero, List.set_cons_succ, i64_w, i32_w]
                rfl
              refine take_ (i := 2) (N := some 67) (v := ?_) (a' := ?_) #[true, true, true, false, true, false, false, true, false, false, false, true, false, false, false, false] rfl rfl (take_ofW HT_.out HW_.out (by kernel_rfl)) (fun _ _ _ h => h) (Or.inl ⟨by rfl, ?_⟩) hHeld ?_ ?_
              rotate_left
              · rintro w' ⟨s0, s1, s2, s3, s4, s5⟩
                go_simp
                with_reducible rfl
              rotate_left
              · simp only [Act.put, List.setIfInBounds_toArray, List.set_cons_zero, List.set_cons_succ, i64_w, i32_w]
                rfl
              refine take_ (i := 5) (N := some 70) (v := ?_) (a' := ?_) #[true, true, true, false, true, true, false, true, false, false, false, true, false, false, false, false] rfl rfl (take_ofW HT_.out HW_.out (by kernel_rfl)) (fun _ _ _ h => h) (Or.inl ⟨by rfl, ?_⟩) hHeld ?_ ?_
              rotate_left
              · rintro w' ⟨s0, s1, s2, s3, s4, s5⟩
                go_simp
                with_reducible rfl
              rotate_left
              · simp only [Act.put, List.setIfInBounds_toArray, List.set_cons_zero, List.set_cons_succ, i64_w, i32_w]
                rfl
              refine pure_ (i := 6) (N := some 71) (v := ?_) (a' := ?_) #[true, true, true, false, true, true, true, true, false, false, false, true, false, false, false, false] rfl rfl (any_of HT_.out (by kernel_rfl)) (fun _ _ _ h => h) (Or.inl ⟨by rfl, ?_⟩) ?_ ?_
              rotate_left
              · intro w'
                go_simp
                with_reducible rfl
              rotate_left
              · simp only [Act.put, List.setIfInBounds_toArray, List.set_cons_zero, List.set_cons_succ, i64_w, i32_w]
                rfl
              refine take_ (i := 8) (N := some 73) (v := ?_) (a' := ?_) #[true, true, true, false, true, true, true, true, true, false, false, true, false, false, false, false] rfl rfl (take_ofW HT_.out HW_.out (by kernel_rfl)) (fun _ _ _ h => h) (Or.inl ⟨by rfl, ?_⟩) hHeld ?_ ?_
              rotate_left
              · rintro w' ⟨s0, s1, s2, s3, s4, s5⟩
                go_simp
                with_reducible rfl
              rotate_left
              · simp only [Act.put, List.setIfInBounds_toArray, List.set_cons_zero, List.set_cons_succ, i64_w, i32_w]
                rfl
              refine pure_ (i := 9) (N := some 74) (v := ?_) (a' := ?_) #[true, true, true, false, true, true, true, true, true, true, false, true, false, false, false, false] rfl rfl (any_of HT_.out (by kernel_rfl)) (fun _ _ _ h => h) (Or.inl ⟨by rfl, ?_⟩) ?_ ?_
              rotate_left
              · intro w'
                go_simp
                with_reducible rfl
              rotate_left
              · simp only [Act.put, List.setIfInBounds_toArray, List.set_cons_zero, List.set_cons_succ, i64_w, i32_w]
                rfl
              refine pure_ (i := 10) (N := some 75) (v := ?_) (a' := ?_) #[true, true, true, false, true, true, true, true, true, true, true, true, false, false, false, false] rfl rfl (any_of HT_.out (by kernel_rfl)) (fun _ _ _ h => h) (Or.inl ⟨by rfl, ?_⟩) ?_ ?_
              rotate_left
              · intro w'
                go_simp
                with_reducible rfl
              rotate_left
              · simp only [Act.put, List.setIfInBounds_toArray, List.set_cons_zero, List.set_cons_succ, i64_w, i32_w]
                rfl
              refine take_ (i := 12) (N := some 77) (v := ?_) (a' := ?_) #[true, true, true, false, true, true, true, true, true, true, true, true, true, false, false, false] rfl rfl (take_ofW HT_.out HW_.out (by kernel_rfl)) (fun _ _ _ h => h) (Or.inl ⟨by rfl, ?_⟩) hHeld ?_ ?_
              rotate_left
              · rintro w' ⟨s0, s1, s2, s3, s4, s5⟩
                go_simp
                with_reducible rfl
              rotate_left
              · simp only [Act.put, List.setIfInBounds_toArray, List.set_cons_zero, List.set_cons_succ, i64_w, i32_w]
                rfl
              refine join_ (σ := Nat) 1 #[true, true, true, true, true, true, true, true, true, true, true, true, true, true, true, false] (fun s_ => [(68, .string t295), (8, .pointer (some ⟨s_, 0, none⟩)), (78, .agg #[.string t295, .int .i64 (wrap64 (1 - a0_1)), .int .i64 ji42, .int .i64 a0_3])]) (fun s_ w' => (w'.cell? ⟨gb288, 0, none⟩ = some (.string a0_0) ∧ w'.cell? ⟨gb288, 1, none⟩ = some (.int .i64 a0_1) ∧ w'.cell? ⟨gb288, 2, none⟩ = some (.int .i64 a0_2) ∧ w'.cell? ⟨gb288, 3, none⟩ = some (.int .i64 a0_3) ∧ w'.cell? ⟨gb289, 0, none⟩ = some (.int .i64 a1_0) ∧ w'.cell? ⟨gb289, 1, none⟩ = some (.int .i64 a1_1)) ∧ (w'.heap[gb288]? = some (.cells #[.string a0_0, .int .i64 a0_1, .int .i64 a0_2, .int .i64 a0_3] 29 (0, 0))) ∧ (w'.heap[gb289]? = some (.cells #[.int .i64 a1_0, .int .i64 a1_1] 41 (0, 0))) ∧ (w'.heap[gb290]? = some (.cells #[.string (⟨#[]⟩ : ByteArray), .int .i64 0, .int .i64 0, .int .i64 0] 29 (0, 0))) ∧ (w'.heap[s_]? = some (.cells #[.string (⟨#[]⟩ : ByteArray), .int .i64 0, .int .i64 0, .int .i64 0] 29 (0, 0))) ∧ (w.heap.size ≤ s_) ∧ (w.heap.size ≤ s_) ∧ (gb288 ≠ s_) ∧ (s_ ≠ gb288) ∧ (gb289 ≠ s_) ∧ (s_ ≠ gb289) ∧ (gb290 ≠ s_) ∧ (s_ ≠ gb290) ∧ (Below w.heap.size w w')) ?_ ?_
              rotate_left
              · intro hCont
                refine two_ (i := 3) (j := 14) (Ni := some 68) (Nj := some 8) #[true, true, true, true, true, true, true, true, true, true, true, true, true, false, false, false] #[true, true, true, false, true, true, true, true, true, true, true, true, true, false, true, false] rfl rfl rfl rfl (two_of HT_.out (by kernel_rfl)) (by decide) (by decide) (fun K hK => ?_) (fun K hK => ?_)
                · skip
                  refine goes_ Try.func75 (by kernel_rfl) rfl #[.string a0_0, .agg #[.int .i64 a1_0, .int .i64 a1_1]] (by rfl) rfl rfl (by (try simp only [List.map_toArray, List.map_cons, List.map_nil]); first | done | rfl | (simp only [List.length_drop, List.length_take]; rfl)) ?_
                  with_reducible refine (riverbankref06_Moved.calls a0_0 a1_0 a1_1 t295 _ A41.out).mono ?_
                  rintro e w50 ⟨rfl, hb⟩
                  refine ⟨_, rfl, ?_⟩
                  have n0_ := Aside0.mk (blk_below (g := gb288) (o := .cells #[.string a0_0, .int .i64 a0_1, .int .i64 a0_2, .int .i64 a0_3] 29 (0, 0)) (by (with_reducible repeat (first | refine blk_drewN ?_ _ | refine blk_drew ?_ | refine blk_alloc ?_ _)); exact BK288.out) hb)
                  have n1_ := Aside0.mk (blk_below (g := gb289) (o := .cells #[.int .i64 a1_0, .int .i64 a1_1] 41 (0, 0)) (by (with_reducible repeat (first | refine blk_drewN ?_ _ | refine blk_drew ?_ | refine blk_alloc ?_ _)); exact BK289.out) hb)
                  have n2_ := Aside0.mk (blk_below (g := gb290) (o := .cells #[.string (⟨#[]⟩ : ByteArray), .int .i64 0, .int .i64 0, .int .i64 0] 29 (0, 0)) (by (with_reducible repeat (first | refine blk_drewN ?_ _ | refine blk_drew ?_ | refine blk_alloc ?_ _)); exact BK290.out) hb)
                  have n3_ := Aside0.mk (below_step (by repeat (first | (with_reducible first | exact HB.out | apply below_alloc | apply pw_below_drewN | apply below_drew1 | refine below_set ?_ GE288.out | refine below_set ?_ GE289.out | refine below_set ?_ GE290.out) | exact HB.out)) hb)
                  clear BK288
                  clear BK289
                  clear BK290
                  clear HB
                  have BK288 := n0_
                  have BK289 := n1_
                  have BK290 := n2_
                  have HB := n3_
                  clear n0_ n1_ n2_ n3_
                  (try clear hb)
                  (try clear hb2)
                  (try clear hk)
                  (try clear hi)
                  refine hK.out _ _ ⟨(blk_cell BK288.out 0).trans rfl, (blk_cell BK288.out 1).trans rfl, (blk_cell BK288.out 2).trans rfl, (blk_cell BK288.out 3).trans rfl, (blk_cell BK289.out 0).trans rfl, (blk_cell BK289.out 1).trans rfl⟩ (fun hHeld => ?_)
                  clear hK K
                  refine norm_ (a' := ?_) ?_ ?_
                  rotate_left
                  · show Act.put _ (some 68) _ = _
                    simp only [Act.put, List.setIfInBounds_toArray, List.set_cons_zero, List.set_cons_succ, i64_w, i32_w]
                    rfl
                  refine pure_ (i := 13) (N := some 78) (v := ?_) (a' := ?_) #[true, true, true, true, true, true, true, true, true, true, true, true, true, true, false, false] rfl rfl (any_of HT_.out (by kernel_rfl)) (fun _ _ _ h => h) (Or.inl ⟨by rfl, ?_⟩) ?_ ?_
                  rotate_left
                  · intro w'
                    go_simp
                    with_reducible rfl
                  rotate_left
                  · simp only [Act.put, List.setIfInBounds_toArray, List.set_cons_zero, List.set_cons_succ, i64_w, i32_w]
                    rfl
                  refine one_ (i := 14) (N := some 8) #[true, true, true, true, true, true, true, true, true, true, true, true, true, true, true, false] rfl rfl (one_of HT_.out (by kernel_rfl)) (by decide) (fun K hK => ?_)
                  refine box_step ?hg (N := 8) ?hd (cs := #[.string (⟨#[]⟩ : ByteArray), .int .i64 0, .int .i64 0, .int .i64 0]) (t := 29) ?hr ?_; (case hd => rfl); (case hg => rfl); (case hr => first | (go_simp; done) | (go_simp; rfl))
                  intro gb296 hg w51 hbox hb
                  have n0_ := Aside0.mk (blk_below (g := gb288) (o := .cells #[.string a0_0, .int .i64 a0_1, .int .i64 a0_2, .int .i64 a0_3] 29 (0, 0)) (by (with_reducible repeat (first | refine blk_drewN ?_ _ | refine blk_drew ?_ | refine blk_alloc ?_ _)); exact BK288.out) hb)
                  have n1_ := Aside0.mk (blk_below (g := gb289) (o := .cells #[.int .i64 a1_0, .int .i64 a1_1] 41 (0, 0)) (by (with_reducible repeat (first | refine blk_drewN ?_ _ | refine blk_drew ?_ | refine blk_alloc ?_ _)); exact BK289.out) hb)
                  have n2_ := Aside0.mk (blk_below (g := gb290) (o := .cells #[.string (⟨#[]⟩ : ByteArray), .int .i64 0, .int .i64 0, .int .i64 0] 29 (0, 0)) (by (with_reducible repeat (first | refine blk_drewN ?_ _ | refine blk_drew ?_ | refine blk_alloc ?_ _)); exact BK290.out) hb)
                  have n3_ := Aside0.mk (below_step (by repeat (first | (with_reducible first | exact HB.out | apply below_alloc | apply pw_below_drewN | apply below_drew1 | refine below_set ?_ GE288.out | refine below_set ?_ GE289.out | refine below_set ?_ GE290.out) | exact HB.out)) hb)
                  have n4_ := Aside0.mk (hbox)
                  have n5_ := Aside0.mk ((by rw [hg]; exact (below_size (by repeat (first | (with_reducible first | exact HB.out | apply below_alloc | apply pw_below_drewN | apply below_drew1 | refine below_set ?_ GE288.out | refine below_set ?_ GE289.out | refine below_set ?_ GE290.out) | exact HB.out))) : w.heap.size ≤ gb296))
                  have n6_ := Aside0.mk ((by rw [hg]; exact (below_size (by repeat (first | (with_reducible first | exact HB.out | apply below_alloc | apply pw_below_drewN | apply below_drew1 | refine below_set ?_ GE288.out | refine below_set ?_ GE289.out | refine below_set ?_ GE290.out) | exact HB.out))) : w.heap.size ≤ gb296))
                  have n7_ := Aside0.mk ((by rw [hg]; exact Nat.ne_of_lt (blk_lt (g := gb288) (o := .cells #[.string a0_0, .int .i64 a0_1, .int .i64 a0_2, .int .i64 a0_3] 29 (0, 0)) (by (with_reducible repeat (first | refine blk_drewN ?_ _ | refine blk_drew ?_ | refine blk_alloc ?_ _)); exact BK288.out)) : gb288 ≠ gb296))
                  have n8_ := Aside0.mk ((by rw [hg]; exact Nat.ne_of_gt (blk_lt (g := gb288) (o := .cells #[.string a0_0, .int .i64 a0_1, .int .i64 a0_2, .int .i64 a0_3] 29 (0, 0)) (by (with_reducible repeat (first | refine blk_drewN ?_ _ | refine blk_drew ?_ | refine blk_alloc ?_ _)); exact BK288.out)) : gb296 ≠ gb288))
                  have n9_ := Aside0.mk ((by rw [hg]; exact Nat.ne_of_lt (blk_lt (g := gb289) (o := .cells #[.int .i64 a1_0, .int .i64 a1_1] 41 (0, 0)) (by (with_reducible repeat (first | refine blk_drewN ?_ _ | refine blk_drew ?_ | refine blk_alloc ?_ _)); exact BK289.out)) : gb289 ≠ gb296))
                  have n10_ := Aside0.mk ((by rw [hg]; exact Nat.ne_of_gt (blk_lt (g := gb289) (o := .cells #[.int .i64 a1_0, .int .i64 a1_1] 41 (0, 0)) (by (with_reducible repeat (first | refine blk_drewN ?_ _ | refine blk_drew ?_ | refine blk_alloc ?_ _)); exact BK289.out)) : gb296 ≠ gb289))
                  have n11_ := Aside0.mk ((by rw [hg]; exact Nat.ne_of_lt (blk_lt (g := gb290) (o := .cells #[.string (⟨#[]⟩ : ByteArray), .int .i64 0, .int .i64 0, .int .i64 0] 29 (0, 0)) (by (with_reducible repeat (first | refine blk_drewN ?_ _ | refine blk_drew ?_ | refine blk_alloc ?_ _)); exact BK290.out)) : gb290 ≠ gb296))
                  have n12_ := Aside0.mk ((by rw [hg]; exact Nat.ne_of_gt (blk_lt (g := gb290) (o := .cells #[.string (⟨#[]⟩ : ByteArray), .int .i64 0, .int .i64 0, .int .i64 0] 29 (0, 0)) (by (with_reducible repeat (first | refine blk_drewN ?_ _ | refine blk_drew ?_ | refine blk_alloc ?_ _)); exact BK290.out)) : gb296 ≠ gb290))
                  clear BK288
                  clear BK289
                  clear BK290
                  clear HB
                  have BK288 := n0_
                  have BK289 := n1_
                  have BK290 := n2_
                  have HB := n3_
                  have BK296 := n4_
                  have GW296 := n5_
                  have GE296 := n6_
                  have NB288_296 := n7_
                  have NB296_288 := n8_
                  have NB289_296 := n9_
                  have NB296_289 := n10_
                  have NB290_296 := n11_
                  have NB296_290 := n12_
                  clear n0_ n1_ n2_ n3_ n4_ n5_ n6_ n7_ n8_ n9_ n10_ n11_ n12_
                  clear hb hbox hg
                  refine hK.out _ _ ⟨(blk_cell BK288.out 0).trans rfl, (blk_cell BK288.out 1).trans rfl, (blk_cell BK288.out 2).trans rfl, (blk_cell BK288.out 3).trans rfl, (blk_cell BK289.out 0).trans rfl, (blk_cell BK289.out 1).trans rfl⟩ (fun hHeld => ?_)
                  clear hK K
                  refine norm_ (a' := ?_) ?_ ?_
                  rotate_left
                  · show Act.put _ (some 8) _ = _
                    simp only [Act.put, List.setIfInBounds_toArray, List.set_cons_zero, List.set_cons_succ, i64_w, i32_w]
                    rfl
                  exact norm_ (by simp only [putAll, Act.put, List.setIfInBounds_toArray, List.set_cons_zero, List.set_cons_succ]) (hCont (gb296) _ ⟨hHeld, (by (with_reducible repeat (first | refine blk_drewN ?_ _ | refine blk_drew ?_ | refine blk_alloc ?_ _)); exact BK288.out), (by (with_reducible repeat (first | refine blk_drewN ?_ _ | refine blk_drew ?_ | refine blk_alloc ?_ _)); exact BK289.out), (by (with_reducible repeat (first | refine blk_drewN ?_ _ | refine blk_drew ?_ | refine blk_alloc ?_ _)); exact BK290.out), (by (with_reducible repeat (first | refine blk_drewN ?_ _ | refine blk_drew ?_ | refine blk_alloc ?_ _)); exact BK296.out), GW296.out, GE296.out, NB288_296.out, NB296_288.out, NB289_296.out, NB296_289.out, NB290_296.out, NB296_290.out, (by repeat (first | (with_reducible first | exact HB.out | apply below_alloc | apply pw_below_drewN | apply below_drew1 | refine below_set ?_ GE288.out | refine below_set ?_ GE289.out | refine below_set ?_ GE290.out | refine below_set ?_ GE296.out) | exact HB.out))⟩)
                · skip
                  refine box_step ?hg (N := 8) ?hd (cs := #[.string (⟨#[]⟩ : ByteArray), .int .i64 0, .int .i64 0, .int .i64 0]) (t := 29) ?hr ?_; (case hd => rfl); (case hg => rfl); (case hr => first | (go_simp; done) | (go_simp; rfl))
                  intro gb296 hg w50 hbox hb
                  have n0_ := Aside0.mk (blk_below (g := gb288) (o := .cells #[.string a0_0, .int .i64 a0_1, .int .i64 a0_2, .int .i64 a0_3] 29 (0, 0)) (by (with_reducible repeat (first | refine blk_drewN ?_ _ | refine blk_drew ?_ | refine blk_alloc ?_ _)); exact BK288.out) hb)
                  have n1_ := Aside0.mk (blk_below (g := gb289) (o := .cells #[.int .i64 a1_0, .int .i64 a1_1] 41 (0, 0)) (by (with_reducible repeat (first | refine blk_drewN ?_ _ | refine blk_drew ?_ | refine blk_alloc ?_ _)); exact BK289.out) hb)
                  have n2_ := Aside0.mk (blk_below (g := gb290) (o := .cells #[.string (⟨#[]⟩ : ByteArray), .int .i64 0, .int .i64 0, .int .i64 0] 29 (0, 0)) (by (with_reducible repeat (first | refine blk_drewN ?_ _ | refine blk_drew ?_ | refine blk_alloc ?_ _)); exact BK290.out) hb)
                  have n3_ := Aside0.mk (below_step (by repeat (first | (with_reducible first | exact HB.out | apply below_alloc | apply pw_below_drewN | apply below_drew1 | refine below_set ?_ GE288.out | refine below_set ?_ GE289.out | refine below_set ?_ GE290.out) | exact HB.out)) hb)
                  have n4_ := Aside0.mk (hbox)
                  have n5_ := Aside0.mk ((by rw [hg]; exact (below_size (by repeat (first | (with_reducible first | exact HB.out | apply below_alloc | apply pw_below_drewN | apply below_drew1 | refine below_set ?_ GE288.out | refine below_set ?_ GE289.out | refine below_set ?_ GE290.out) | exact HB.out))) : w.heap.size ≤ gb296))
                  have n6_ := Aside0.mk ((by rw [hg]; exact (below_size (by repeat (first | (with_reducible first | exact HB.out | apply below_alloc | apply pw_below_drewN | apply below_drew1 | refine below_set ?_ GE288.out | refine below_set ?_ GE289.out | refine below_set ?_ GE290.out) | exact HB.out))) : w.heap.size ≤ gb296))
                  have n7_ := Aside0.mk ((by rw [hg]; exact Nat.ne_of_lt (blk_lt (g := gb288) (o := .cells #[.string a0_0, .int .i64 a0_1, .int .i64 a0_2, .int .i64 a0_3] 29 (0, 0)) (by (with_reducible repeat (first | refine blk_drewN ?_ _ | refine blk_drew ?_ | refine blk_alloc ?_ _)); exact BK288.out)) : gb288 ≠ gb296))
                  have n8_ := Aside0.mk ((by rw [hg]; exact Nat.ne_of_gt (blk_lt (g := gb288) (o := .cells #[.string a0_0, .int .i64 a0_1, .int .i64 a0_2, .int .i64 a0_3] 29 (0, 0)) (by (with_reducible repeat (first | refine blk_drewN ?_ _ | refine blk_drew ?_ | refine blk_alloc ?_ _)); exact BK288.out)) : gb296 ≠ gb288))
                  have n9_ := Aside0.mk ((by rw [hg]; exact Nat.ne_of_lt (blk_lt (g := gb289) (o := .cells #[.int .i64 a1_0, .int .i64 a1_1] 41 (0, 0)) (by (with_reducible repeat (first | refine blk_drewN ?_ _ | refine blk_drew ?_ | refine blk_alloc ?_ _)); exact BK289.out)) : gb289 ≠ gb296))
                  have n10_ := Aside0.mk ((by rw [hg]; exact Nat.ne_of_gt (blk_lt (g := gb289) (o := .cells #[.int .i64 a1_0, .int .i64 a1_1] 41 (0, 0)) (by (with_reducible repeat (first | refine blk_drewN ?_ _ | refine blk_drew ?_ | refine blk_alloc ?_ _)); exact BK289.out)) : gb296 ≠ gb289))
                  have n11_ := Aside0.mk ((by rw [hg]; exact Nat.ne_of_lt (blk_lt (g := gb290) (o := .cells #[.string (⟨#[]⟩ : ByteArray), .int .i64 0, .int .i64 0, .int .i64 0] 29 (0, 0)) (by (with_reducible repeat (first | refine blk_drewN ?_ _ | refine blk_drew ?_ | refine blk_alloc ?_ _)); exact BK290.out)) : gb290 ≠ gb296))
                  have n12_ := Aside0.mk ((by rw [hg]; exact Nat.ne_of_gt (blk_lt (g := gb290) (o := .cells #[.string (⟨#[]⟩ : ByteArray), .int .i64 0, .int .i64 0, .int .i64 0] 29 (0, 0)) (by (with_reducible repeat (first | refine blk_drewN ?_ _ | refine blk_drew ?_ | refine blk_alloc ?_ _)); exact BK290.out)) : gb296 ≠ gb290))
                  clear BK288
                  clear BK289
                  clear BK290
                  clear HB
                  have BK288 := n0_
                  have BK289 := n1_
                  have BK290 := n2_
                  have HB := n3_
                  have BK296 := n4_
                  have GW296 := n5_
                  have GE296 := n6_
                  have NB288_296 := n7_
                  have NB296_288 := n8_
                  have NB289_296 := n9_
                  have NB296_289 := n10_
                  have NB290_296 := n11_
                  have NB296_290 := n12_
                  clear n0_ n1_ n2_ n3_ n4_ n5_ n6_ n7_ n8_ n9_ n10_ n11_ n12_
                  clear hb hbox hg
                  refine hK.out _ _ ⟨(blk_cell BK288.out 0).trans rfl, (blk_cell BK288.out 1).trans rfl, (blk_cell BK288.out 2).trans rfl, (blk_cell BK288.out 3).trans rfl, (blk_cell BK289.out 0).trans rfl, (blk_cell BK289.out 1).trans rfl⟩ (fun hHeld => ?_)
                  clear hK K
                  refine norm_ (a' := ?_) ?_ ?_
                  rotate_left
                  · show Act.put _ (some 8) _ = _
                    simp only [Act.put, List.setIfInBounds_toArray, List.set_cons_zero, List.set_cons_succ, i64_w, i32_w]
                    rfl
                  refine one_ (i := 3) (N := some 68) #[true, true, true, true, true, true, true, true, true, true, true, true, true, false, true, false] rfl rfl (one_of HT_.out (by kernel_rfl)) (by decide) (fun K hK => ?_)
                  refine goes_ Try.func75 (by kernel_rfl) rfl #[.string a0_0, .agg #[.int .i64 a1_0, .int .i64 a1_1]] (by rfl) rfl rfl (by (try simp only [List.map_toArray, List.map_cons, List.map_nil]); first | done | rfl | (simp only [List.length_drop, List.length_take]; rfl)) ?_
                  with_reducible refine (riverbankref06_Moved.calls a0_0 a1_0 a1_1 t295 _ A41.out).mono ?_
                  rintro e w51 ⟨rfl, hb⟩
                  refine ⟨_, rfl, ?_⟩
                  have n0_ := Aside0.mk (blk_below (g := gb288) (o := .cells #[.string a0_0, .int .i64 a0_1, .int .i64 a0_2, .int .i64 a0_3] 29 (0, 0)) (by (with_reducible repeat (first | refine blk_drewN ?_ _ | refine blk_drew ?_ | refine blk_alloc ?_ _)); exact BK288.out) hb)
                  have n1_ := Aside0.mk (blk_below (g := gb289) (o := .cells #[.int .i64 a1_0, .int .i64 a1_1] 41 (0, 0)) (by (with_reducible repeat (first | refine blk_drewN ?_ _ | refine blk_drew ?_ | refine blk_alloc ?_ _)); exact BK289.out) hb)
                  have n2_ := Aside0.mk (blk_below (g := gb290) (o := .cells #[.string (⟨#[]⟩ : ByteArray), .int .i64 0, .int .i64 0, .int .i64 0] 29 (0, 0)) (by (with_reducible repeat (first | refine blk_drewN ?_ _ | refine blk_drew ?_ | refine blk_alloc ?_ _)); exact BK290.out) hb)
                  have n3_ := Aside0.mk (blk_below (g := gb296) (o := .cells #[.string (⟨#[]⟩ : ByteArray), .int .i64 0, .int .i64 0, .int .i64 0] 29 (0, 0)) (by (with_reducible repeat (first | refine blk_drewN ?_ _ | refine blk_drew ?_ | refine blk_alloc ?_ _)); exact BK296.out) hb)
                  have n4_ := Aside0.mk (below_step (by repeat (first | (with_reducible first | exact HB.out | apply below_alloc | apply pw_below_drewN | apply below_drew1 | refine below_set ?_ GE288.out | refine below_set ?_ GE289.out | refine below_set ?_ GE290.out | refine below_set ?_ GE296.out) | exact HB.out)) hb)
                  clear BK288
                  clear BK289
                  clear BK290
                  clear BK296
                  clear HB
                  have BK288 := n0_
                  have BK289 := n1_
                  have BK290 := n2_
                  have BK296 := n3_
                  have HB := n4_
                  clear n0_ n1_ n2_ n3_ n4_
                  (try clear hb)
                  (try clear hb2)
                  (try clear hk)
                  (try clear hi)
                  refine hK.out _ _ ⟨(blk_cell BK288.out 0).trans rfl, (blk_cell BK288.out 1).trans rfl, (blk_cell BK288.out 2).trans rfl, (blk_cell BK288.out 3).trans rfl, (blk_cell BK289.out 0).trans rfl, (blk_cell BK289.out 1).trans rfl⟩ (fun hHeld => ?_)
                  clear hK K
                  refine norm_ (a' := ?_) ?_ ?_
                  rotate_left
                  · show Act.put _ (some 68) _ = _
                    simp only [Act.put, List.setIfInBounds_toArray, List.set_cons_zero, List.set_cons_succ, i64_w, i32_w]
                    rfl
                  refine pure_ (i := 13) (N := some 78) (v := ?_) (a' := ?_) #[true, true, true, true, true, true, true, true, true, true, true, true, true, true, true, false] rfl rfl (any_of HT_.out (by kernel_rfl)) (fun _ _ _ h => h) (Or.inl ⟨by rfl, ?_⟩) ?_ ?_
                  rotate_left
                  · intro w'
                    go_simp
                    with_reducible rfl
                  rotate_left
                  · simp only [Act.put, List.setIfInBounds_toArray, List.set_cons_zero, List.set_cons_succ, i64_w, i32_w]
                    rfl
                  exact norm_ (by simp only [putAll, Act.put, List.setIfInBounds_toArray, List.set_cons_zero, List.set_cons_succ]) (hCont (gb296) _ ⟨hHeld, (by (with_reducible repeat (first | refine blk_drewN ?_ _ | refine blk_drew ?_ | refine blk_alloc ?_ _)); exact BK288.out), (by (with_reducible repeat (first | refine blk_drewN ?_ _ | refine blk_drew ?_ | refine blk_alloc ?_ _)); exact BK289.out), (by (with_reducible repeat (first | refine blk_drewN ?_ _ | refine blk_drew ?_ | refine blk_alloc ?_ _)); exact BK290.out), (by (with_reducible repeat (first | refine blk_drewN ?_ _ | refine blk_drew ?_ | refine blk_alloc ?_ _)); exact BK296.out), GW296.out, GE296.out, NB288_296.out, NB296_288.out, NB289_296.out, NB296_289.out, NB290_296.out, NB296_290.out, (by repeat (first | (with_reducible first | exact HB.out | apply below_alloc | apply pw_below_drewN | apply below_drew1 | refine below_set ?_ GE288.out | refine below_set ?_ GE289.out | refine below_set ?_ GE290.out | refine below_set ?_ GE296.out) | exact HB.out))⟩)
              rintro gb296 w52 ⟨hS_, h0_, h1_, h2_, h3_, h4_, h5_, h6_, h7_, h8_, h9_, h10_, h11_, h12_⟩
              have n0_ : Aside0 (w52.heap[gb288]? = some (.cells #[.string a0_0, .int .i64 a0_1, .int .i64 a0_2, .int .i64 a0_3] 29 (0, 0))) := ⟨h0_⟩
              have n1_ : Aside0 (w52.heap[gb289]? = some (.cells #[.int .i64 a1_0, .int .i64 a1_1] 41 (0, 0))) := ⟨h1_⟩
              have n2_ : Aside0 (w52.heap[gb290]? = some (.cells #[.string (⟨#[]⟩ : ByteArray), .int .i64 0, .int .i64 0, .int .i64 0] 29 (0, 0))) := ⟨h2_⟩
              have n3_ : Aside0 (w52.heap[gb296]? = some (.cells #[.string (⟨#[]⟩ : ByteArray), .int .i64 0, .int .i64 0, .int .i64 0] 29 (0, 0))) := ⟨h3_⟩
              have n4_ : Aside0 (w.heap.size ≤ gb296) := ⟨h4_⟩
              have n5_ : Aside0 (w.heap.size ≤ gb296) := ⟨h5_⟩
              have n6_ : Aside0 (gb288 ≠ gb296) := ⟨h6_⟩
              have n7_ : Aside0 (gb296 ≠ gb288) := ⟨h7_⟩
              have n8_ : Aside0 (gb289 ≠ gb296) := ⟨h8_⟩
              have n9_ : Aside0 (gb296 ≠ gb289) := ⟨h9_⟩
              have n10_ : Aside0 (gb290 ≠ gb296) := ⟨h10_⟩
              have n11_ : Aside0 (gb296 ≠ gb290) := ⟨h11_⟩
              have n12_ : Aside0 (Below w.heap.size w w52) := ⟨h12_⟩
              clear BK288
              clear BK289
              clear BK290
              clear HB
              clear h0_ h1_ h2_ h3_ h4_ h5_ h6_ h7_ h8_ h9_ h10_ h11_ h12_
              have BK288 := n0_
              have BK289 := n1_
              have BK290 := n2_
              have BK296 := n3_
              have GW296 := n4_
              have GE296 := n5_
              have NB288_296 := n6_
              have NB296_288 := n7_
              have NB289_296 := n8_
              have NB296_289 := n9_
              have NB290_296 := n10_
              have NB296_290 := n11_
              have HB := n12_
              clear n0_ n1_ n2_ n3_ n4_ n5_ n6_ n7_ n8_ n9_ n10_ n11_ n12_
              have hHeld : w52.cell? ⟨gb288, 0, none⟩ = some (.string a0_0) ∧ w52.cell? ⟨gb288, 1, none⟩ = some (.int .i64 a0_1) ∧ w52.cell? ⟨gb288, 2, none⟩ = some (.int .i64 a0_2) ∧ w52.cell? ⟨gb288, 3, none⟩ = some (.int .i64 a0_3) ∧ w52.cell? ⟨gb289, 0, none⟩ = some (.int .i64 a1_0) ∧ w52.cell? ⟨gb289, 1, none⟩ = some (.int .i64 a1_1) := hS_
              refine norm_ (a' := ?_) ?_ ?_
              rotate_left
              · simp only [putAll, Act.put, List.setIfInBounds_toArray, List.set_cons_zero, List.set_cons_succ]
                rfl
              refine one_ (i := 15) (N := none) #[true, true, true, true, true, true, true, true, true, true, true, true, true, true, true, true] rfl rfl (one_of HT_.out (by kernel_rfl)) (by decide) (fun K hK => ?_)
              have hs53 : w52.cell? ⟨gb296, 0, none⟩ = some (.string (⟨#[]⟩ : ByteArray)) := (blk_cell BK296.out 0).trans rfl
              have hfs53 := blk_frozen BK296.out 0
              have hns53_0 := NB288_296.out
              have hns53_1 := NB289_296.out
              have hns53_2 := NB290_296.out
              have hms53_0 := NB296_288.out
              have hms53_1 := NB296_289.out
              have hms53_2 := NB296_290.out
              have hs54 : w52.cell? ⟨gb296, 1, none⟩ = some (.int .i64 0) := (blk_cell BK296.out 1).trans rfl
              have hfs54 := blk_frozen BK296.out 1
              have hns54_0 := NB288_296.out
              have hns54_1 := NB289_296.out
              have hns54_2 := NB290_296.out
              have hms54_0 := NB296_288.out
              have hms54_1 := NB296_289.out
              have hms54_2 := NB296_290.out
              have hs55 : w52.cell? ⟨gb296, 2, none⟩ = some (.int .i64 0) := (blk_cell BK296.out 2).trans rfl
              have hfs55 := blk_frozen BK296.out 2
              have hns55_0 := NB288_296.out
              have hns55_1 := NB289_296.out
              have hns55_2 := NB290_296.out
              have hms55_0 := NB296_288.out
              have hms55_1 := NB296_289.out
              have hms55_2 := NB296_290.out
              have hs56 : w52.cell? ⟨gb296, 3, none⟩ = some (.int .i64 0) := (blk_cell BK296.out 3).trans rfl
              have hfs56 := blk_frozen BK296.out 3
              have hns56_0 := NB288_296.out
              have hns56_1 := NB289_296.out
              have hns56_2 := NB290_296.out
              have hms56_0 := NB296_288.out
              have hms56_1 := NB296_289.out
              have hms56_2 := NB296_290.out
              refine skip_ (w1 := ?_) (by rfl) rfl ?_ ?_
              rotate_left
              · go_simp
                rfl
              refine hK.out _ _ ⟨((cell_far (p := ⟨gb296, _, none⟩) NB288_296.out _).trans (((cell_far (p := ⟨gb296, _, none⟩) NB288_296.out _).trans (((cell_far (p := ⟨gb296, _, none⟩) NB288_296.out _).trans (((cell_far (p := ⟨gb296, _, none⟩) NB288_296.out _).trans (hHeld.1)))))))), ((cell_far (p := ⟨gb296, _, none⟩) NB288_296.out _).trans (((cell_far (p := ⟨gb296, _, none⟩) NB288_296.out _).trans (((cell_far (p := ⟨gb296, _, none⟩) NB288_296.out _).trans (((cell_far (p := ⟨gb296, _, none⟩) NB288_296.out _).trans (hHeld.2.1)))))))), ((cell_far (p := ⟨gb296, _, none⟩) NB288_296.out _).trans (((cell_far (p := ⟨gb296, _, none⟩) NB288_296.out _).trans (((cell_far (p := ⟨gb296, _, none⟩) NB288_296.out _).trans (((cell_far (p := ⟨gb296, _, none⟩) NB288_296.out _).trans (hHeld.2.2.1)))))))), ((cell_far (p := ⟨gb296, _, none⟩) NB288_296.out _).trans (((cell_far (p := ⟨gb296, _, none⟩) NB288_296.out _).trans (((cell_far (p := ⟨gb296, _, none⟩) NB288_296.out _).trans (((cell_far (p := ⟨gb296, _, none⟩) NB288_296.out _).trans (hHeld.2.2.2.1)))))))), ((cell_far (p := ⟨gb296, _, none⟩) NB289_296.out _).trans (((cell_far (p := ⟨gb296, _, none⟩) NB289_296.out _).trans (((cell_far (p := ⟨gb296, _, none⟩) NB289_296.out _).trans (((cell_far (p := ⟨gb296, _, none⟩) NB289_296.out _).trans (hHeld.2.2.2.2.1)))))))), ((cell_far (p := ⟨gb296, _, none⟩) NB289_296.out _).trans (((cell_far (p := ⟨gb296, _, none⟩) NB289_296.out _).trans (((cell_far (p := ⟨gb296, _, none⟩) NB289_296.out _).trans (((cell_far (p := ⟨gb296, _, none⟩) NB289_296.out _).trans (hHeld.2.2.2.2.2))))))))⟩ (fun hHeld => ?_)
              clear hK K
              refine done_ (done_of HT_.out (by kernel_rfl)) ?_
              have W1 : ∃ W, W = ((((w52.setCell ⟨gb296, 0, none⟩ (.string t295)).setCell ⟨gb296, 1, none⟩ (.int .i64 (wrap64 (1 - a0_1)))).setCell ⟨gb296, 2, none⟩ (.int .i64 ji42)).setCell ⟨gb296, 3, none⟩ (.int .i64 a0_3)) := ⟨_, rfl⟩
              obtain ⟨W, hW⟩ := W1
              rw [← hW]
              have k288 : W.heap[gb288]? = some (.cells #[.string a0_0, .int .i64 a0_1, .int .i64 a0_2, .int .i64 a0_3] 29 (0, 0)) := by rw [hW]; exact blk_far (blk_far (blk_far (blk_far BK288.out NB288_296.out _) NB288_296.out _) NB288_296.out _) NB288_296.out _
              have k289 : W.heap[gb289]? = some (.cells #[.int .i64 a1_0, .int .i64 a1_1] 41 (0, 0)) := by rw [hW]; exact blk_far (blk_far (blk_far (blk_far BK289.out NB289_296.out _) NB289_296.out _) NB289_296.out _) NB289_296.out _
              have k290 : W.heap[gb290]? = some (.cells #[.string (⟨#[]⟩ : ByteArray), .int .i64 0, .int .i64 0, .int .i64 0] 29 (0, 0)) := by rw [hW]; exact blk_far (blk_far (blk_far (blk_far BK290.out NB290_296.out _) NB290_296.out _) NB290_296.out _) NB290_296.out _
              have k296 : W.heap[gb296]? = some (.cells #[.string t295, .int .i64 (wrap64 (1 - a0_1)), .int .i64 ji42, .int .i64 a0_3] 29 (0, 0)) := by rw [hW]; exact blk_put (blk_put (blk_put (blk_put BK296.out 0 _ rfl) 1 _ rfl) 2 _ rfl) 3 _ rfl
              have hBW : Below w.heap.size w W := by rw [hW]; exact below_set (below_set (below_set (below_set HB.out GE296.out) GE296.out) GE296.out) GE296.out
              have g290 := GE290.out
              have g296 := GE296.out
              have n1 := NB288_296.out
              have n2 := NB289_296.out
              have n3 := NB290_296.out
              have n4 := NB296_288.out
              have n5 := NB296_289.out
              have n6 := NB296_290.out
              clear hW BK288 BK289 BK290 BK296 HB
              (try clear hHeld hs53 hfs53 hns53_0 hns53_1 hns53_2 hms53_0 hms53_1 hms53_2 hs54 hfs54 hns54_0 hns54_1 hns54_2 hms54_0 hms54_1 hms54_2 hs55 hfs55 hns55_0 hns55_1 hns55_2 hms55_0 hms55_1 hms55_2 hs56 hfs56 hns56_0 hns56_1 hns56_2 hms56_0 hms56_1 hms56_2)
              have p0 : W.cell? ⟨gb288, 0, none⟩ = some (.string a0_0) := (blk_cell k288 0).trans rfl
              have p1 : W.cell? ⟨gb288, 1, none⟩ = some (.int .i64 a0_1) := (blk_cell k288 1).trans rfl
              have p2 : W.cell? ⟨gb289, 1, none⟩ = some (.int .i64 a1_1) := (blk_cell k289 1).trans rfl
              have q2 : W.cell? ⟨gb296, 2, none⟩ = some (.int .i64 ji42) := (blk_cell k296 2).trans rfl
              have z2 := blk_frozen k296 2
              have p45 : 0 ≤ (a1_1 : Int) := of_decide_eq_true (by first | (with_reducible assumption) | assumption)
              have q45 : a1_1 < (a0_0.size : Int) := of_decide_eq_true (by first | (with_reducible assumption) | assumption)
              have hx45 := bt_at a0_0 a1_1
              replace p45 := eq_true p45
              replace q45 := eq_true q45
              have H := HQ.out
              clear HQ
              by_cases c46 : (bt a0_0 a1_1) = 46
              · rw [if_pos c46] at H
                have c46b0 : ((bt a0_0 a1_1) == 46) = true := beq_iff_eq.mpr c46
                have c46b1 : ((bt a0_0 a1_1) != 46) = false := bne_eq_false_iff_eq.mpr c46
                clear c46
                have HQ := Aside0.mk H
                clear H
                go_upto_region 11 with fail
                have q3 : W.cell? ⟨gb296, 3, none⟩ = some (.int .i64 a0_3) := (blk_cell k296 3).trans rfl
                have z3 := blk_frozen k296 3
                clear q2 z2 p45 q45 hx45
                have H := HQ.out
                clear HQ
                by_cases c47 : a0_1 = 1
                · rw [if_pos c47] at H
                  have c47b0 : (a0_1 == 1) = true := beq_iff_eq.mpr c47
                  have c47b1 : (a0_1 != 1) = false := bne_eq_false_iff_eq.mpr c47
                  clear c47
                  obtain ⟨ji48, hji48⟩ : ∃ j_ : Int, (mn (wrap64 (a0_3 + 1)) 9999) = j_ := ⟨_, rfl⟩
                  replace H : (some (t295, wrap64 (1 - a0_1), ji42, ji48, 0, 0)) = some (r1, r2, r3, r4, r5, r6) := by rw [hji48] at H; exact H
                  have hji48_ : (if 9999 < (wrap64 (a0_3 + 1)) then 9999 else (wrap64 (a0_3 + 1))) = ji48 := hji48
                  simp only [Option.some.injEq, Prod.mk.injEq] at H
                  obtain ⟨rfl, rfl, rfl, rfl, rfl, rfl⟩ := H
                  go_upto_region 13 with fail
                  obtain ⟨X, hX⟩ : ∃ X, X = W.setCell ⟨gb296, 3, none⟩ (.int .i64 ji48) := ⟨_, rfl⟩
                  rw [← hX]
                  have x290 : X.heap[gb290]? = some (.cells #[.string (⟨#[]⟩ : ByteArray), .int .i64 0, .int .i64 0, .int .i64 0] 29 (0, 0)) := by rw [hX]; exact blk_far k290 n3 _
                  have x296 : X.heap[gb296]? = some (.cells #[.string t295, .int .i64 (wrap64 (1 - a0_1)), .int .i64 ji42, .int .i64 ji48] 29 (0, 0)) := by rw [hX]; exact blk_put k296 3 _ rfl
                  have hBX : Below w.heap.size w X := by rw [hX]; exact below_set hBW g296
                  clear hX k288 k289 k290 k296 hBW p0 p1 p2 q3 z3
                  have y0 : X.cell? ⟨gb296, 0, none⟩ = some (.string t295) := (blk_cell x296 0).trans rfl
                  have y1 : X.cell? ⟨gb296, 1, none⟩ = some (.int .i64 (wrap64 (1 - a0_1))) := (blk_cell x296 1).trans rfl
                  have y2 : X.cell? ⟨gb296, 2, none⟩ = some (.int .i64 ji42) := (blk_cell x296 2).trans rfl
                  have y3 : X.cell? ⟨gb296, 3, none⟩ = some (.int .i64 ji48) := (blk_cell x296 3).trans rfl
                  have u0 : X.cell? ⟨gb290, 0, none⟩ = some (.string (⟨#[]⟩ : ByteArray)) := (blk_cell x290 0).trans rfl
                  have f0 := blk_frozen x290 0
                  have u1 : X.cell? ⟨gb290, 1, none⟩ = some (.int .i64 0) := (blk_cell x290 1).trans rfl
                  have f1 := blk_frozen x290 1
                  have u2 : X.cell? ⟨gb290, 2, none⟩ = some (.int .i64 0) := (blk_cell x290 2).trans rfl
                  have f2 := blk_frozen x290 2
                  have u3 : X.cell? ⟨gb290, 3, none⟩ = some (.int .i64 0) := (blk_cell x290 3).trans rfl
                  have f3 := blk_frozen x290 3
                  go_wp2
                  refine bodyPost_ret (results_ctt rfl _ _ gb290 29 #[.string t295, .int .i64 (wrap64 (1 - a0_1)), .int .i64 ji42, .int .i64 ji48] (0, 0) _ rfl (blk_put (blk_put (blk_put (blk_put x290 0 _ rfl) 1 _ rfl) 2 _ rfl) 3 _ rfl) Try.underlying29 rfl (by kernel_rfl)) rfl ?_
                  exact ⟨rfl, below_set (below_set (below_set (below_set hBX g290) g290) g290) g290⟩
                · rw [if_neg c47] at H
                  have c47b0 : (a0_1 == 1) = false := beq_eq_false_iff_ne.mpr c47
                  have c47b1 : (a0_1 != 1) = true := bne_iff_ne.mpr c47
                  clear c47
                  simp only [Option.some.injEq, Prod.mk.injEq] at H
                  obtain ⟨rfl, rfl, rfl, rfl, rfl, rfl⟩ := H
                  go_upto_region 13 with fail
                  clear k288 k289 p0 p1 p2 q3 z3
                  have y0 : W.cell? ⟨gb296, 0, none⟩ = some (.string t295) := (blk_cell k296 0).trans rfl
                  have y1 : W.cell? ⟨gb296, 1, none⟩ = some (.int .i64 (wrap64 (1 - a0_1))) := (blk_cell k296 1).trans rfl
                  have y2 : W.cell? ⟨gb296, 2, none⟩ = some (.int .i64 ji42) := (blk_cell k296 2).trans rfl
                  have y3 : W.cell? ⟨gb296, 3, none⟩ = some (.int .i64 a0_3) := (blk_cell k296 3).trans rfl
                  have u0 : W.cell? ⟨gb290, 0, none⟩ = some (.string (⟨#[]⟩ : ByteArray)) := (blk_cell k290 0).trans rfl
                  have f0 := blk_frozen k290 0
                  have u1 : W.cell? ⟨gb290, 1, none⟩ = some (.int .i64 0) := (blk_cell k290 1).trans rfl
                  have f1 := blk_frozen k290 1
                  have u2 : W.cell? ⟨gb290, 2, none⟩ = some (.int .i64 0) := (blk_cell k290 2).trans rfl
                  have f2 := blk_frozen k290 2
                  have u3 : W.cell? ⟨gb290, 3, none⟩ = some (.int .i64 0) := (blk_cell k290 3).trans rfl
                  have f3 := blk_frozen k290 3
                  go_wp2
                  refine bodyPost_ret (results_ctt rfl _ _ gb290 29 #[.string t295, .int .i64 (wrap64 (1 - a0_1)), .int .i64 ji42, .int .i64 a0_3] (0, 0) _ rfl (blk_put (blk_put (blk_put (blk_put k290 0 _ rfl) 1 _ rfl) 2 _ rfl) 3 _ rfl) Try.underlying29 rfl (by kernel_rfl)) rfl ?_
                  exact ⟨rfl, below_set (below_set (below_set (below_set hBW g290) g290) g290) g290⟩
              · rw [if_neg c46] at H
                have c46b0 : ((bt a0_0 a1_1) == 46) = false := beq_eq_false_iff_ne.mpr c46
                have c46b1 : ((bt a0_0 a1_1) != 46) = true := bne_iff_ne.mpr c46
                clear c46
                have HQ := Aside0.mk H
                clear H
                go_upto_region 11 with fail
                obtain ⟨V, hV⟩ : ∃ V, V = W.setCell ⟨gb296, 2, none⟩ (.int .i64 0) := ⟨_, rfl⟩
                rw [← hV]
                have v288 : V.heap[gb288]? = some (.cells #[.string a0_0, .int .i64 a0_1, .int .i64 a0_2, .int .i64 a0_3] 29 (0, 0)) := by rw [hV]; exact blk_far k288 n1 _
                have v289 : V.heap[gb289]? = some (.cells #[.int .i64 a1_0, .int .i64 a1_1] 41 (0, 0)) := by rw [hV]; exact blk_far k289 n2 _
                have v290 : V.heap[gb290]? = some (.cells #[.string (⟨#[]⟩ : ByteArray), .int .i64 0, .int .i64 0, .int .i64 0] 29 (0, 0)) := by rw [hV]; exact blk_far k290 n3 _
                have v296 : V.heap[gb296]? = some (.cells #[.string t295, .int .i64 (wrap64 (1 - a0_1)), .int .i64 0, .int .i64 a0_3] 29 (0, 0)) := by rw [hV]; exact blk_put k296 2 _ rfl
                have hBV : Below w.heap.size w V := by rw [hV]; exact below_set hBW g296
                clear hV k288 k289 k290 k296 hBW p0 p1 p2 q2 z2 p45 q45 hx45
                have k288 := v288
                have k289 := v289
                have k290 := v290
                have k296 := v296
                have hBW := hBV
                clear v288 v289 v290 v296 hBV
                have p0 : V.cell? ⟨gb288, 0, none⟩ = some (.string a0_0) := (blk_cell k288 0).trans rfl
                have p1 : V.cell? ⟨gb288, 1, none⟩ = some (.int .i64 a0_1) := (blk_cell k288 1).trans rfl
                have p2 : V.cell? ⟨gb289, 1, none⟩ = some (.int .i64 a1_1) := (blk_cell k289 1).trans rfl
                have q3 : V.cell? ⟨gb296, 3, none⟩ = some (.int .i64 a0_3) := (blk_cell k296 3).trans rfl
                have z3 := blk_frozen k296 3
                have H := HQ.out
                clear HQ
                by_cases c47 : a0_1 = 1
                · rw [if_pos c47] at H
                  have c47b0 : (a0_1 == 1) = true := beq_iff_eq.mpr c47
                  have c47b1 : (a0_1 != 1) = false := bne_eq_false_iff_eq.mpr c47
                  clear c47
                  obtain ⟨ji48, hji48⟩ : ∃ j_ : Int, (mn (wrap64 (a0_3 + 1)) 9999) = j_ := ⟨_, rfl⟩
                  replace H : (some (t295, wrap64 (1 - a0_1), 0, ji48, bt a0_0 a1_1, 0)) = some (r1, r2, r3, r4, r5, r6) := by rw [hji48] at H; exact H
                  have hji48_ : (if 9999 < (wrap64 (a0_3 + 1)) then 9999 else (wrap64 (a0_3 + 1))) = ji48 := hji48
                  simp only [Option.some.injEq, Prod.mk.injEq] at H
                  obtain ⟨rfl, rfl, rfl, rfl, rfl, rfl⟩ := H
                  go_upto_region 13 with fail
                  obtain ⟨X, hX⟩ : ∃ X, X = V.setCell ⟨gb296, 3, none⟩ (.int .i64 ji48) := ⟨_, rfl⟩
                  rw [← hX]
                  have x290 : X.heap[gb290]? = some (.cells #[.string (⟨#[]⟩ : ByteArray), .int .i64 0, .int .i64 0, .int .i64 0] 29 (0, 0)) := by rw [hX]; exact blk_far k290 n3 _
                  have x296 : X.heap[gb296]? = some (.cells #[.string t295, .int .i64 (wrap64 (1 - a0_1)), .int .i64 0, .int .i64 ji48] 29 (0, 0)) := by rw [hX]; exact blk_put k296 3 _ rfl
                  have hBX : Below w.heap.size w X := by rw [hX]; exact below_set hBW g296
                  clear hX k288 k289 k290 k296 hBW p0 p1 p2 q3 z3
                  have y0 : X.cell? ⟨gb296, 0, none⟩ = some (.string t295) := (blk_cell x296 0).trans rfl
                  have y1 : X.cell? ⟨gb296, 1, none⟩ = some (.int .i64 (wrap64 (1 - a0_1))) := (blk_cell x296 1).trans rfl
                  have y2 : X.cell? ⟨gb296, 2, none⟩ = some (.int .i64 0) := (blk_cell x296 2).trans rfl
                  have y3 : X.cell? ⟨gb296, 3, none⟩ = some (.int .i64 ji48) := (blk_cell x296 3).trans rfl
                  have u0 : X.cell? ⟨gb290, 0, none⟩ = some (.string (⟨#[]⟩ : ByteArray)) := (blk_cell x290 0).trans rfl
                  have f0 := blk_frozen x290 0
                  have u1 : X.cell? ⟨gb290, 1, none⟩ = some (.int .i64 0) := (blk_cell x290 1).trans rfl
                  have f1 := blk_frozen x290 1
                  have u2 : X.cell? ⟨gb290, 2, none⟩ = some (.int .i64 0) := (blk_cell x290 2).trans rfl
                  have f2 := blk_frozen x290 2
                  have u3 : X.cell? ⟨gb290, 3, none⟩ = some (.int .i64 0) := (blk_cell x290 3).trans rfl
                  have f3 := blk_frozen x290 3
                  go_wp2
                  refine bodyPost_ret (results_ctt rfl _ _ gb290 29 #[.string t295, .int .i64 (wrap64 (1 - a0_1)), .int .i64 0, .int .i64 ji48] (0, 0) _ rfl (blk_put (blk_put (blk_put (blk_put x290 0 _ rfl) 1 _ rfl) 2 _ rfl) 3 _ rfl) Try.underlying29 rfl (by kernel_rfl)) rfl ?_
                  exact ⟨rfl, below_set (below_set (below_set (below_set hBX g290) g290) g290) g290⟩
                · rw [if_neg c47] at H
                  have c47b0 : (a0_1 == 1) = false := beq_eq_false_iff_ne.mpr c47
                  have c47b1 : (a0_1 != 1) = true := bne_iff_ne.mpr c47
                  clear c47
                  simp only [Option.some.injEq, Prod.mk.injEq] at H
                  obtain ⟨rfl, rfl, rfl, rfl, rfl, rfl⟩ := H
                  go_upto_region 13 with fail
                  clear k288 k289 p0 p1 p2 q3 z3
                  have y0 : V.cell? ⟨gb296, 0, none⟩ = some (.string t295) := (blk_cell k296 0).trans rfl
                  have y1 : V.cell? ⟨gb296, 1, none⟩ = some (.int .i64 (wrap64 (1 - a0_1))) := (blk_cell k296 1).trans rfl
                  have y2 : V.cell? ⟨gb296, 2, none⟩ = some (.int .i64 0) := (blk_cell k296 2).trans rfl
                  have y3 : V.cell? ⟨gb296, 3, none⟩ = some (.int .i64 a0_3) := (blk_cell k296 3).trans rfl
                  have u0 : V.cell? ⟨gb290, 0, none⟩ = some (.string (⟨#[]⟩ : ByteArray)) := (blk_cell k290 0).trans rfl
                  have f0 := blk_frozen k290 0
                  have u1 : V.cell? ⟨gb290, 1, none⟩ = some (.int .i64 0) := (blk_cell k290 1).trans rfl
                  have f1 := blk_frozen k290 1
                  have u2 : V.cell? ⟨gb290, 2, none⟩ = some (.int .i64 0) := (blk_cell k290 2).trans rfl
                  have f2 := blk_frozen k290 2
                  have u3 : V.cell? ⟨gb290, 3, none⟩ = some (.int .i64 0) := (blk_cell k290 3).trans rfl
                  have f3 := blk_frozen k290 3
                  go_wp2
                  refine bodyPost_ret (results_ctt rfl _ _ gb290 29 #[.string t295, .int .i64 (wrap64 (1 - a0_1)), .int .i64 0, .int .i64 a0_3] (0, 0) _ rfl (blk_put (blk_put (blk_put (blk_put k290 0 _ rfl) 1 _ rfl) 2 _ rfl) 3 _ rfl) Try.underlying29 rfl (by kernel_rfl)) rfl ?_
                  exact ⟨rfl, below_set (below_set (below_set (below_set hBW g290) g290) g290) g290⟩
            · rw [if_neg c44] at H
              exact absurd H (by simp)
          · rw [if_neg c43] at H
            exact absurd H (by simp)
  · rw [if_neg c4] at H; cases H

end Go.Proofs.Ytmfbgcimfmgobaa.Print
