/- Merged by a program of this session (wip/gprint/merge.py): what this claim needs of this session's texts, each part as it was. -/
import Derived.Test.YtkbimiimgcklaaaDoorAllBitsShift5
import Derived.Test.YtkbimiimgcklaaaDoorAllBitsShift6
import Derived.Test.YtkbimiimgcklaaaDoorAllBitsShift11
import Derived.Test.YtkbimiimgcklaaaDoorAllBitsShift7
import Derived.Test.YtkbimiimgcklaaaDoorAllBitsShift13
import Derived.Test.YtkbimiimgcklaaaDoorAllBitsShift21
import Derived.Test.YtkbimiimgcklaaaDoorAllBitsShift22
namespace Go.Proofs.YtkbimiimgcklaaaDoor.Print
end Go.Proofs.YtkbimiimgcklaaaDoor.Print

-- of YtkbimiimgcklaaaDoorPrint15
-- Written by a program of this session (wip/gprint/gprint.py) over the kit's print; the parts marked GIVEN by hand.
namespace Go.Proofs.YtkbimiimgcklaaaDoor.Print
open Go.RowKit Go.Proofs.YtkbimiimgcklaaaDoorW.PrintWords Go.Proofs.YtkbimiimgcklaaaDoorW.PrintLast Go.Proofs.YtkbimiimgcklaaaDoorW.PrintMore
attribute [local go_sem] max2_int min2_int max_two min_two max_three min_three max_four min_four   -- for this text's walks alone
set_option linter.unusedVariables false
set_option linter.unusedSimpArgs false

/-! ### riverbankref01_Shift: function 42 -/
def riverbankref01_Shift.l0 : Nat → List Bool → Int → List Bool → Int → Option (List Bool)
  | 0, _, _, _, _ => none
  | k + 1, x0, x1, x5, x6 => if x6 < 90 then (if 0 ≤ x6 then (if x6 < (x0.length : Int) then (if rdOf false x0 x6 = true then (if x1 > (-1000) then (if x1 < 1000 then ((riverbankref01_Square.f (wrap64 (x6 + x1))).bind fun t325 => (if t325 = true then (if 0 ≤ (wrap64 (x6 + x1)) then (if (wrap64 (x6 + x1)) < (x5.length : Int) then (riverbankref01_Shift.l0 k x0 x1 (x5.set ((wrap64 (x6 + x1)) : Int).toNat true) (wrap64 (x6 + 1))) else (none)) else (none)) else (riverbankref01_Shift.l0 k x0 x1 x5 (wrap64 (x6 + 1))))) else (riverbankref01_Shift.l0 k x0 x1 x5 (wrap64 (x6 + 1)))) else (riverbankref01_Shift.l0 k x0 x1 x5 (wrap64 (x6 + 1)))) else (riverbankref01_Shift.l0 k x0 x1 x5 (wrap64 (x6 + 1)))) else (none)) else (none)) else (some x5)
def riverbankref01_Shift.f (k : Nat) (l0 : List Bool) (a1 : Int) : Option (List Bool) := if 90 ≤ 281474976710656 then (riverbankref01_Shift.l0 k l0 a1 (List.replicate 90 false) 0) else (none)
theorem riverbankref01_Shift.mono_l : ∀ k, (∀ y0 y1 y2 y3, LeO (riverbankref01_Shift.l0 k y0 y1 y2 y3) (riverbankref01_Shift.l0 (k + 1) y0 y1 y2 y3))
  | 0 => fun _ _ _ _ r h => by simp [riverbankref01_Shift.l0] at h
  | k + 1 => by
    have ih0 := riverbankref01_Shift.mono_l k
    · intro y0 y1 y2 y3
      unfold riverbankref01_Shift.l0
      repeat' first
      | (with_reducible exact ih0 _ _ _ _)
      | (with_reducible exact LeO.refl _)
      | (with_reducible exact LeO.none _)
      | (with_reducible refine LeO.ite ?_ ?_)
      | (with_reducible refine LeO.bind ?_ (fun _ => ?_))
      | exact ih0 _ _ _ _
      | exact LeO.none _
      | refine LeO.ite ?_ ?_
      | refine LeO.bind ?_ (fun _ => ?_)
theorem riverbankref01_Shift.mono : ∀ a0 a1 k, LeO (riverbankref01_Shift.f k a0 a1) (riverbankref01_Shift.f (k + 1) a0 a1) := by
  intro a0 a1 k
  have ih0 := riverbankref01_Shift.mono_l k
  unfold riverbankref01_Shift.f
  repeat' first
      | (with_reducible exact ih0 _ _ _ _)
      | (with_reducible exact LeO.refl _)
      | (with_reducible exact LeO.none _)
      | (with_reducible refine LeO.ite ?_ ?_)
      | (with_reducible refine LeO.bind ?_ (fun _ => ?_))
      | exact ih0 _ _ _ _
      | exact LeO.none _
      | refine LeO.ite ?_ ?_
      | refine LeO.bind ?_ (fun _ => ?_)
set_option maxHeartbeats 8000000 in
set_option maxRecDepth 100000 in
theorem riverbankref01_Shift.calls (k : Nat) (A0 : Option Addr) (c0 : Nat) (l0 : List Bool) (a1 : Int) (r : List Bool) (w : World) (hr0 : Kd.C Kd.bool w A0 l0.length l0) (hc0 : l0.length ≤ c0) (h : riverbankref01_Shift.f k l0 a1 = some r) :
    Calls Tryd.prog 42 #[.slice A0 l0.length c0, .int .i64 a1] w fun e w' => ∃ v0_ : Value, e = .returned (v0_) ∧ Kd.R Kd.bool 4 w' w.heap.size (fun _ => True) v0_ r ∧ Below w.heap.size w w' := by
  have HR0 := Aside0.mk hr0
  have HC0 := Aside0.mk hc0
  clear hr0 hc0
  have HB := Aside0.mk (Below.refl w.heap.size w)
  have H : (if 90 ≤ 281474976710656 then (riverbankref01_Shift.l0 k l0 a1 (List.replicate 90 false) 0) else (none)) = some r := h
  clear h
  by_cases c3 : 90 ≤ 281474976710656
  · rw [if_pos c3] at H
    have c3b0 := eq_true c3
    have c3b1 : decide (90 ≤ 281474976710656) = true := decide_eq_true c3
    clear c3
    obtain ⟨y321, hy321⟩ : ∃ y_ : List Bool, y_ = (List.replicate 90 false) := ⟨_, rfl⟩
    replace H : (riverbankref01_Shift.l0 k l0 a1 y321 0) = some r := by first | (rw [hy321]; with_reducible exact H) | (have H2_ := (Option.bind_some _ _).symm.trans H; rw [hy321]; with_reducible exact H2_) | (have H2_ := (Option.bind_some _ _).symm.trans H; with_reducible exact H2_) | with_reducible exact H | (rw [hy321]; exact H) | exact H
    have Ny321 := Aside0.mk hy321
    clear hy321
    have H' := Aside0.mk H
    clear H
    go_enter Tryd.func42, Tryd.ntmps42
    go_wp2_with (first | ((with_reducible refine gate_dst (N := 7) rfl ?_); refine Kd.R_make Kd.bool _ 4 rfl (N := 7) rfl 25 _ _ rfl 90 rfl rfl Tryd.underlying25 (.bool false) 1 info4 rfl (by decide) (by omega) false (ok := fun _ => True) (okp := fun _ => True) rfl (fun _ hk => hk) trivial (by omega) (by omega) (Below.refl _ _) (Nat.le_refl _) ?_; intro v322 w4 ho5 hb hg_ hnew_; clear hg_ hnew_; (first | rw [← Ny321.out] at ho5 | (simp only [Int.reduceToNat] at ho5; rw [← Ny321.out] at ho5)); have n0_ := Aside0.mk (Kd.R_lower ho5 (below_size (by repeat (first | (with_reducible first | exact HB.out | apply below_alloc | apply pw_below_drewN | apply below_drew1) | exact HB.out)))); have n1_ := Aside0.mk (below_step (by repeat (first | (with_reducible first | exact HB.out | apply below_alloc | apply pw_below_drewN | apply below_drew1) | exact HB.out)) hb); clear HB; have HO323 := n0_; have HB := n1_; clear n0_ n1_; clear hb ho5))
    go_loopg [6] k (fun kq v6 w' => ∃ (x5_1 : List Bool) (x6_1 : Int), v6 = .int .i64 x6_1 ∧ Aside0 (riverbankref01_Shift.l0 kq l0 a1 x5_1 x6_1 = some r) ∧ Aside0 (kq ≤ k) ∧ Aside0 (Kd.R Kd.bool 4 w' w.heap.size (fun _ => True) v322 x5_1) ∧ Aside0 (Below w.heap.size w w'))
    case atStart => exact ⟨(y321), (0), (by first | rfl | (simp; done) | (simp [*]; done)), H', ⟨Nat.le_refl _⟩, ⟨by (with_reducible repeat (first | apply Kd.R_alloc | apply Kd.R_drewN | apply Kd.R_drew)); exact HO323.out⟩, ⟨by repeat (first | (with_reducible first | exact HB.out | apply below_alloc | apply pw_below_drewN | apply below_drew1) | exact HB.out)⟩⟩
    case round =>
      clear H'
      try clear p2
      try clear c3
      try clear c3b0
      try clear c3b1
      try clear c4
      obtain ⟨x5_1, x6_1, rfl, HA, HK1, HO_5, HB⟩ := hrel
      cases gk with
      | zero => exact absurd HA.out (by simp [riverbankref01_Shift.l0])
      | succ k1 =>
        have H := HA.out
        clear HA
        simp only [riverbankref01_Shift.l0] at H
        by_cases c6 : x6_1 < 90
        · rw [if_pos c6] at H
          have c6b0 : decide (x6_1 < 90) = true := decide_eq_true c6
          clear c6
          by_cases c7 : 0 ≤ x6_1
          · rw [if_pos c7] at H
            have c7b0 : decide (0 ≤ x6_1) = true := decide_eq_true c7
            clear c7
            by_cases c8 : x6_1 < (l0.length : Int)
            · rw [if_pos c8] at H
              have c8b0 : decide (x6_1 < (l0.length : Int)) = true := decide_eq_true c8
              clear c8
              obtain ⟨bq9, hbq9⟩ : ∃ b_ : Bool, b_ = (rdOf false l0 x6_1) := ⟨_, rfl⟩
              replace H : (if bq9 = true then (if a1 > (-1000) then (if a1 < 1000 then ((riverbankref01_Square.f (wrap64 (x6_1 + a1))).bind fun t325 => (if t325 = true then (if 0 ≤ (wrap64 (x6_1 + a1)) then (if (wrap64 (x6_1 + a1)) < (x5_1.length : Int) then (riverbankref01_Shift.l0 k1 l0 a1 (x5_1.set ((wrap64 (x6_1 + a1)) : Int).toNat true) (wrap64 (x6_1 + 1))) else (none)) else (none)) else (riverbankref01_Shift.l0 k1 l0 a1 x5_1 (wrap64 (x6_1 + 1))))) else (riverbankref01_Shift.l0 k1 l0 a1 x5_1 (wrap64 (x6_1 + 1)))) else (riverbankref01_Shift.l0 k1 l0 a1 x5_1 (wrap64 (x6_1 + 1)))) else (riverbankref01_Shift.l0 k1 l0 a1 x5_1 (wrap64 (x6_1 + 1)))) = some r := by rw [← hbq9] at H; exact H
              have Nbq9 := Aside0.mk hbq9
              clear hbq9
              by_cases c10 : bq9 = true
              · subst c10
                have H1 : (if a1 > (-1000) then (if a1 < 1000 then ((riverbankref01_Square.f (wrap64 (x6_1 + a1))).bind fun t325 => (if t325 = true then (if 0 ≤ (wrap64 (x6_1 + a1)) then (if (wrap64 (x6_1 + a1)) < (x5_1.length : Int) then (riverbankref01_Shift.l0 k1 l0 a1 (x5_1.set ((wrap64 (x6_1 + a1)) : Int).toNat true) (wrap64 (x6_1 + 1))) else (none)) else (none)) else (riverbankref01_Shift.l0 k1 l0 a1 x5_1 (wrap64 (x6_1 + 1))))) else (riverbankref01_Shift.l0 k1 l0 a1 x5_1 (wrap64 (x6_1 + 1)))) else (riverbankref01_Shift.l0 k1 l0 a1 x5_1 (wrap64 (x6_1 + 1)))) = some r := by rw [if_pos rfl] at H; exact H
                clear H
                have H := H1
                clear H1
                by_cases c11 : a1 > (-1000)
                · rw [if_pos c11] at H
                  have c11b0 : decide ((-1000) < a1) = true := decide_eq_true c11
                  clear c11
                  by_cases c12 : a1 < 1000
                  · rw [if_pos c12] at H
                    have c12b0 : decide (a1 < 1000) = true := decide_eq_true c12
                    clear c12
                    replace H := Option.bind_eq_some_iff.mp H
                    obtain ⟨t325, A130, H⟩ := H
                    replace H : (if t325 = true then (if 0 ≤ (wrap64 (x6_1 + a1)) then (if (wrap64 (x6_1 + a1)) < (x5_1.length : Int) then (riverbankref01_Shift.l0 k1 l0 a1 (x5_1.set ((wrap64 (x6_1 + a1)) : Int).toNat true) (wrap64 (x6_1 + 1))) else (none)) else (none)) else (riverbankref01_Shift.l0 k1 l0 a1 x5_1 (wrap64 (x6_1 + 1)))) = some r := H
                    have A13 := Aside0.mk A130
                    clear A130
                    by_cases c14 : t325 = true
                    · subst c14
                      have H1 : (if 0 ≤ (wrap64 (x6_1 + a1)) then (if (wrap64 (x6_1 + a1)) < (x5_1.length : Int) then (riverbankref01_Shift.l0 k1 l0 a1 (x5_1.set ((wrap64 (x6_1 + a1)) : Int).toNat true) (wrap64 (x6_1 + 1))) else (none)) else (none)) = some r := by rw [if_pos rfl] at H; exact H
                      clear H
                      have H := H1
                      clear H1
                      obtain ⟨ji15, hji15⟩ : ∃ j_ : Int, (wrap64 (x6_1 + a1)) = j_ := ⟨_, rfl⟩
                      replace H : (if 0 ≤ (ji15) then (if (ji15) < (x5_1.length : Int) then (riverbankref01_Shift.l0 k1 l0 a1 (x5_1.set ((ji15) : Int).toNat true) (wrap64 (x6_1 + 1))) else (none)) else (none)) = some r := by first | (rw [hji15] at H; exact H) | (simp only [hji15] at H ⊢; exact H)
                      (try rw [hji15] at A13)
                      have hji15w : (IntKind.i64.wrap (x6_1 + a1)) = ji15 := (i64_w _).trans hji15
                      by_cases c16 : 0 ≤ (ji15)
                      · rw [if_pos c16] at H
                        have c16b0 : decide (0 ≤ (ji15)) = true := decide_eq_true c16
                        clear c16
                        by_cases c17 : (ji15) < (x5_1.length : Int)
                        · rw [if_pos c17] at H
                          have c17b0 : decide ((ji15) < (x5_1.length : Int)) = true := decide_eq_true c17
                          clear c17
                          obtain ⟨y326, hy326⟩ : ∃ y_ : List Bool, y_ = (x5_1.set ((ji15) : Int).toNat true) := ⟨_, rfl⟩
                          replace H : (riverbankref01_Shift.l0 k1 l0 a1 y326 (wrap64 (x6_1 + 1))) = some r := by first | (rw [hy326]; with_reducible exact H) | (have H2_ := (Option.bind_some _ _).symm.trans H; rw [hy326]; with_reducible exact H2_) | (have H2_ := (Option.bind_some _ _).symm.trans H; with_reducible exact H2_) | with_reducible exact H | (rw [hy326]; exact H) | exact H
                          have Ny326 := Aside0.mk hy326
                          clear hy326
                          have H' := Aside0.mk H
                          clear H
                          have p324 : 0 ≤ (x6_1 : Int) := of_decide_eq_true (by first | (with_reducible assumption) | assumption)
                          have q324 : x6_1 < (l0.length : Int) := of_decide_eq_true (by first | (with_reducible assumption) | assumption)
                          obtain ⟨ad324, e324, hx324_0⟩ := Kd.at_bool HR0.out x6_1 p324 q324
                          (try rw [← Nbq9.out] at hx324_0)
                          cases e324
                          replace hx324_0 := (HB.out.cell (World.block_lt_of_cell? w _ hx324_0)).trans hx324_0
                          replace p324 := eq_true p324
                          replace q324 := eq_true q324
                          go_wp2_with (first | (go_at_call 31; (with_reducible refine (riverbankref01_Square.calls ji15 true _ A13.out).mono ?_); rintro e w' ⟨rfl, ⟨nd, rfl⟩⟩; (try (rw [drewN_self wr]; generalize hq_ : World.drewN wr _ = wr; have n0_ : Aside0 (Kd.R Kd.bool 4 wr w.heap.size (fun _ => True) v322 x5_1) := ⟨by rw [← hq_]; exact (by (with_reducible repeat (first | apply Kd.R_alloc | apply Kd.R_drewN | apply Kd.R_drew)); exact HO_5.out)⟩; have n1_ : Aside0 (Below w.heap.size w wr) := ⟨by rw [← hq_]; exact (by repeat (first | (with_reducible first | exact HB.out | apply below_alloc | apply pw_below_drewN | apply below_drew1) | exact HB.out))⟩; clear HO_5 HB hq_; have HO_5 := n0_; have HB := n1_; clear n0_ n1_)); have p18 : 0 ≤ ((ji15) : Int) := of_decide_eq_true (by first | (with_reducible assumption) | assumption); have q18 : ((ji15) : Int) < ((x5_1.length : Int) : Int) := of_decide_eq_true (by first | (with_reducible assumption) | assumption); obtain ⟨go18, co18, eo18, gb18, gl18, cl18, HG18⟩ := Kd.R_form HO_5.out (by omega); (first | cases eo18 | (injection eo18 with ea_ en_ ec_; (first | subst ea_ | (injection ea_ with ea_; subst ea_)); subst ec_; clear en_)); have GB18 := Aside0.mk gb18; have GG18 := Aside0.mk HG18; clear gb18 gl18 HG18; obtain ⟨hx18_0, hf18_0⟩ := Kd.R_celln false HO_5.out ((ji15) : Int) p18 q18; replace p18 := eq_true p18; replace q18 := eq_true q18; obtain ⟨hy19_, hz19_⟩ := Kd.R_celln false HO_5.out ((ji15) : Int) (of_decide_eq_true (by first | (with_reducible assumption) | assumption)) (of_decide_eq_true (by first | (with_reducible assumption) | assumption)); have HP19 := Kd.R_putg HO_5.out ((ji15) : Int) true) | ((with_reducible refine gate_store (t := 4) (p := 34) rfl ?_); refine store_event (t := 4) (p := 34) (v := ?vo_w20) (w1 := (wr.setCell ⟨go18, ((ji15) : Int).toNat, none⟩ (.bool true))) ?hg ?ho ?hn ?hr ?_; (case ho => rfl); (case hg => rfl); (case hn => rfl); (case hr => first | (go_simp; done) | (go_simp; rfl)); intro w20 hw; have hg : wr.grownBy w20 (some go18) := (by rw [hw]; exact HP19.2); have hp_ : Kd.R Kd.bool 4 w20 w.heap.size (fun _ => True) (.slice (some ⟨go18, 0, none⟩) x5_1.length co18) y326 := (by rw [hw, Ny326.out]; exact HP19.1); clear HP19; have n0_ := Aside0.mk (hp_); have n1_ := Aside0.mk ((by rw [hw]; exact below_set (HB.out) GB18.out : Below w.heap.size w w20)); clear HO_5; clear HB; have HO_5 := n0_; have HB := n1_; clear n0_ n1_; clear hg hw hp_))
                          go_roundg k1
                          case measure => have := HK1.out; omega
                          case rel => exact ⟨(y326), (wrap64 (x6_1 + 1)), (by first | rfl | (simp; done) | (simp [*]; done)), H', ⟨by have := HK1.out; omega⟩, ⟨by (with_reducible repeat (first | apply Kd.R_alloc | apply Kd.R_drewN | apply Kd.R_drew)); exact HO_5.out⟩, ⟨by repeat (first | (with_reducible first | exact HB.out | apply below_alloc | apply pw_below_drewN | apply below_drew1) | exact HB.out)⟩⟩
                        · rw [if_neg c17] at H
                          exact absurd H (by simp)
                      · rw [if_neg c16] at H
                        exact absurd H (by simp)
                    · replace c14 := Bool.eq_false_iff.mpr c14
                      subst c14
                      have H1 : (riverbankref01_Shift.l0 k1 l0 a1 x5_1 (wrap64 (x6_1 + 1))) = some r := by rw [if_neg (show ¬ (false = true) by decide)] at H; exact H
                      clear H
                      have H := H1
                      clear H1
                      have H' := Aside0.mk H
                      clear H
                      have p324 : 0 ≤ (x6_1 : Int) := of_decide_eq_true (by first | (with_reducible assumption) | assumption)
                      have q324 : x6_1 < (l0.length : Int) := of_decide_eq_true (by first | (with_reducible assumption) | assumption)
                      obtain ⟨ad324, e324, hx324_0⟩ := Kd.at_bool HR0.out x6_1 p324 q324
                      (try rw [← Nbq9.out] at hx324_0)
                      cases e324
                      replace hx324_0 := (HB.out.cell (World.block_lt_of_cell? w _ hx324_0)).trans hx324_0
                      replace p324 := eq_true p324
                      replace q324 := eq_true q324
                      go_wp2_with (first | (go_at_call 31; (with_reducible refine (riverbankref01_Square.calls (wrap64 (x6_1 + a1)) false _ A13.out).mono ?_); rintro e w' ⟨rfl, ⟨nd, rfl⟩⟩))
                      go_roundg k1
                      case measure => have := HK1.out; omega
                      case rel => exact ⟨(x5_1), (wrap64 (x6_1 + 1)), (by first | rfl | (simp; done) | (simp [*]; done)), H', ⟨by have := HK1.out; omega⟩, ⟨by (with_reducible repeat (first | apply Kd.R_alloc | apply Kd.R_drewN | apply Kd.R_drew)); exact HO_5.out⟩, ⟨by repeat (first | (with_reducible first | exact HB.out | apply below_alloc | apply pw_below_drewN | apply below_drew1) | exact HB.out)⟩⟩
                  · rw [if_neg c12] at H
                    have c12b0 : decide (a1 < 1000) = false := decide_eq_false c12
                    clear c12
                    have H' := Aside0.mk H
                    clear H
                    have p324 : 0 ≤ (x6_1 : Int) := of_decide_eq_true (by first | (with_reducible assumption) | assumption)
                    have q324 : x6_1 < (l0.length : Int) := of_decide_eq_true (by first | (with_reducible assumption) | assumption)
                    obtain ⟨ad324, e324, hx324_0⟩ := Kd.at_bool HR0.out x6_1 p324 q324
                    (try rw [← Nbq9.out] at hx324_0)
                    cases e324
                    replace hx324_0 := (HB.out.cell (World.block_lt_of_cell? w _ hx324_0)).trans hx324_0
                    replace p324 := eq_true p324
                    replace q324 := eq_true q324
                    go_wp2
                    go_roundg k1
                    case measure => have := HK1.out; omega
                    case rel => exact ⟨(x5_1), (wrap64 (x6_1 + 1)), (by first | rfl | (simp; done) | (simp [*]; done)), H', ⟨by have := HK1.out; omega⟩, ⟨by (with_reducible repeat (first | apply Kd.R_alloc | apply Kd.R_drewN | apply Kd.R_drew)); exact HO_5.out⟩, ⟨by repeat (first | (with_reducible first | exact HB.out | apply below_alloc | apply pw_below_drewN | apply below_drew1) | exact HB.out)⟩⟩
                · rw [if_neg c11] at H
                  have c11b0 : decide ((-1000) < a1) = false := decide_eq_false c11
                  clear c11
                  have H' := Aside0.mk H
                  clear H
                  have p324 : 0 ≤ (x6_1 : Int) := of_decide_eq_true (by first | (with_reducible assumption) | assumption)
                  have q324 : x6_1 < (l0.length : Int) := of_decide_eq_true (by first | (with_reducible assumption) | assumption)
                  obtain ⟨ad324, e324, hx324_0⟩ := Kd.at_bool HR0.out x6_1 p324 q324
                  (try rw [← Nbq9.out] at hx324_0)
                  cases e324
                  replace hx324_0 := (HB.out.cell (World.block_lt_of_cell? w _ hx324_0)).trans hx324_0
                  replace p324 := eq_true p324
                  replace q324 := eq_true q324
                  go_wp2
                  go_roundg k1
                  case measure => have := HK1.out; omega
                  case rel => exact ⟨(x5_1), (wrap64 (x6_1 + 1)), (by first | rfl | (simp; done) | (simp [*]; done)), H', ⟨by have := HK1.out; omega⟩, ⟨by (with_reducible repeat (first | apply Kd.R_alloc | apply Kd.R_drewN | apply Kd.R_drew)); exact HO_5.out⟩, ⟨by repeat (first | (with_reducible first | exact HB.out | apply below_alloc | apply pw_below_drewN | apply below_drew1) | exact HB.out)⟩⟩
              · replace c10 := Bool.eq_false_iff.mpr c10
                subst c10
                have H1 : (riverbankref01_Shift.l0 k1 l0 a1 x5_1 (wrap64 (x6_1 + 1))) = some r := by rw [if_neg (show ¬ (false = true) by decide)] at H; exact H
                clear H
                have H := H1
                clear H1
                have H' := Aside0.mk H
                clear H
                have p324 : 0 ≤ (x6_1 : Int) := of_decide_eq_true (by first | (with_reducible assumption) | assumption)
                have q324 : x6_1 < (l0.length : Int) := of_decide_eq_true (by first | (with_reducible assumption) | assumption)
                obtain ⟨ad324, e324, hx324_0⟩ := Kd.at_bool HR0.out x6_1 p324 q324
                (try rw [← Nbq9.out] at hx324_0)
                cases e324
                replace hx324_0 := (HB.out.cell (World.block_lt_of_cell? w _ hx324_0)).trans hx324_0
                replace p324 := eq_true p324
                replace q324 := eq_true q324
                go_wp2
                go_roundg k1
                case measure => have := HK1.out; omega
                case rel => exact ⟨(x5_1), (wrap64 (x6_1 + 1)), (by first | rfl | (simp; done) | (simp [*]; done)), H', ⟨by have := HK1.out; omega⟩, ⟨by (with_reducible repeat (first | apply Kd.R_alloc | apply Kd.R_drewN | apply Kd.R_drew)); exact HO_5.out⟩, ⟨by repeat (first | (with_reducible first | exact HB.out | apply below_alloc | apply pw_below_drewN | apply below_drew1) | exact HB.out)⟩⟩
            · rw [if_neg c8] at H
              exact absurd H (by simp)
          · rw [if_neg c7] at H
            exact absurd H (by simp)
        · rw [if_neg c6] at H
          have c6b0 : decide (x6_1 < 90) = false := decide_eq_false c6
          clear c6
          obtain rfl := Option.some.inj H
          go_wp2
          go_ret
          exact ⟨_, by first | rfl | (simp [errW_none, errW_some] <;> rfl) | (simp [*, errW_none, errW_some] <;> rfl), by (with_reducible repeat (first | apply Kd.R_alloc | apply Kd.R_drewN | apply Kd.R_drew)); exact HO_5.out, by repeat (first | (with_reducible first | exact HB.out | apply below_alloc | apply pw_below_drewN | apply below_drew1) | exact HB.out)⟩
  · rw [if_neg c3] at H
    exact absurd H (by simp)

/-! ### riverbankref01_Between: function 44 -/
def riverbankref01_Between.l0 : Nat → List Bool → Int → Int → List Bool → Int → Option (List Bool)
  | 0, _, _, _, _, _ => none
  | k + 1, x0, x1, x2, x7, x8 => if x8 < 90 then (if 0 ≤ x8 then (if x8 < (x0.length : Int) then (if rdOf false x0 x8 = true then (if x8 > (mn x1 x2) then (if x8 < (x7.length : Int) then (riverbankref01_Between.l0 k x0 x1 x2 (x7.set (x8 : Int).toNat (decide (x8 < (mx x1 x2)))) (wrap64 (x8 + 1))) else (none)) else (if x8 < (x7.length : Int) then (riverbankref01_Between.l0 k x0 x1 x2 (x7.set (x8 : Int).toNat false) (wrap64 (x8 + 1))) else (none))) else (if x8 < (x7.length : Int) then (riverbankref01_Between.l0 k x0 x1 x2 (x7.set (x8 : Int).toNat false) (wrap64 (x8 + 1))) else (none))) else (none)) else (none)) else (some x7)
def riverbankref01_Between.f (k : Nat) (l0 : List Bool) (a1 : Int) (a2 : Int) : Option (List Bool) := if 90 ≤ 281474976710656 then (riverbankref01_Between.l0 k l0 a1 a2 (List.replicate 90 false) 0) else (none)
theorem riverbankref01_Between.mono_l : ∀ k, (∀ y0 y1 y2 y3 y4, LeO (riverbankref01_Between.l0 k y0 y1 y2 y3 y4) (riverbankref01_Between.l0 (k + 1) y0 y1 y2 y3 y4))
  | 0 => fun _ _ _ _ _ r h => by simp [riverbankref01_Between.l0] at h
  | k + 1 => by
    have ih0 := riverbankref01_Between.mono_l k
    · intro y0 y1 y2 y3 y4
      unfold riverbankref01_Between.l0
      repeat' first
      | (with_reducible exact ih0 _ _ _ _ _)
      | (with_reducible exact LeO.refl _)
      | (with_reducible exact LeO.none _)
      | (with_reducible refine LeO.ite ?_ ?_)
      | (with_reducible refine LeO.bind ?_ (fun _ => ?_))
      | exact ih0 _ _ _ _ _
      | exact LeO.none _
      | refine LeO.ite ?_ ?_
      | refine LeO.bind ?_ (fun _ => ?_)
theorem riverbankref01_Between.mono : ∀ a0 a1 a2 k, LeO (riverbankref01_Between.f k a0 a1 a2) (riverbankref01_Between.f (k + 1) a0 a1 a2) := by
  intro a0 a1 a2 k
  have ih0 := riverbankref01_Between.mono_l k
  unfold riverbankref01_Between.f
  repeat' first
      | (with_reducible exact ih0 _ _ _ _ _)
      | (with_reducible exact LeO.refl _)
      | (with_reducible exact LeO.none _)
      | (with_reducible refine LeO.ite ?_ ?_)
      | (with_reducible refine LeO.bind ?_ (fun _ => ?_))
      | exact ih0 _ _ _ _ _
      | exact LeO.none _
      | refine LeO.ite ?_ ?_
      | refine LeO.bind ?_ (fun _ => ?_)
set_option maxHeartbeats 8000000 in
set_option maxRecDepth 100000 in
theorem riverbankref01_Between.calls (k : Nat) (A0 : Option Addr) (c0 : Nat) (l0 : List Bool) (a1 : Int) (a2 : Int) (r : List Bool) (w : World) (hr0 : Kd.C Kd.bool w A0 l0.length l0) (hc0 : l0.length ≤ c0) (h : riverbankref01_Between.f k l0 a1 a2 = some r) :
    Calls Tryd.prog 44 #[.slice A0 l0.length c0, .int .i64 a1, .int .i64 a2] w fun e w' => ∃ v0_ : Value, e = .returned (v0_) ∧ Kd.R Kd.bool 4 w' w.heap.size (fun _ => True) v0_ r ∧ Below w.heap.size w w' := by
  have HR0 := Aside0.mk hr0
  have HC0 := Aside0.mk hc0
  clear hr0 hc0
  have HB := Aside0.mk (Below.refl w.heap.size w)
  have H : (if 90 ≤ 281474976710656 then (riverbankref01_Between.l0 k l0 a1 a2 (List.replicate 90 false) 0) else (none)) = some r := h
  clear h
  by_cases c4 : 90 ≤ 281474976710656
  · rw [if_pos c4] at H
    have c4b0 := eq_true c4
    have c4b1 : decide (90 ≤ 281474976710656) = true := decide_eq_true c4
    clear c4
    obtain ⟨y327, hy327⟩ : ∃ y_ : List Bool, y_ = (List.replicate 90 false) := ⟨_, rfl⟩
    replace H : (riverbankref01_Between.l0 k l0 a1 a2 y327 0) = some r := by first | (rw [hy327]; with_reducible exact H) | (have H2_ := (Option.bind_some _ _).symm.trans H; rw [hy327]; with_reducible exact H2_) | (have H2_ := (Option.bind_some _ _).symm.trans H; with_reducible exact H2_) | with_reducible exact H | (rw [hy327]; exact H) | exact H
    have Ny327 := Aside0.mk hy327
    clear hy327
    have H' := Aside0.mk H
    clear H
    go_enter Tryd.func44, Tryd.ntmps44
    go_wp2_with (first | ((with_reducible refine gate_dst (N := 9) rfl ?_); (try (refine gate_guard (by rfl) ?_; dsimp only)); refine Kd.R_make Kd.bool _ 4 rfl (N := 9) rfl 25 _ _ rfl 90 rfl rfl Tryd.underlying25 (.bool false) 1 info4 rfl (by decide) (by omega) false (ok := fun _ => True) (okp := fun _ => True) rfl (fun _ hk => hk) trivial (by omega) (by omega) (Below.refl _ _) (Nat.le_refl _) ?_; intro v328 w5 ho6 hb hg_ hnew_; clear hg_ hnew_; (first | rw [← Ny327.out] at ho6 | (simp only [Int.reduceToNat] at ho6; rw [← Ny327.out] at ho6)); have n0_ := Aside0.mk (Kd.R_lower ho6 (below_size (by repeat (first | (with_reducible first | exact HB.out | apply below_alloc | apply pw_below_drewN | apply below_drew1) | exact HB.out)))); have n1_ := Aside0.mk (below_step (by repeat (first | (with_reducible first | exact HB.out | apply below_alloc | apply pw_below_drewN | apply below_drew1) | exact HB.out)) hb); clear HB; have HO329 := n0_; have HB := n1_; clear n0_ n1_; clear hb ho6))
    go_loopg [8] k (fun kq v8 w' => ∃ (x7_1 : List Bool) (x8_1 : Int), v8 = .int .i64 x8_1 ∧ Aside0 (riverbankref01_Between.l0 kq l0 a1 a2 x7_1 x8_1 = some r) ∧ Aside0 (kq ≤ k) ∧ Aside0 (Kd.R Kd.bool 4 w' w.heap.size (fun _ => True) v328 x7_1) ∧ Aside0 (Below w.heap.size w w'))
    case atStart => exact ⟨(y327), (0), (by first | rfl | (simp; done) | (simp [*]; done)), H', ⟨Nat.le_refl _⟩, ⟨by (with_reducible repeat (first | apply Kd.R_alloc | apply Kd.R_drewN | apply Kd.R_drew)); exact HO329.out⟩, ⟨by repeat (first | (with_reducible first | exact HB.out | apply below_alloc | apply pw_below_drewN | apply below_drew1) | exact HB.out)⟩⟩
    case round =>
      clear H'
      try clear p2
      try clear c4
      try clear c4b0
      try clear c4b1
      obtain ⟨x7_1, x8_1, rfl, HA, HK1, HO_7, HB⟩ := hrel
      cases gk with
      | zero => exact absurd HA.out (by simp [riverbankref01_Between.l0])
      | succ k1 =>
        have H := HA.out
        clear HA
        simp only [riverbankref01_Between.l0] at H
        by_cases c7 : x8_1 < 90
        · rw [if_pos c7] at H
          have c7b0 : decide (x8_1 < 90) = true := decide_eq_true c7
          clear c7
          by_cases c8 : 0 ≤ x8_1
          · rw [if_pos c8] at H
            have c8b0 : decide (0 ≤ x8_1) = true := decide_eq_true c8
            clear c8
            by_cases c9 : x8_1 < (l0.length : Int)
            · rw [if_pos c9] at H
              have c9b0 : decide (x8_1 < (l0.length : Int)) = true := decide_eq_true c9
              clear c9
              obtain ⟨bq10, hbq10⟩ : ∃ b_ : Bool, b_ = (rdOf false l0 x8_1) := ⟨_, rfl⟩
              replace H : (if bq10 = true then (if x8_1 > (mn a1 a2) then (if x8_1 < (x7_1.length : Int) then (riverbankref01_Between.l0 k1 l0 a1 a2 (x7_1.set (x8_1 : Int).toNat (decide (x8_1 < (mx a1 a2)))) (wrap64 (x8_1 + 1))) else (none)) else (if x8_1 < (x7_1.length : Int) then (riverbankref01_Between.l0 k1 l0 a1 a2 (x7_1.set (x8_1 : Int).toNat false) (wrap64 (x8_1 + 1))) else (none))) else (if x8_1 < (x7_1.length : Int) then (riverbankref01_Between.l0 k1 l0 a1 a2 (x7_1.set (x8_1 : Int).toNat false) (wrap64 (x8_1 + 1))) else (none))) = some r := by rw [← hbq10] at H; exact H
              have Nbq10 := Aside0.mk hbq10
              clear hbq10
              by_cases c11 : bq10 = true
              · subst c11
                have H1 : (if x8_1 > (mn a1 a2) then (if x8_1 < (x7_1.length : Int) then (riverbankref01_Between.l0 k1 l0 a1 a2 (x7_1.set (x8_1 : Int).toNat (decide (x8_1 < (mx a1 a2)))) (wrap64 (x8_1 + 1))) else (none)) else (if x8_1 < (x7_1.length : Int) then (riverbankref01_Between.l0 k1 l0 a1 a2 (x7_1.set (x8_1 : Int).toNat false) (wrap64 (x8_1 + 1))) else (none))) = some r := by rw [if_pos rfl] at H; exact H
                clear H
                have H := H1
                clear H1
                obtain ⟨ji12, hji12⟩ : ∃ j_ : Int, (mn a1 a2) = j_ := ⟨_, rfl⟩
                replace H : (if x8_1 > (ji12) then (if x8_1 < (x7_1.length : Int) then (riverbankref01_Between.l0 k1 l0 a1 a2 (x7_1.set (x8_1 : Int).toNat (decide (x8_1 < (mx a1 a2)))) (wrap64 (x8_1 + 1))) else (none)) else (if x8_1 < (x7_1.length : Int) then (riverbankref01_Between.l0 k1 l0 a1 a2 (x7_1.set (x8_1 : Int).toNat false) (wrap64 (x8_1 + 1))) else (none))) = some r := by first | (rw [hji12] at H; exact H) | (simp only [hji12] at H ⊢; exact H)
                have hji12_ : (if a2 < a1 then a2 else a1) = ji12 := hji12
                by_cases c13 : x8_1 > (ji12)
                · rw [if_pos c13] at H
                  have c13b0 : decide ((ji12) < x8_1) = true := decide_eq_true c13
                  clear c13
                  obtain ⟨ji14, hji14⟩ : ∃ j_ : Int, (mx a1 a2) = j_ := ⟨_, rfl⟩
                  replace H : (if x8_1 < (x7_1.length : Int) then (riverbankref01_Between.l0 k1 l0 a1 a2 (x7_1.set (x8_1 : Int).toNat (decide (x8_1 < (ji14)))) (wrap64 (x8_1 + 1))) else (none)) = some r := by first | (rw [hji14] at H; exact H) | (simp only [hji14] at H ⊢; exact H)
                  have hji14_ : (if a1 < a2 then a2 else a1) = ji14 := hji14
                  by_cases c15 : x8_1 < (x7_1.length : Int)
                  · rw [if_pos c15] at H
                    have c15b0 : decide (x8_1 < (x7_1.length : Int)) = true := decide_eq_true c15
                    clear c15
                    obtain ⟨y331, hy331⟩ : ∃ y_ : List Bool, y_ = (x7_1.set (x8_1 : Int).toNat (decide (x8_1 < (ji14)))) := ⟨_, rfl⟩
                    replace H : (riverbankref01_Between.l0 k1 l0 a1 a2 y331 (wrap64 (x8_1 + 1))) = some r := by first | (rw [hy331]; with_reducible exact H) | (have H2_ := (Option.bind_some _ _).symm.trans H; rw [hy331]; with_reducible exact H2_) | (have H2_ := (Option.bind_some _ _).symm.trans H; with_reducible exact H2_) | with_reducible exact H | (rw [hy331]; exact H) | exact H
                    have Ny331 := Aside0.mk hy331
                    clear hy331
                    have H' := Aside0.mk H
                    clear H
                    have p330 : 0 ≤ (x8_1 : Int) := of_decide_eq_true (by first | (with_reducible assumption) | assumption)
                    have q330 : x8_1 < (l0.length : Int) := of_decide_eq_true (by first | (with_reducible assumption) | assumption)
                    obtain ⟨ad330, e330, hx330_0⟩ := Kd.at_bool HR0.out x8_1 p330 q330
                    (try rw [← Nbq10.out] at hx330_0)
                    cases e330
                    replace hx330_0 := (HB.out.cell (World.block_lt_of_cell? w _ hx330_0)).trans hx330_0
                    replace p330 := eq_true p330
                    replace q330 := eq_true q330
                    have p16 : 0 ≤ (x8_1 : Int) := of_decide_eq_true (by first | (with_reducible assumption) | assumption)
                    have q16 : (x8_1 : Int) < ((x7_1.length : Int) : Int) := of_decide_eq_true (by first | (with_reducible assumption) | assumption)
                    obtain ⟨go16, co16, eo16, gb16, gl16, cl16, HG16⟩ := Kd.R_form HO_7.out (by omega)
                    (first | cases eo16 | (injection eo16 with ea_ en_ ec_; (first | subst ea_ | (injection ea_ with ea_; subst ea_)); subst ec_; clear en_))
                    have GB16 := Aside0.mk gb16
                    have GG16 := Aside0.mk HG16
                    clear gb16 gl16 HG16
                    obtain ⟨hx16_0, hf16_0⟩ := Kd.R_celln false HO_7.out (x8_1 : Int) p16 q16
                    replace p16 := eq_true p16
                    replace q16 := eq_true q16
                    have HP17 := Kd.R_putg HO_7.out (x8_1 : Int) (decide (x8_1 < (ji14)))
                    go_wp2_with (first | ((with_reducible refine gate_store (t := 4) (p := 34) rfl ?_); refine store_event (t := 4) (p := 34) (v := ?vo_w18) (w1 := (wr.setCell ⟨go16, (x8_1 : Int).toNat, none⟩ (.bool (decide (x8_1 < (ji14)))))) ?hg ?ho ?hn ?hr ?_; (case ho => rfl); (case hg => rfl); (case hn => rfl); (case hr => first | (go_simp; done) | (go_simp; rfl)); intro w18 hw; have hg : wr.grownBy w18 (some go16) := (by rw [hw]; exact HP17.2); have hp_ : Kd.R Kd.bool 4 w18 w.heap.size (fun _ => True) (.slice (some ⟨go16, 0, none⟩) x7_1.length co16) y331 := (by rw [hw, Ny331.out]; exact HP17.1); clear HP17; have n0_ := Aside0.mk (hp_); have n1_ := Aside0.mk ((by rw [hw]; exact below_set (HB.out) GB16.out : Below w.heap.size w w18)); clear HO_7; clear HB; have HO_7 := n0_; have HB := n1_; clear n0_ n1_; clear hg hw hp_))
                    go_roundg k1
                    case measure => have := HK1.out; omega
                    case rel => exact ⟨(y331), (wrap64 (x8_1 + 1)), (by first | rfl | (simp; done) | (simp [*]; done)), H', ⟨by have := HK1.out; omega⟩, ⟨by (with_reducible repeat (first | apply Kd.R_alloc | apply Kd.R_drewN | apply Kd.R_drew)); exact HO_7.out⟩, ⟨by repeat (first | (with_reducible first | exact HB.out | apply below_alloc | apply pw_below_drewN | apply below_drew1) | exact HB.out)⟩⟩
                  · rw [if_neg c15] at H
                    exact absurd H (by simp)
                · rw [if_neg c13] at H
                  have c13b0 : decide ((ji12) < x8_1) = false := decide_eq_false c13
                  clear c13
                  by_cases c19 : x8_1 < (x7_1.length : Int)
                  · rw [if_pos c19] at H
                    have c19b0 : decide (x8_1 < (x7_1.length : Int)) = true := decide_eq_true c19
                    clear c19
                    obtain ⟨y332, hy332⟩ : ∃ y_ : List Bool, y_ = (x7_1.set (x8_1 : Int).toNat false) := ⟨_, rfl⟩
                    replace H : (riverbankref01_Between.l0 k1 l0 a1 a2 y332 (wrap64 (x8_1 + 1))) = some r := by first | (rw [hy332]; with_reducible exact H) | (have H2_ := (Option.bind_some _ _).symm.trans H; rw [hy332]; with_reducible exact H2_) | (have H2_ := (Option.bind_some _ _).symm.trans H; with_reducible exact H2_) | with_reducible exact H | (rw [hy332]; exact H) | exact H
                    have Ny332 := Aside0.mk hy332
                    clear hy332
                    have H' := Aside0.mk H
                    clear H
                    have p330 : 0 ≤ (x8_1 : Int) := of_decide_eq_true (by first | (with_reducible assumption) | assumption)
                    have q330 : x8_1 < (l0.length : Int) := of_decide_eq_true (by first | (with_reducible assumption) | assumption)
                    obtain ⟨ad330, e330, hx330_0⟩ := Kd.at_bool HR0.out x8_1 p330 q330
                    (try rw [← Nbq10.out] at hx330_0)
                    cases e330
                    replace hx330_0 := (HB.out.cell (World.block_lt_of_cell? w _ hx330_0)).trans hx330_0
                    replace p330 := eq_true p330
                    replace q330 := eq_true q330
                    have p20 : 0 ≤ (x8_1 : Int) := of_decide_eq_true (by first | (with_reducible assumption) | assumption)
                    have q20 : (x8_1 : Int) < ((x7_1.length : Int) : Int) := of_decide_eq_true (by first | (with_reducible assumption) | assumption)
                    obtain ⟨go20, co20, eo20, gb20, gl20, cl20, HG20⟩ := Kd.R_form HO_7.out (by omega)
                    (first | cases eo20 | (injection eo20 with ea_ en_ ec_; (first | subst ea_ | (injection ea_ with ea_; subst ea_)); subst ec_; clear en_))
                    have GB20 := Aside0.mk gb20
                    have GG20 := Aside0.mk HG20
                    clear gb20 gl20 HG20
                    obtain ⟨hx20_0, hf20_0⟩ := Kd.R_celln false HO_7.out (x8_1 : Int) p20 q20
                    replace p20 := eq_true p20
                    replace q20 := eq_true q20
                    have HP21 := Kd.R_putg HO_7.out (x8_1 : Int) false
                    go_wp2_with (first | ((with_reducible refine gate_store (t := 4) (p := 34) rfl ?_); refine store_event (t := 4) (p := 34) (v := ?vo_w22) (w1 := (wr.setCell ⟨go20, (x8_1 : Int).toNat, none⟩ (.bool false))) ?hg ?ho ?hn ?hr ?_; (case ho => rfl); (case hg => rfl); (case hn => rfl); (case hr => first | (go_simp; done) | (go_simp; rfl)); intro w22 hw; have hg : wr.grownBy w22 (some go20) := (by rw [hw]; exact HP21.2); have hp_ : Kd.R Kd.bool 4 w22 w.heap.size (fun _ => True) (.slice (some ⟨go20, 0, none⟩) x7_1.length co20) y332 := (by rw [hw, Ny332.out]; exact HP21.1); clear HP21; have n0_ := Aside0.mk (hp_); have n1_ := Aside0.mk ((by rw [hw]; exact below_set (HB.out) GB20.out : Below w.heap.size w w22)); clear HO_7; clear HB; have HO_7 := n0_; have HB := n1_; clear n0_ n1_; clear hg hw hp_))
                    go_roundg k1
                    case measure => have := HK1.out; omega
                    case rel => exact ⟨(y332), (wrap64 (x8_1 + 1)), (by first | rfl | (simp; done) | (simp [*]; done)), H', ⟨by have := HK1.out; omega⟩, ⟨by (with_reducible repeat (first | apply Kd.R_alloc | apply Kd.R_drewN | apply Kd.R_drew)); exact HO_7.out⟩, ⟨by repeat (first | (with_reducible first | exact HB.out | apply below_alloc | apply pw_below_drewN | apply below_drew1) | exact HB.out)⟩⟩
                  · rw [if_neg c19] at H
                    exact absurd H (by simp)
              · replace c11 := Bool.eq_false_iff.mpr c11
                subst c11
                have H1 : (if x8_1 < (x7_1.length : Int) then (riverbankref01_Between.l0 k1 l0 a1 a2 (x7_1.set (x8_1 : Int).toNat false) (wrap64 (x8_1 + 1))) else (none)) = some r := by rw [if_neg (show ¬ (false = true) by decide)] at H; exact H
                clear H
                have H := H1
                clear H1
                by_cases c23 : x8_1 < (x7_1.length : Int)
                · rw [if_pos c23] at H
                  have c23b0 : decide (x8_1 < (x7_1.length : Int)) = true := decide_eq_true c23
                  clear c23
                  obtain ⟨y333, hy333⟩ : ∃ y_ : List Bool, y_ = (x7_1.set (x8_1 : Int).toNat false) := ⟨_, rfl⟩
                  replace H : (riverbankref01_Between.l0 k1 l0 a1 a2 y333 (wrap64 (x8_1 + 1))) = some r := by first | (rw [hy333]; with_reducible exact H) | (have H2_ := (Option.bind_some _ _).symm.trans H; rw [hy333]; with_reducible exact H2_) | (have H2_ := (Option.bind_some _ _).symm.trans H; with_reducible exact H2_) | with_reducible exact H | (rw [hy333]; exact H) | exact H
                  have Ny333 := Aside0.mk hy333
                  clear hy333
                  have H' := Aside0.mk H
                  clear H
                  have p330 : 0 ≤ (x8_1 : Int) := of_decide_eq_true (by first | (with_reducible assumption) | assumption)
                  have q330 : x8_1 < (l0.length : Int) := of_decide_eq_true (by first | (with_reducible assumption) | assumption)
                  obtain ⟨ad330, e330, hx330_0⟩ := Kd.at_bool HR0.out x8_1 p330 q330
                  (try rw [← Nbq10.out] at hx330_0)
                  cases e330
                  replace hx330_0 := (HB.out.cell (World.block_lt_of_cell? w _ hx330_0)).trans hx330_0
                  replace p330 := eq_true p330
                  replace q330 := eq_true q330
                  have p24 : 0 ≤ (x8_1 : Int) := of_decide_eq_true (by first | (with_reducible assumption) | assumption)
                  have q24 : (x8_1 : Int) < ((x7_1.length : Int) : Int) := of_decide_eq_true (by first | (with_reducible assumption) | assumption)
                  obtain ⟨go24, co24, eo24, gb24, gl24, cl24, HG24⟩ := Kd.R_form HO_7.out (by omega)
                  (first | cases eo24 | (injection eo24 with ea_ en_ ec_; (first | subst ea_ | (injection ea_ with ea_; subst ea_)); subst ec_; clear en_))
                  have GB24 := Aside0.mk gb24
                  have GG24 := Aside0.mk HG24
                  clear gb24 gl24 HG24
                  obtain ⟨hx24_0, hf24_0⟩ := Kd.R_celln false HO_7.out (x8_1 : Int) p24 q24
                  replace p24 := eq_true p24
                  replace q24 := eq_true q24
                  have HP25 := Kd.R_putg HO_7.out (x8_1 : Int) false
                  go_wp2_with (first | ((with_reducible refine gate_store (t := 4) (p := 34) rfl ?_); refine store_event (t := 4) (p := 34) (v := ?vo_w26) (w1 := (wr.setCell ⟨go24, (x8_1 : Int).toNat, none⟩ (.bool false))) ?hg ?ho ?hn ?hr ?_; (case ho => rfl); (case hg => rfl); (case hn => rfl); (case hr => first | (go_simp; done) | (go_simp; rfl)); intro w26 hw; have hg : wr.grownBy w26 (some go24) := (by rw [hw]; exact HP25.2); have hp_ : Kd.R Kd.bool 4 w26 w.heap.size (fun _ => True) (.slice (some ⟨go24, 0, none⟩) x7_1.length co24) y333 := (by rw [hw, Ny333.out]; exact HP25.1); clear HP25; have n0_ := Aside0.mk (hp_); have n1_ := Aside0.mk ((by rw [hw]; exact below_set (HB.out) GB24.out : Below w.heap.size w w26)); clear HO_7; clear HB; have HO_7 := n0_; have HB := n1_; clear n0_ n1_; clear hg hw hp_))
                  go_roundg k1
                  case measure => have := HK1.out; omega
                  case rel => exact ⟨(y333), (wrap64 (x8_1 + 1)), (by first | rfl | (simp; done) | (simp [*]; done)), H', ⟨by have := HK1.out; omega⟩, ⟨by (with_reducible repeat (first | apply Kd.R_alloc | apply Kd.R_drewN | apply Kd.R_drew)); exact HO_7.out⟩, ⟨by repeat (first | (with_reducible first | exact HB.out | apply below_alloc | apply pw_below_drewN | apply below_drew1) | exact HB.out)⟩⟩
                · rw [if_neg c23] at H
                  exact absurd H (by simp)
            · rw [if_neg c9] at H
              exact absurd H (by simp)
          · rw [if_neg c8] at H
            exact absurd H (by simp)
        · rw [if_neg c7] at H
          have c7b0 : decide (x8_1 < 90) = false := decide_eq_false c7
          clear c7
          obtain rfl := Option.some.inj H
          go_wp2
          go_ret
          exact ⟨_, by first | rfl | (simp [errW_none, errW_some] <;> rfl) | (simp [*, errW_none, errW_some] <;> rfl), by (with_reducible repeat (first | apply Kd.R_alloc | apply Kd.R_drewN | apply Kd.R_drew)); exact HO_7.out, by repeat (first | (with_reducible first | exact HB.out | apply below_alloc | apply pw_below_drewN | apply below_drew1) | exact HB.out)⟩
  · rw [if_neg c4] at H
    exact absurd H (by simp)

/-! ### riverbanklaw01_BitsShift: function 5 -/
def riverbanklaw01_BitsShift.f (k : Nat) (a0_0 : Int) (a0_1 : Int) (a1 : Int) (a2 : Int) : Option (Bool) := (riverbankref01_Truths.f k a0_0 a0_1).bind fun t335 => ((bits_Set_Shift.f k a0_0 a0_1 a1).bind fun bt338 => ((riverbankref01_Shift.f k t335 a1).bind fun t340 => ((riverbanklaw01_is.f k bt338.1 bt338.2 t340).bind fun t343 => (if t343 = true then ((bits_Set_Between.f k a0_0 a0_1 a1 a2).bind fun bt344 => ((riverbankref01_Between.f k t335 a1 a2).bind fun t346 => ((riverbanklaw01_is.f k bt344.1 bt344.2 t346).bind fun t349 => (if t349 = true then ((riverbanklaw01_live.f k).bind fun t350 => (some t350)) else (some false))))) else (some false)))))
theorem riverbanklaw01_BitsShift.mono : ∀ a0 a1 a2 a3 k, LeO (riverbanklaw01_BitsShift.f k a0 a1 a2 a3) (riverbanklaw01_BitsShift.f (k + 1) a0 a1 a2 a3) := by
  intro a0 a1 a2 a3 k
  unfold riverbanklaw01_BitsShift.f
  repeat' first
      | (with_reducible exact bits_Set_Between.mono _ _ _ _ _)
      | (with_reducible exact bits_Set_Shift.mono _ _ _ _)
      | (with_reducible exact riverbanklaw01_is.mono _ _ _ _)
      | (with_reducible exact riverbanklaw01_live.mono _)
      | (with_reducible exact riverbankref01_Between.mono _ _ _ _)
      | (with_reducible exact riverbankref01_Shift.mono _ _ _)
      | (with_reducible exact riverbankref01_Truths.mono _ _ _)
      | (with_reducible exact LeO.refl _)
      | (with_reducible exact LeO.none _)
      | (with_reducible refine LeO.ite ?_ ?_)
      | (with_reducible refine LeO.bind ?_ (fun _ => ?_))
      | exact bits_Set_Between.mono _ _ _ _ _
      | exact bits_Set_Shift.mono _ _ _ _
      | exact riverbanklaw01_is.mono _ _ _ _
      | exact riverbanklaw01_live.mono _
      | exact riverbankref01_Between.mono _ _ _ _
      | exact riverbankref01_Shift.mono _ _ _
      | exact riverbankref01_Truths.mono _ _ _
      | exact LeO.none _
      | refine LeO.ite ?_ ?_
      | refine LeO.bind ?_ (fun _ => ?_)
set_option maxHeartbeats 8000000 in
set_option maxRecDepth 100000 in
theorem riverbanklaw01_BitsShift.calls (k : Nat) (a0_0 : Int) (a0_1 : Int) (a1 : Int) (a2 : Int) (r : Bool) (w : World) (hT : TabHere w) (h : riverbanklaw01_BitsShift.f k a0_0 a0_1 a1 a2 = some r) :
    Calls Tryd.prog 5 #[.agg #[.int .u64 a0_0, .int .u64 a0_1], .int .i64 a1, .int .i64 a2] w fun e w' => e = .returned (.bool r) ∧ Below w.heap.size w w' := by
  have HT := Aside0.mk hT
  clear hT
  have hu24 := Tryd.underlying24
  have HB := Aside0.mk (Below.refl w.heap.size w)
  have H : ((riverbankref01_Truths.f k a0_0 a0_1).bind fun t335 => ((bits_Set_Shift.f k a0_0 a0_1 a1).bind fun bt338 => ((riverbankref01_Shift.f k t335 a1).bind fun t340 => ((riverbanklaw01_is.f k bt338.1 bt338.2 t340).bind fun t343 => (if t343 = true then ((bits_Set_Between.f k a0_0 a0_1 a1 a2).bind fun bt344 => ((riverbankref01_Between.f k t335 a1 a2).bind fun t346 => ((riverbanklaw01_is.f k bt344.1 bt344.2 t346).bind fun t349 => (if t349 = true then ((riverbanklaw01_live.f k).bind fun t350 => (some t350)) else (some false))))) else (some false)))))) = some r := h
  clear h
  replace H := Option.bind_eq_some_iff.mp H
  obtain ⟨t335, A40, H⟩ := H
  replace H : ((bits_Set_Shift.f k a0_0 a0_1 a1).bind fun bt338 => ((riverbankref01_Shift.f k t335 a1).bind fun t340 => ((riverbanklaw01_is.f k bt338.1 bt338.2 t340).bind fun t343 => (if t343 = true then ((bits_Set_Between.f k a0_0 a0_1 a1 a2).bind fun bt344 => ((riverbankref01_Between.f k t335 a1 a2).bind fun t346 => ((riverbanklaw01_is.f k bt344.1 bt344.2 t346).bind fun t349 => (if t349 = true then ((riverbanklaw01_live.f k).bind fun t350 => (some t350)) else (some false))))) else (some false))))) = some r := H
  have A4 := Aside0.mk A40
  clear A40
  replace H := Option.bind_eq_some_iff.mp H
  obtain ⟨⟨t338, t339⟩, A50, H⟩ := H
  replace H : ((riverbankref01_Shift.f k t335 a1).bind fun t340 => ((riverbanklaw01_is.f k t338 t339 t340).bind fun t343 => (if t343 = true then ((bits_Set_Between.f k a0_0 a0_1 a1 a2).bind fun bt344 => ((riverbankref01_Between.f k t335 a1 a2).bind fun t346 => ((riverbanklaw01_is.f k bt344.1 bt344.2 t346).bind fun t349 => (if t349 = true then ((riverbanklaw01_live.f k).bind fun t350 => (some t350)) else (some false))))) else (some false)))) = some r := H
  have A5 := Aside0.mk A50
  clear A50
  replace H := Option.bind_eq_some_iff.mp H
  obtain ⟨t340, A60, H⟩ := H
  replace H : ((riverbanklaw01_is.f k t338 t339 t340).bind fun t343 => (if t343 = true then ((bits_Set_Between.f k a0_0 a0_1 a1 a2).bind fun bt344 => ((riverbankref01_Between.f k t335 a1 a2).bind fun t346 => ((riverbanklaw01_is.f k bt344.1 bt344.2 t346).bind fun t349 => (if t349 = true then ((riverbanklaw01_live.f k).bind fun t350 => (some t350)) else (some false))))) else (some false))) = some r := H
  have A6 := Aside0.mk A60
  clear A60
  replace H := Option.bind_eq_some_iff.mp H
  obtain ⟨t343, A70, H⟩ := H
  replace H : (if t343 = true then ((bits_Set_Between.f k a0_0 a0_1 a1 a2).bind fun bt344 => ((riverbankref01_Between.f k t335 a1 a2).bind fun t346 => ((riverbanklaw01_is.f k bt344.1 bt344.2 t346).bind fun t349 => (if t349 = true then ((riverbanklaw01_live.f k).bind fun t350 => (some t350)) else (some false))))) else (some false)) = some r := H
  have A7 := Aside0.mk A70
  clear A70
  by_cases c8 : t343 = true
  · subst c8
    have H1 : ((bits_Set_Between.f k a0_0 a0_1 a1 a2).bind fun bt344 => ((riverbankref01_Between.f k t335 a1 a2).bind fun t346 => ((riverbanklaw01_is.f k bt344.1 bt344.2 t346).bind fun t349 => (if t349 = true then ((riverbanklaw01_live.f k).bind fun t350 => (some t350)) else (some false))))) = some r := by rw [if_pos rfl] at H; exact H
    clear H
    have H := H1
    clear H1
    replace H := Option.bind_eq_some_iff.mp H
    obtain ⟨⟨t344, t345⟩, A90, H⟩ := H
    replace H : ((riverbankref01_Between.f k t335 a1 a2).bind fun t346 => ((riverbanklaw01_is.f k t344 t345 t346).bind fun t349 => (if t349 = true then ((riverbanklaw01_live.f k).bind fun t350 => (some t350)) else (some false)))) = some r := H
    have A9 := Aside0.mk A90
    clear A90
    replace H := Option.bind_eq_some_iff.mp H
    obtain ⟨t346, A100, H⟩ := H
    replace H : ((riverbanklaw01_is.f k t344 t345 t346).bind fun t349 => (if t349 = true then ((riverbanklaw01_live.f k).bind fun t350 => (some t350)) else (some false))) = some r := H
    have A10 := Aside0.mk A100
    clear A100
    replace H := Option.bind_eq_some_iff.mp H
    obtain ⟨t349, A110, H⟩ := H
    replace H : (if t349 = true then ((riverbanklaw01_live.f k).bind fun t350 => (some t350)) else (some false)) = some r := H
    have A11 := Aside0.mk A110
    clear A110
    by_cases c12 : t349 = true
    · subst c12
      have H1 : ((riverbanklaw01_live.f k).bind fun t350 => (some t350)) = some r := by rw [if_pos rfl] at H; exact H
      clear H
      have H := H1
      clear H1
      replace H := Option.bind_eq_some_iff.mp H
      obtain ⟨t350, A130, H⟩ := H
      replace H : (some t350) = some r := H
      have A13 := Aside0.mk A130
      clear A130
      obtain rfl := Option.some.inj H
      go_enter Tryd.func5, Tryd.ntmps5
      go_wp2_with (first | ((with_reducible refine gate_dst (N := 3) rfl ?_); refine box_event ?hg (N := 3) ?hd (cs := #[.int .u64 a0_0, .int .u64 a0_1]) (t := 24) ?hr ?_; (case hd => rfl); (case hg => rfl); (case hr => first | (go_simp; done) | (go_simp; rfl)); intro gb334 hg w14 hbox hb; have n0_ := Aside0.mk (below_step (by repeat (first | (with_reducible first | exact HB.out | apply below_alloc | apply pw_below_drewN | apply below_drew1) | exact HB.out)) hb); have n1_ := Aside0.mk (hbox); have n2_ := Aside0.mk ((by rw [hg]; exact (below_size (by repeat (first | (with_reducible first | exact HB.out | apply below_alloc | apply pw_below_drewN | apply below_drew1) | exact HB.out))) : w.heap.size ≤ gb334)); have n3_ := Aside0.mk ((by rw [hg]; exact (below_size (by repeat (first | (with_reducible first | exact HB.out | apply below_alloc | apply pw_below_drewN | apply below_drew1) | exact HB.out))) : w.heap.size ≤ gb334)); clear HB; have HB := n0_; have BK334 := n1_; have GW334 := n2_; have GE334 := n3_; clear n0_ n1_ n2_ n3_; clear hb hbox hg; have hcz15_0 : w14.cell? ⟨gb334, 0, none⟩ = some (.int .u64 a0_0) := (blk_cell BK334.out 0).trans rfl; have hcz15_1 : w14.cell? ⟨gb334, 1, none⟩ = some (.int .u64 a0_1) := (blk_cell BK334.out 1).trans rfl; have hfz15_0 := blk_frozen BK334.out 0; have hfz15_1 := blk_frozen BK334.out 1) | ((with_reducible refine gate_callee (f := 22) rfl ?_); refine goesL_ (some 12) rfl rfl Tryd.func22 (by kernel_rfl) rfl #[.int .u64 a0_0, .int .u64 a0_1] rfl (by (try simp only [List.map_toArray, List.map_cons, List.map_nil]); first | done | rfl | (simp only [List.length_drop, List.length_take]; rfl)) ?_; (with_reducible refine (riverbankref01_Truths.calls k a0_0 a0_1 t335 _ A4.out).mono ?_); rintro e w16 ⟨v336, rfl, ho0, hb⟩; refine ⟨_, rfl, ?_⟩; have n0_ := Aside0.mk (Kd.R_lower ho0 (below_size (by repeat (first | (with_reducible first | exact HB.out | apply below_alloc | apply pw_below_drewN | apply below_drew1 | refine below_set ?_ GE334.out) | exact HB.out)))); have n1_ := Aside0.mk (blk_below (g := gb334) (o := .cells #[.int .u64 a0_0, .int .u64 a0_1] 24 (0, 0)) (by (with_reducible repeat (first | refine blk_drewN ?_ _ | refine blk_drew ?_ | refine blk_alloc ?_ _)); exact BK334.out) hb); have n2_ := Aside0.mk (below_step (by repeat (first | (with_reducible first | exact HB.out | apply below_alloc | apply pw_below_drewN | apply below_drew1 | refine below_set ?_ GE334.out) | exact HB.out)) hb); clear BK334; clear HB; have HO337 := n0_; have BK334 := n1_; have HB := n2_; clear n0_ n1_ n2_; (try clear hb); (try clear hb2); (try clear hk); (try clear hi); (try clear ho0); have hcz17_0 : w16.cell? ⟨gb334, 0, none⟩ = some (.int .u64 a0_0) := (blk_cell BK334.out 0).trans rfl; have hcz17_1 : w16.cell? ⟨gb334, 1, none⟩ = some (.int .u64 a0_1) := (blk_cell BK334.out 1).trans rfl; have hfz17_0 := blk_frozen BK334.out 0; have hfz17_1 := blk_frozen BK334.out 1) | ((with_reducible refine gate_callee (f := 41) rfl ?_); refine goesL_ (some 15) rfl rfl Tryd.func41 (by kernel_rfl) rfl #[.agg #[.int .u64 a0_0, .int .u64 a0_1], .int .i64 a1] rfl (by (try simp only [List.map_toArray, List.map_cons, List.map_nil]); first | done | rfl | (simp only [List.length_drop, List.length_take]; rfl)) ?_; (with_reducible refine (bits_Set_Shift.calls k a0_0 a0_1 a1 t338 t339 _ A5.out).mono ?_); rintro e w18 ⟨rfl, hb⟩; refine ⟨_, rfl, ?_⟩; have n0_ := Aside0.mk (Kd.R_below (by (with_reducible repeat (first | apply Kd.R_alloc | apply Kd.R_drewN | apply Kd.R_drew)); exact HO337.out) hb); have n1_ := Aside0.mk (blk_below (g := gb334) (o := .cells #[.int .u64 a0_0, .int .u64 a0_1] 24 (0, 0)) (by (with_reducible repeat (first | refine blk_drewN ?_ _ | refine blk_drew ?_ | refine blk_alloc ?_ _)); exact BK334.out) hb); have n2_ := Aside0.mk (below_step (by repeat (first | (with_reducible first | exact HB.out | apply below_alloc | apply pw_below_drewN | apply below_drew1 | refine below_set ?_ GE334.out) | exact HB.out)) hb); clear HO337; clear BK334; clear HB; have HO337 := n0_; have BK334 := n1_; have HB := n2_; clear n0_ n1_ n2_; (try clear hb); (try clear hb2); (try clear hk); (try clear hi); obtain ⟨Ao19, co19, eo19⟩ := Kd.R_slice HO337.out; subst eo19) | ((with_reducible refine gate_callee (f := 42) rfl ?_); refine goesL_ (some 18) rfl rfl Tryd.func42 (by kernel_rfl) rfl #[.slice Ao19 t335.length co19, .int .i64 a1] rfl (by (try simp only [List.map_toArray, List.map_cons, List.map_nil]); first | done | rfl | (simp only [List.length_drop, List.length_take]; rfl)) ?_; (with_reducible refine (riverbankref01_Shift.calls k _ _ t335 a1 t340 _ ?side1 ?side2 A6.out).mono ?_); (case side1 => repeat (first | exact (Kd.R_reads' HO337.out).2.2 | (with_reducible refine Kd.C_alloc ?_ _) | (with_reducible refine Kd.C_drewN ?_ _) | (with_reducible refine Kd.C_drew ?_))); (case side2 => exact (Kd.R_reads' HO337.out).2.1); rintro e w20 ⟨v341, rfl, ho0, hb⟩; refine ⟨_, rfl, ?_⟩; have n0_ := Aside0.mk (Kd.R_elder' (by (with_reducible repeat (first | apply Kd.R_alloc | apply Kd.R_drewN | apply Kd.R_drew)); exact HO337.out) (Kd.R_base ho0) hb); have n1_ := Aside0.mk (Kd.R_lower (Kd.R_new' ho0 (Kd.R_lt (by (with_reducible repeat (first | apply Kd.R_alloc | apply Kd.R_drewN | apply Kd.R_drew)); exact HO337.out))) (below_size (by repeat (first | (with_reducible first | exact HB.out | apply below_alloc | apply pw_below_drewN | apply below_drew1 | refine below_set ?_ GE334.out) | exact HB.out)))); have n2_ := Aside0.mk (blk_below (g := gb334) (o := .cells #[.int .u64 a0_0, .int .u64 a0_1] 24 (0, 0)) (by (with_reducible repeat (first | refine blk_drewN ?_ _ | refine blk_drew ?_ | refine blk_alloc ?_ _)); exact BK334.out) hb); have n3_ := Aside0.mk (below_step (by repeat (first | (with_reducible first | exact HB.out | apply below_alloc | apply pw_below_drewN | apply below_drew1 | refine below_set ?_ GE334.out) | exact HB.out)) hb); clear HO337; clear BK334; clear HB; have HO337 := n0_; have HO342 := n1_; have BK334 := n2_; have HB := n3_; clear n0_ n1_ n2_ n3_; (try clear hb); (try clear hb2); (try clear hk); (try clear hi); (try clear ho0); obtain ⟨Ao21, co21, eo21⟩ := Kd.R_slice HO342.out; subst eo21) | ((with_reducible refine gate_callee (f := 23) rfl ?_); refine goesL_ (some 19) rfl rfl Tryd.func23 (by kernel_rfl) rfl #[.agg #[.int .u64 t338, .int .u64 t339], .slice Ao21 t340.length co21] rfl (by (try simp only [List.map_toArray, List.map_cons, List.map_nil]); first | done | rfl | (simp only [List.length_drop, List.length_take]; rfl)) ?_; (with_reducible refine (riverbanklaw01_is.calls k t338 t339 _ _ t340 true _ ?side1 ?side2 A7.out).mono ?_); (case side1 => repeat (first | exact (Kd.R_reads' HO342.out).2.2 | (with_reducible refine Kd.C_alloc ?_ _) | (with_reducible refine Kd.C_drewN ?_ _) | (with_reducible refine Kd.C_drew ?_))); (case side2 => exact (Kd.R_reads' HO342.out).2.1); rintro e w22 ⟨rfl, hb⟩; refine ⟨_, rfl, ?_⟩; have n0_ := Aside0.mk (Kd.R_below (by (with_reducible repeat (first | apply Kd.R_alloc | apply Kd.R_drewN | apply Kd.R_drew)); exact HO337.out) hb); have n1_ := Aside0.mk (Kd.R_below (by (with_reducible repeat (first | apply Kd.R_alloc | apply Kd.R_drewN | apply Kd.R_drew)); exact HO342.out) hb); have n2_ := Aside0.mk (blk_below (g := gb334) (o := .cells #[.int .u64 a0_0, .int .u64 a0_1] 24 (0, 0)) (by (with_reducible repeat (first | refine blk_drewN ?_ _ | refine blk_drew ?_ | refine blk_alloc ?_ _)); exact BK334.out) hb); have n3_ := Aside0.mk (below_step (by repeat (first | (with_reducible first | exact HB.out | apply below_alloc | apply pw_below_drewN | apply below_drew1 | refine below_set ?_ GE334.out) | exact HB.out)) hb); clear HO337; clear HO342; clear BK334; clear HB; have HO337 := n0_; have HO342 := n1_; have BK334 := n2_; have HB := n3_; clear n0_ n1_ n2_ n3_; (try clear hb); (try clear hb2); (try clear hk); (try clear hi); have hcz23_0 : w22.cell? ⟨gb334, 0, none⟩ = some (.int .u64 a0_0) := (blk_cell BK334.out 0).trans rfl; have hcz23_1 : w22.cell? ⟨gb334, 1, none⟩ = some (.int .u64 a0_1) := (blk_cell BK334.out 1).trans rfl; have hfz23_0 := blk_frozen BK334.out 0; have hfz23_1 := blk_frozen BK334.out 1) | (go_at_call 43; (with_reducible refine (bits_Set_Between.calls k a0_0 a0_1 a1 a2 t344 t345 _ A9.out).mono ?_); rintro e w24 ⟨rfl, hb⟩; have n0_ := Aside0.mk (Kd.R_below (by (with_reducible repeat (first | apply Kd.R_alloc | apply Kd.R_drewN | apply Kd.R_drew)); exact HO337.out) hb); have n1_ := Aside0.mk (Kd.R_below (by (with_reducible repeat (first | apply Kd.R_alloc | apply Kd.R_drewN | apply Kd.R_drew)); exact HO342.out) hb); have n2_ := Aside0.mk (blk_below (g := gb334) (o := .cells #[.int .u64 a0_0, .int .u64 a0_1] 24 (0, 0)) (by (with_reducible repeat (first | refine blk_drewN ?_ _ | refine blk_drew ?_ | refine blk_alloc ?_ _)); exact BK334.out) hb); have n3_ := Aside0.mk (below_step (by repeat (first | (with_reducible first | exact HB.out | apply below_alloc | apply pw_below_drewN | apply below_drew1 | refine below_set ?_ GE334.out) | exact HB.out)) hb); clear HO337; clear HO342; clear BK334; clear HB; have HO337 := n0_; have HO342 := n1_; have BK334 := n2_; have HB := n3_; clear n0_ n1_ n2_ n3_; (try clear hb); (try clear hb2); (try clear hk); (try clear hi)) | (go_at_call 44; (with_reducible refine (riverbankref01_Between.calls k _ _ t335 a1 a2 t346 _ ?side1 ?side2 A10.out).mono ?_); (case side1 => repeat (first | exact (Kd.R_reads' HO337.out).2.2 | (with_reducible refine Kd.C_alloc ?_ _) | (with_reducible refine Kd.C_drewN ?_ _) | (with_reducible refine Kd.C_drew ?_))); (case side2 => exact (Kd.R_reads' HO337.out).2.1); rintro e w25 ⟨v347, rfl, ho0, hb⟩; have n0_ := Aside0.mk (Kd.R_elder' (by (with_reducible repeat (first | apply Kd.R_alloc | apply Kd.R_drewN | apply Kd.R_drew)); exact HO337.out) (Kd.R_base ho0) hb); have n1_ := Aside0.mk (Kd.R_elder' (by (with_reducible repeat (first | apply Kd.R_alloc | apply Kd.R_drewN | apply Kd.R_drew)); exact HO342.out) (Kd.R_base ho0) hb); have n2_ := Aside0.mk (Kd.R_lower (Kd.R_new' (Kd.R_new' ho0 (Kd.R_lt (by (with_reducible repeat (first | apply Kd.R_alloc | apply Kd.R_drewN | apply Kd.R_drew)); exact HO337.out))) (Kd.R_lt (by (with_reducible repeat (first | apply Kd.R_alloc | apply Kd.R_drewN | apply Kd.R_drew)); exact HO342.out))) (below_size (by repeat (first | (with_reducible first | exact HB.out | apply below_alloc | apply pw_below_drewN | apply below_drew1 | refine below_set ?_ GE334.out) | exact HB.out)))); have n3_ := Aside0.mk (blk_below (g := gb334) (o := .cells #[.int .u64 a0_0, .int .u64 a0_1] 24 (0, 0)) (by (with_reducible repeat (first | refine blk_drewN ?_ _ | refine blk_drew ?_ | refine blk_alloc ?_ _)); exact BK334.out) hb); have n4_ := Aside0.mk (below_step (by repeat (first | (with_reducible first | exact HB.out | apply below_alloc | apply pw_below_drewN | apply below_drew1 | refine below_set ?_ GE334.out) | exact HB.out)) hb); clear HO337; clear HO342; clear BK334; clear HB; have HO337 := n0_; have HO342 := n1_; have HO348 := n2_; have BK334 := n3_; have HB := n4_; clear n0_ n1_ n2_ n3_ n4_; (try clear hb); (try clear hb2); (try clear hk); (try clear hi); (try clear ho0); obtain ⟨Ao26, co26, eo26⟩ := Kd.R_slice HO348.out; subst eo26) | (go_at_call 23; (with_reducible refine (riverbanklaw01_is.calls k t344 t345 _ _ t346 true _ ?side1 ?side2 A11.out).mono ?_); (case side1 => repeat (first | exact (Kd.R_reads' HO348.out).2.2 | (with_reducible refine Kd.C_alloc ?_ _) | (with_reducible refine Kd.C_drewN ?_ _) | (with_reducible refine Kd.C_drew ?_))); (case side2 => exact (Kd.R_reads' HO348.out).2.1); rintro e w27 ⟨rfl, hb⟩; have n0_ := Aside0.mk (Kd.R_below (by (with_reducible repeat (first | apply Kd.R_alloc | apply Kd.R_drewN | apply Kd.R_drew)); exact HO337.out) hb); have n1_ := Aside0.mk (Kd.R_below (by (with_reducible repeat (first | apply Kd.R_alloc | apply Kd.R_drewN | apply Kd.R_drew)); exact HO342.out) hb); have n2_ := Aside0.mk (Kd.R_below (by (with_reducible repeat (first | apply Kd.R_alloc | apply Kd.R_drewN | apply Kd.R_drew)); exact HO348.out) hb); have n3_ := Aside0.mk (blk_below (g := gb334) (o := .cells #[.int .u64 a0_0, .int .u64 a0_1] 24 (0, 0)) (by (with_reducible repeat (first | refine blk_drewN ?_ _ | refine blk_drew ?_ | refine blk_alloc ?_ _)); exact BK334.out) hb); have n4_ := Aside0.mk (below_step (by repeat (first | (with_reducible first | exact HB.out | apply below_alloc | apply pw_below_drewN | apply below_drew1 | refine below_set ?_ GE334.out) | exact HB.out)) hb); clear HO337; clear HO342; clear HO348; clear BK334; clear HB; have HO337 := n0_; have HO342 := n1_; have HO348 := n2_; have BK334 := n3_; have HB := n4_; clear n0_ n1_ n2_ n3_ n4_; (try clear hb); (try clear hb2); (try clear hk); (try clear hi)) | (go_at_call 29; (with_reducible refine (riverbanklaw01_live.calls k  t350 _ (tab_of HT.out (by repeat (first | (with_reducible first | exact HB.out | apply below_alloc | apply pw_below_drewN | apply below_drew1 | refine below_set ?_ GE334.out) | exact HB.out))) A13.out).mono ?_); rintro e w28 ⟨rfl, hb⟩; have n0_ := Aside0.mk (Kd.R_below (by (with_reducible repeat (first | apply Kd.R_alloc | apply Kd.R_drewN | apply Kd.R_drew)); exact HO337.out) hb); have n1_ := Aside0.mk (Kd.R_below (by (with_reducible repeat (first | apply Kd.R_alloc | apply Kd.R_drewN | apply Kd.R_drew)); exact HO342.out) hb); have n2_ := Aside0.mk (Kd.R_below (by (with_reducible repeat (first | apply Kd.R_alloc | apply Kd.R_drewN | apply Kd.R_drew)); exact HO348.out) hb); have n3_ := Aside0.mk (blk_below (g := gb334) (o := .cells #[.int .u64 a0_0, .int .u64 a0_1] 24 (0, 0)) (by (with_reducible repeat (first | refine blk_drewN ?_ _ | refine blk_drew ?_ | refine blk_alloc ?_ _)); exact BK334.out) hb); have n4_ := Aside0.mk (below_step (by repeat (first | (with_reducible first | exact HB.out | apply below_alloc | apply pw_below_drewN | apply below_drew1 | refine below_set ?_ GE334.out) | exact HB.out)) hb); clear HO337; clear HO342; clear HO348; clear BK334; clear HB; have HO337 := n0_; have HO342 := n1_; have HO348 := n2_; have BK334 := n3_; have HB := n4_; clear n0_ n1_ n2_ n3_ n4_; (try clear hb); (try clear hb2); (try clear hk); (try clear hi)))
      go_ret
      exact ⟨by first | rfl | (simp [errW_none, errW_some] <;> rfl) | (simp [*, errW_none, errW_some] <;> rfl), by repeat (first | (with_reducible first | exact HB.out | apply below_alloc | apply pw_below_drewN | apply below_drew1 | refine below_set ?_ GE334.out) | exact HB.out)⟩
    · replace c12 := Bool.eq_false_iff.mpr c12
      subst c12
      have H1 : (some false) = some r := by rw [if_neg (show ¬ (false = true) by decide)] at H; exact H
      clear H
      have H := H1
      clear H1
      obtain rfl := Option.some.inj H
      go_enter Tryd.func5, Tryd.ntmps5
      go_wp2_with (first | ((with_reducible refine gate_dst (N := 3) rfl ?_); refine box_event ?hg (N := 3) ?hd (cs := #[.int .u64 a0_0, .int .u64 a0_1]) (t := 24) ?hr ?_; (case hd => rfl); (case hg => rfl); (case hr => first | (go_simp; done) | (go_simp; rfl)); intro gb334 hg w29 hbox hb; have n0_ := Aside0.mk (below_step (by repeat (first | (with_reducible first | exact HB.out | apply below_alloc | apply pw_below_drewN | apply below_drew1) | exact HB.out)) hb); have n1_ := Aside0.mk (hbox); have n2_ := Aside0.mk ((by rw [hg]; exact (below_size (by repeat (first | (with_reducible first | exact HB.out | apply below_alloc | apply pw_below_drewN | apply below_drew1) | exact HB.out))) : w.heap.size ≤ gb334)); have n3_ := Aside0.mk ((by rw [hg]; exact (below_size (by repeat (first | (with_reducible first | exact HB.out | apply below_alloc | apply pw_below_drewN | apply below_drew1) | exact HB.out))) : w.heap.size ≤ gb334)); clear HB; have HB := n0_; have BK334 := n1_; have GW334 := n2_; have GE334 := n3_; clear n0_ n1_ n2_ n3_; clear hb hbox hg; have hcz30_0 : w29.cell? ⟨gb334, 0, none⟩ = some (.int .u64 a0_0) := (blk_cell BK334.out 0).trans rfl; have hcz30_1 : w29.cell? ⟨gb334, 1, none⟩ = some (.int .u64 a0_1) := (blk_cell BK334.out 1).trans rfl; have hfz30_0 := blk_frozen BK334.out 0; have hfz30_1 := blk_frozen BK334.out 1) | ((with_reducible refine gate_callee (f := 22) rfl ?_); refine goesL_ (some 12) rfl rfl Tryd.func22 (by kernel_rfl) rfl #[.int .u64 a0_0, .int .u64 a0_1] rfl (by (try simp only [List.map_toArray, List.map_cons, List.map_nil]); first | done | rfl | (simp only [List.length_drop, List.length_take]; rfl)) ?_; (with_reducible refine (riverbankref01_Truths.calls k a0_0 a0_1 t335 _ A4.out).mono ?_); rintro e w31 ⟨v336, rfl, ho0, hb⟩; refine ⟨_, rfl, ?_⟩; have n0_ := Aside0.mk (Kd.R_lower ho0 (below_size (by repeat (first | (with_reducible first | exact HB.out | apply below_alloc | apply pw_below_drewN | apply below_drew1 | refine below_set ?_ GE334.out) | exact HB.out)))); have n1_ := Aside0.mk (blk_below (g := gb334) (o := .cells #[.int .u64 a0_0, .int .u64 a0_1] 24 (0, 0)) (by (with_reducible repeat (first | refine blk_drewN ?_ _ | refine blk_drew ?_ | refine blk_alloc ?_ _)); exact BK334.out) hb); have n2_ := Aside0.mk (below_step (by repeat (first | (with_reducible first | exact HB.out | apply below_alloc | apply pw_below_drewN | apply below_drew1 | refine below_set ?_ GE334.out) | exact HB.out)) hb); clear BK334; clear HB; have HO337 := n0_; have BK334 := n1_; have HB := n2_; clear n0_ n1_ n2_; (try clear hb); (try clear hb2); (try clear hk); (try clear hi); (try clear ho0); have hcz32_0 : w31.cell? ⟨gb334, 0, none⟩ = some (.int .u64 a0_0) := (blk_cell BK334.out 0).trans rfl; have hcz32_1 : w31.cell? ⟨gb334, 1, none⟩ = some (.int .u64 a0_1) := (blk_cell BK334.out 1).trans rfl; have hfz32_0 := blk_frozen BK334.out 0; have hfz32_1 := blk_frozen BK334.out 1) | ((with_reducible refine gate_callee (f := 41) rfl ?_); refine goesL_ (some 15) rfl rfl Tryd.func41 (by kernel_rfl) rfl #[.agg #[.int .u64 a0_0, .int .u64 a0_1], .int .i64 a1] rfl (by (try simp only [List.map_toArray, List.map_cons, List.map_nil]); first | done | rfl | (simp only [List.length_drop, List.length_take]; rfl)) ?_; (with_reducible refine (bits_Set_Shift.calls k a0_0 a0_1 a1 t338 t339 _ A5.out).mono ?_); rintro e w33 ⟨rfl, hb⟩; refine ⟨_, rfl, ?_⟩; have n0_ := Aside0.mk (Kd.R_below (by (with_reducible repeat (first | apply Kd.R_alloc | apply Kd.R_drewN | apply Kd.R_drew)); exact HO337.out) hb); have n1_ := Aside0.mk (blk_below (g := gb334) (o := .cells #[.int .u64 a0_0, .int .u64 a0_1] 24 (0, 0)) (by (with_reducible repeat (first | refine blk_drewN ?_ _ | refine blk_drew ?_ | refine blk_alloc ?_ _)); exact BK334.out) hb); have n2_ := Aside0.mk (below_step (by repeat (first | (with_reducible first | exact HB.out | apply below_alloc | apply pw_below_drewN | apply below_drew1 | refine below_set ?_ GE334.out) | exact HB.out)) hb); clear HO337; clear BK334; clear HB; have HO337 := n0_; have BK334 := n1_; have HB := n2_; clear n0_ n1_ n2_; (try clear hb); (try clear hb2); (try clear hk); (try clear hi); obtain ⟨Ao34, co34, eo34⟩ := Kd.R_slice HO337.out; subst eo34) | ((with_reducible refine gate_callee (f := 42) rfl ?_); refine goesL_ (some 18) rfl rfl Tryd.func42 (by kernel_rfl) rfl #[.slice Ao34 t335.length co34, .int .i64 a1] rfl (by (try simp only [List.map_toArray, List.map_cons, List.map_nil]); first | done | rfl | (simp only [List.length_drop, List.length_take]; rfl)) ?_; (with_reducible refine (riverbankref01_Shift.calls k _ _ t335 a1 t340 _ ?side1 ?side2 A6.out).mono ?_); (case side1 => repeat (first | exact (Kd.R_reads' HO337.out).2.2 | (with_reducible refine Kd.C_alloc ?_ _) | (with_reducible refine Kd.C_drewN ?_ _) | (with_reducible refine Kd.C_drew ?_))); (case side2 => exact (Kd.R_reads' HO337.out).2.1); rintro e w35 ⟨v341, rfl, ho0, hb⟩; refine ⟨_, rfl, ?_⟩; have n0_ := Aside0.mk (Kd.R_elder' (by (with_reducible repeat (first | apply Kd.R_alloc | apply Kd.R_drewN | apply Kd.R_drew)); exact HO337.out) (Kd.R_base ho0) hb); have n1_ := Aside0.mk (Kd.R_lower (Kd.R_new' ho0 (Kd.R_lt (by (with_reducible repeat (first | apply Kd.R_alloc | apply Kd.R_drewN | apply Kd.R_drew)); exact HO337.out))) (below_size (by repeat (first | (with_reducible first | exact HB.out | apply below_alloc | apply pw_below_drewN | apply below_drew1 | refine below_set ?_ GE334.out) | exact HB.out)))); have n2_ := Aside0.mk (blk_below (g := gb334) (o := .cells #[.int .u64 a0_0, .int .u64 a0_1] 24 (0, 0)) (by (with_reducible repeat (first | refine blk_drewN ?_ _ | refine blk_drew ?_ | refine blk_alloc ?_ _)); exact BK334.out) hb); have n3_ := Aside0.mk (below_step (by repeat (first | (with_reducible first | exact HB.out | apply below_alloc | apply pw_below_drewN | apply below_drew1 | refine below_set ?_ GE334.out) | exact HB.out)) hb); clear HO337; clear BK334; clear HB; have HO337 := n0_; have HO342 := n1_; have BK334 := n2_; have HB := n3_; clear n0_ n1_ n2_ n3_; (try clear hb); (try clear hb2); (try clear hk); (try clear hi); (try clear ho0); obtain ⟨Ao36, co36, eo36⟩ := Kd.R_slice HO342.out; subst eo36) | ((with_reducible refine gate_callee (f := 23) rfl ?_); refine goesL_ (some 19) rfl rfl Tryd.func23 (by kernel_rfl) rfl #[.agg #[.int .u64 t338, .int .u64 t339], .slice Ao36 t340.length co36] rfl (by (try simp only [List.map_toArray, List.map_cons, List.map_nil]); first | done | rfl | (simp only [List.length_drop, List.length_take]; rfl)) ?_; (with_reducible refine (riverbanklaw01_is.calls k t338 t339 _ _ t340 true _ ?side1 ?side2 A7.out).mono ?_); (case side1 => repeat (first | exact (Kd.R_reads' HO342.out).2.2 | (with_reducible refine Kd.C_alloc ?_ _) | (with_reducible refine Kd.C_drewN ?_ _) | (with_reducible refine Kd.C_drew ?_))); (case side2 => exact (Kd.R_reads' HO342.out).2.1); rintro e w37 ⟨rfl, hb⟩; refine ⟨_, rfl, ?_⟩; have n0_ := Aside0.mk (Kd.R_below (by (with_reducible repeat (first | apply Kd.R_alloc | apply Kd.R_drewN | apply Kd.R_drew)); exact HO337.out) hb); have n1_ := Aside0.mk (Kd.R_below (by (with_reducible repeat (first | apply Kd.R_alloc | apply Kd.R_drewN | apply Kd.R_drew)); exact HO342.out) hb); have n2_ := Aside0.mk (blk_below (g := gb334) (o := .cells #[.int .u64 a0_0, .int .u64 a0_1] 24 (0, 0)) (by (with_reducible repeat (first | refine blk_drewN ?_ _ | refine blk_drew ?_ | refine blk_alloc ?_ _)); exact BK334.out) hb); have n3_ := Aside0.mk (below_step (by repeat (first | (with_reducible first | exact HB.out | apply below_alloc | apply pw_below_drewN | apply below_drew1 | refine below_set ?_ GE334.out) | exact HB.out)) hb); clear HO337; clear HO342; clear BK334; clear HB; have HO337 := n0_; have HO342 := n1_; have BK334 := n2_; have HB := n3_; clear n0_ n1_ n2_ n3_; (try clear hb); (try clear hb2); (try clear hk); (try clear hi); have hcz38_0 : w37.cell? ⟨gb334, 0, none⟩ = some (.int .u64 a0_0) := (blk_cell BK334.out 0).trans rfl; have hcz38_1 : w37.cell? ⟨gb334, 1, none⟩ = some (.int .u64 a0_1) := (blk_cell BK334.out 1).trans rfl; have hfz38_0 := blk_frozen BK334.out 0; have hfz38_1 := blk_frozen BK334.out 1) | (go_at_call 43; (with_reducible refine (bits_Set_Between.calls k a0_0 a0_1 a1 a2 t344 t345 _ A9.out).mono ?_); rintro e w39 ⟨rfl, hb⟩; have n0_ := Aside0.mk (Kd.R_below (by (with_reducible repeat (first | apply Kd.R_alloc | apply Kd.R_drewN | apply Kd.R_drew)); exact HO337.out) hb); have n1_ := Aside0.mk (Kd.R_below (by (with_reducible repeat (first | apply Kd.R_alloc | apply Kd.R_drewN | apply Kd.R_drew)); exact HO342.out) hb); have n2_ := Aside0.mk (blk_below (g := gb334) (o := .cells #[.int .u64 a0_0, .int .u64 a0_1] 24 (0, 0)) (by (with_reducible repeat (first | refine blk_drewN ?_ _ | refine blk_drew ?_ | refine blk_alloc ?_ _)); exact BK334.out) hb); have n3_ := Aside0.mk (below_step (by repeat (first | (with_reducible first | exact HB.out | apply below_alloc | apply pw_below_drewN | apply below_drew1 | refine below_set ?_ GE334.out) | exact HB.out)) hb); clear HO337; clear HO342; clear BK334; clear HB; have HO337 := n0_; have HO342 := n1_; have BK334 := n2_; have HB := n3_; clear n0_ n1_ n2_ n3_; (try clear hb); (try clear hb2); (try clear hk); (try clear hi)) | (go_at_call 44; (with_reducible refine (riverbankref01_Between.calls k _ _ t335 a1 a2 t346 _ ?side1 ?side2 A10.out).mono ?_); (case side1 => repeat (first | exact (Kd.R_reads' HO337.out).2.2 | (with_reducible refine Kd.C_alloc ?_ _) | (with_reducible refine Kd.C_drewN ?_ _) | (with_reducible refine Kd.C_drew ?_))); (case side2 => exact (Kd.R_reads' HO337.out).2.1); rintro e w40 ⟨v347, rfl, ho0, hb⟩; have n0_ := Aside0.mk (Kd.R_elder' (by (with_reducible repeat (first | apply Kd.R_alloc | apply Kd.R_drewN | apply Kd.R_drew)); exact HO337.out) (Kd.R_base ho0) hb); have n1_ := Aside0.mk (Kd.R_elder' (by (with_reducible repeat (first | apply Kd.R_alloc | apply Kd.R_drewN | apply Kd.R_drew)); exact HO342.out) (Kd.R_base ho0) hb); have n2_ := Aside0.mk (Kd.R_lower (Kd.R_new' (Kd.R_new' ho0 (Kd.R_lt (by (with_reducible repeat (first | apply Kd.R_alloc | apply Kd.R_drewN | apply Kd.R_drew)); exact HO337.out))) (Kd.R_lt (by (with_reducible repeat (first | apply Kd.R_alloc | apply Kd.R_drewN | apply Kd.R_drew)); exact HO342.out))) (below_size (by repeat (first | (with_reducible first | exact HB.out | apply below_alloc | apply pw_below_drewN | apply below_drew1 | refine below_set ?_ GE334.out) | exact HB.out)))); have n3_ := Aside0.mk (blk_below (g := gb334) (o := .cells #[.int .u64 a0_0, .int .u64 a0_1] 24 (0, 0)) (by (with_reducible repeat (first | refine blk_drewN ?_ _ | refine blk_drew ?_ | refine blk_alloc ?_ _)); exact BK334.out) hb); have n4_ := Aside0.mk (below_step (by repeat (first | (with_reducible first | exact HB.out | apply below_alloc | apply pw_below_drewN | apply below_drew1 | refine below_set ?_ GE334.out) | exact HB.out)) hb); clear HO337; clear HO342; clear BK334; clear HB; have HO337 := n0_; have HO342 := n1_; have HO348 := n2_; have BK334 := n3_; have HB := n4_; clear n0_ n1_ n2_ n3_ n4_; (try clear hb); (try clear hb2); (try clear hk); (try clear hi); (try clear ho0); obtain ⟨Ao41, co41, eo41⟩ := Kd.R_slice HO348.out; subst eo41) | (go_at_call 23; (with_reducible refine (riverbanklaw01_is.calls k t344 t345 _ _ t346 false _ ?side1 ?side2 A11.out).mono ?_); (case side1 => repeat (first | exact (Kd.R_reads' HO348.out).2.2 | (with_reducible refine Kd.C_alloc ?_ _) | (with_reducible refine Kd.C_drewN ?_ _) | (with_reducible refine Kd.C_drew ?_))); (case side2 => exact (Kd.R_reads' HO348.out).2.1); rintro e w42 ⟨rfl, hb⟩; have n0_ := Aside0.mk (Kd.R_below (by (with_reducible repeat (first | apply Kd.R_alloc | apply Kd.R_drewN | apply Kd.R_drew)); exact HO337.out) hb); have n1_ := Aside0.mk (Kd.R_below (by (with_reducible repeat (first | apply Kd.R_alloc | apply Kd.R_drewN | apply Kd.R_drew)); exact HO342.out) hb); have n2_ := Aside0.mk (Kd.R_below (by (with_reducible repeat (first | apply Kd.R_alloc | apply Kd.R_drewN | apply Kd.R_drew)); exact HO348.out) hb); have n3_ := Aside0.mk (blk_below (g := gb334) (o := .cells #[.int .u64 a0_0, .int .u64 a0_1] 24 (0, 0)) (by (with_reducible repeat (first | refine blk_drewN ?_ _ | refine blk_drew ?_ | refine blk_alloc ?_ _)); exact BK334.out) hb); have n4_ := Aside0.mk (below_step (by repeat (first | (with_reducible first | exact HB.out | apply below_alloc | apply pw_below_drewN | apply below_drew1 | refine below_set ?_ GE334.out) | exact HB.out)) hb); clear HO337; clear HO342; clear HO348; clear BK334; clear HB; have HO337 := n0_; have HO342 := n1_; have HO348 := n2_; have BK334 := n3_; have HB := n4_; clear n0_ n1_ n2_ n3_ n4_; (try clear hb); (try clear hb2); (try clear hk); (try clear hi)))
      go_ret
      exact ⟨by first | rfl | (simp [errW_none, errW_some] <;> rfl) | (simp [*, errW_none, errW_some] <;> rfl), by repeat (first | (with_reducible first | exact HB.out | apply below_alloc | apply pw_below_drewN | apply below_drew1 | refine below_set ?_ GE334.out) | exact HB.out)⟩
  · replace c8 := Bool.eq_false_iff.mpr c8
    subst c8
    have H1 : (some false) = some r := by rw [if_neg (show ¬ (false = true) by decide)] at H; exact H
    clear H
    have H := H1
    clear H1
    obtain rfl := Option.some.inj H
    go_enter Tryd.func5, Tryd.ntmps5
    go_wp2_with (first | ((with_reducible refine gate_dst (N := 3) rfl ?_); refine box_event ?hg (N := 3) ?hd (cs := #[.int .u64 a0_0, .int .u64 a0_1]) (t := 24) ?hr ?_; (case hd => rfl); (case hg => rfl); (case hr => first | (go_simp; done) | (go_simp; rfl)); intro gb334 hg w43 hbox hb; have n0_ := Aside0.mk (below_step (by repeat (first | (with_reducible first | exact HB.out | apply below_alloc | apply pw_below_drewN | apply below_drew1) | exact HB.out)) hb); have n1_ := Aside0.mk (hbox); have n2_ := Aside0.mk ((by rw [hg]; exact (below_size (by repeat (first | (with_reducible first | exact HB.out | apply below_alloc | apply pw_below_drewN | apply below_drew1) | exact HB.out))) : w.heap.size ≤ gb334)); have n3_ := Aside0.mk ((by rw [hg]; exact (below_size (by repeat (first | (with_reducible first | exact HB.out | apply below_alloc | apply pw_below_drewN | apply below_drew1) | exact HB.out))) : w.heap.size ≤ gb334)); clear HB; have HB := n0_; have BK334 := n1_; have GW334 := n2_; have GE334 := n3_; clear n0_ n1_ n2_ n3_; clear hb hbox hg; have hcz44_0 : w43.cell? ⟨gb334, 0, none⟩ = some (.int .u64 a0_0) := (blk_cell BK334.out 0).trans rfl; have hcz44_1 : w43.cell? ⟨gb334, 1, none⟩ = some (.int .u64 a0_1) := (blk_cell BK334.out 1).trans rfl; have hfz44_0 := blk_frozen BK334.out 0; have hfz44_1 := blk_frozen BK334.out 1) | ((with_reducible refine gate_callee (f := 22) rfl ?_); refine goesL_ (some 12) rfl rfl Tryd.func22 (by kernel_rfl) rfl #[.int .u64 a0_0, .int .u64 a0_1] rfl (by (try simp only [List.map_toArray, List.map_cons, List.map_nil]); first | done | rfl | (simp only [List.length_drop, List.length_take]; rfl)) ?_; (with_reducible refine (riverbankref01_Truths.calls k a0_0 a0_1 t335 _ A4.out).mono ?_); rintro e w45 ⟨v336, rfl, ho0, hb⟩; refine ⟨_, rfl, ?_⟩; have n0_ := Aside0.mk (Kd.R_lower ho0 (below_size (by repeat (first | (with_reducible first | exact HB.out | apply below_alloc | apply pw_below_drewN | apply below_drew1 | refine below_set ?_ GE334.out) | exact HB.out)))); have n1_ := Aside0.mk (blk_below (g := gb334) (o := .cells #[.int .u64 a0_0, .int .u64 a0_1] 24 (0, 0)) (by (with_reducible repeat (first | refine blk_drewN ?_ _ | refine blk_drew ?_ | refine blk_alloc ?_ _)); exact BK334.out) hb); have n2_ := Aside0.mk (below_step (by repeat (first | (with_reducible first | exact HB.out | apply below_alloc | apply pw_below_drewN | apply below_drew1 | refine below_set ?_ GE334.out) | exact HB.out)) hb); clear BK334; clear HB; have HO337 := n0_; have BK334 := n1_; have HB := n2_; clear n0_ n1_ n2_; (try clear hb); (try clear hb2); (try clear hk); (try clear hi); (try clear ho0); have hcz46_0 : w45.cell? ⟨gb334, 0, none⟩ = some (.int .u64 a0_0) := (blk_cell BK334.out 0).trans rfl; have hcz46_1 : w45.cell? ⟨gb334, 1, none⟩ = some (.int .u64 a0_1) := (blk_cell BK334.out 1).trans rfl; have hfz46_0 := blk_frozen BK334.out 0; have hfz46_1 := blk_frozen BK334.out 1) | ((with_reducible refine gate_callee (f := 41) rfl ?_); refine goesL_ (some 15) rfl rfl Tryd.func41 (by kernel_rfl) rfl #[.agg #[.int .u64 a0_0, .int .u64 a0_1], .int .i64 a1] rfl (by (try simp only [List.map_toArray, List.map_cons, List.map_nil]); first | done | rfl | (simp only [List.length_drop, List.length_take]; rfl)) ?_; (with_reducible refine (bits_Set_Shift.calls k a0_0 a0_1 a1 t338 t339 _ A5.out).mono ?_); rintro e w47 ⟨rfl, hb⟩; refine ⟨_, rfl, ?_⟩; have n0_ := Aside0.mk (Kd.R_below (by (with_reducible repeat (first | apply Kd.R_alloc | apply Kd.R_drewN | apply Kd.R_drew)); exact HO337.out) hb); have n1_ := Aside0.mk (blk_below (g := gb334) (o := .cells #[.int .u64 a0_0, .int .u64 a0_1] 24 (0, 0)) (by (with_reducible repeat (first | refine blk_drewN ?_ _ | refine blk_drew ?_ | refine blk_alloc ?_ _)); exact BK334.out) hb); have n2_ := Aside0.mk (below_step (by repeat (first | (with_reducible first | exact HB.out | apply below_alloc | apply pw_below_drewN | apply below_drew1 | refine below_set ?_ GE334.out) | exact HB.out)) hb); clear HO337; clear BK334; clear HB; have HO337 := n0_; have BK334 := n1_; have HB := n2_; clear n0_ n1_ n2_; (try clear hb); (try clear hb2); (try clear hk); (try clear hi); obtain ⟨Ao48, co48, eo48⟩ := Kd.R_slice HO337.out; subst eo48) | ((with_reducible refine gate_callee (f := 42) rfl ?_); refine goesL_ (some 18) rfl rfl Tryd.func42 (by kernel_rfl) rfl #[.slice Ao48 t335.length co48, .int .i64 a1] rfl (by (try simp only [List.map_toArray, List.map_cons, List.map_nil]); first | done | rfl | (simp only [List.length_drop, List.length_take]; rfl)) ?_; (with_reducible refine (riverbankref01_Shift.calls k _ _ t335 a1 t340 _ ?side1 ?side2 A6.out).mono ?_); (case side1 => repeat (first | exact (Kd.R_reads' HO337.out).2.2 | (with_reducible refine Kd.C_alloc ?_ _) | (with_reducible refine Kd.C_drewN ?_ _) | (with_reducible refine Kd.C_drew ?_))); (case side2 => exact (Kd.R_reads' HO337.out).2.1); rintro e w49 ⟨v341, rfl, ho0, hb⟩; refine ⟨_, rfl, ?_⟩; have n0_ := Aside0.mk (Kd.R_elder' (by (with_reducible repeat (first | apply Kd.R_alloc | apply Kd.R_drewN | apply Kd.R_drew)); exact HO337.out) (Kd.R_base ho0) hb); have n1_ := Aside0.mk (Kd.R_lower (Kd.R_new' ho0 (Kd.R_lt (by (with_reducible repeat (first | apply Kd.R_alloc | apply Kd.R_drewN | apply Kd.R_drew)); exact HO337.out))) (below_size (by repeat (first | (with_reducible first | exact HB.out | apply below_alloc | apply pw_below_drewN | apply below_drew1 | refine below_set ?_ GE334.out) | exact HB.out)))); have n2_ := Aside0.mk (blk_below (g := gb334) (o := .cells #[.int .u64 a0_0, .int .u64 a0_1] 24 (0, 0)) (by (with_reducible repeat (first | refine blk_drewN ?_ _ | refine blk_drew ?_ | refine blk_alloc ?_ _)); exact BK334.out) hb); have n3_ := Aside0.mk (below_step (by repeat (first | (with_reducible first | exact HB.out | apply below_alloc | apply pw_below_drewN | apply below_drew1 | refine below_set ?_ GE334.out) | exact HB.out)) hb); clear HO337; clear BK334; clear HB; have HO337 := n0_; have HO342 := n1_; have BK334 := n2_; have HB := n3_; clear n0_ n1_ n2_ n3_; (try clear hb); (try clear hb2); (try clear hk); (try clear hi); (try clear ho0); obtain ⟨Ao50, co50, eo50⟩ := Kd.R_slice HO342.out; subst eo50) | ((with_reducible refine gate_callee (f := 23) rfl ?_); refine goesL_ (some 19) rfl rfl Tryd.func23 (by kernel_rfl) rfl #[.agg #[.int .u64 t338, .int .u64 t339], .slice Ao50 t340.length co50] rfl (by (try simp only [List.map_toArray, List.map_cons, List.map_nil]); first | done | rfl | (simp only [List.length_drop, List.length_take]; rfl)) ?_; (with_reducible refine (riverbanklaw01_is.calls k t338 t339 _ _ t340 false _ ?side1 ?side2 A7.out).mono ?_); (case side1 => repeat (first | exact (Kd.R_reads' HO342.out).2.2 | (with_reducible refine Kd.C_alloc ?_ _) | (with_reducible refine Kd.C_drewN ?_ _) | (with_reducible refine Kd.C_drew ?_))); (case side2 => exact (Kd.R_reads' HO342.out).2.1); rintro e w51 ⟨rfl, hb⟩; refine ⟨_, rfl, ?_⟩; have n0_ := Aside0.mk (Kd.R_below (by (with_reducible repeat (first | apply Kd.R_alloc | apply Kd.R_drewN | apply Kd.R_drew)); exact HO337.out) hb); have n1_ := Aside0.mk (Kd.R_below (by (with_reducible repeat (first | apply Kd.R_alloc | apply Kd.R_drewN | apply Kd.R_drew)); exact HO342.out) hb); have n2_ := Aside0.mk (blk_below (g := gb334) (o := .cells #[.int .u64 a0_0, .int .u64 a0_1] 24 (0, 0)) (by (with_reducible repeat (first | refine blk_drewN ?_ _ | refine blk_drew ?_ | refine blk_alloc ?_ _)); exact BK334.out) hb); have n3_ := Aside0.mk (below_step (by repeat (first | (with_reducible first | exact HB.out | apply below_alloc | apply pw_below_drewN | apply below_drew1 | refine below_set ?_ GE334.out) | exact HB.out)) hb); clear HO337; clear HO342; clear BK334; clear HB; have HO337 := n0_; have HO342 := n1_; have BK334 := n2_; have HB := n3_; clear n0_ n1_ n2_ n3_; (try clear hb); (try clear hb2); (try clear hk); (try clear hi)))
    go_ret
    exact ⟨by first | rfl | (simp [errW_none, errW_some] <;> rfl) | (simp [*, errW_none, errW_some] <;> rfl), by repeat (first | (with_reducible first | exact HB.out | apply below_alloc | apply pw_below_drewN | apply below_drew1 | refine below_set ?_ GE334.out) | exact HB.out)⟩

end Go.Proofs.YtkbimiimgcklaaaDoor.Print
