/- Merged by a program of this session (wip/gprint/merge.py): what this claim needs of this session's texts, each part as it was. -/
import Derived.Test.YtkbimiimgcklaaaDoorAllBitsBack5
namespace Go.Proofs.YtkbimiimgcklaaaDoor.Print
end Go.Proofs.YtkbimiimgcklaaaDoor.Print

-- of YtkbimiimgcklaaaDoorPrint2
-- Written by a program of this session (wip/gprint/gprint.py) over the kit's print; the parts marked GIVEN by hand.
namespace Go.Proofs.YtkbimiimgcklaaaDoor.Print
open Go.RowKit Go.Proofs.YtkbimiimgcklaaaDoorW.PrintWords Go.Proofs.YtkbimiimgcklaaaDoorW.PrintLast Go.Proofs.YtkbimiimgcklaaaDoorW.PrintMore
attribute [local go_sem] max2_int min2_int max_two min_two max_three min_three max_four min_four   -- for this text's walks alone
set_option linter.unusedVariables false
set_option linter.unusedSimpArgs false

/-! ### riverbankref01_Words: function 86 -/
def riverbankref01_Words.l0 : Nat → List Bool → Int → Int → Int → Option (Int × Int)
  | 0, _, _, _, _ => none
  | k + 1, x0, x4, x5, x6 => if x6 ≥ 0 then (if 0 ≤ x6 then (if x6 < (x0.length : Int) then (if rdOf false x0 x6 = true then (if 0 ≤ (wrap64 (45 + x6)) then (if (wrap64 (45 + x6)) < (x0.length : Int) then (if rdOf false x0 (wrap64 (45 + x6)) = true then (riverbankref01_Words.l0 k x0 (IntKind.u64.wrap ((IntKind.u64.wrap (x4 * 2)) + 1)) (IntKind.u64.wrap ((IntKind.u64.wrap (x5 * 2)) + 1)) (wrap64 (x6 - 1))) else (riverbankref01_Words.l0 k x0 (IntKind.u64.wrap ((IntKind.u64.wrap (x4 * 2)) + 1)) (IntKind.u64.wrap (x5 * 2)) (wrap64 (x6 - 1)))) else (none)) else (none)) else (if 0 ≤ (wrap64 (45 + x6)) then (if (wrap64 (45 + x6)) < (x0.length : Int) then (if rdOf false x0 (wrap64 (45 + x6)) = true then (riverbankref01_Words.l0 k x0 (IntKind.u64.wrap (x4 * 2)) (IntKind.u64.wrap ((IntKind.u64.wrap (x5 * 2)) + 1)) (wrap64 (x6 - 1))) else (riverbankref01_Words.l0 k x0 (IntKind.u64.wrap (x4 * 2)) (IntKind.u64.wrap (x5 * 2)) (wrap64 (x6 - 1)))) else (none)) else (none))) else (none)) else (none)) else (some (x4, x5))
def riverbankref01_Words.f (k : Nat) (l0 : List Bool) : Option (Int × Int) := riverbankref01_Words.l0 k l0 0 0 44
theorem riverbankref01_Words.mono_l : ∀ k, (∀ y0 y1 y2 y3, LeO (riverbankref01_Words.l0 k y0 y1 y2 y3) (riverbankref01_Words.l0 (k + 1) y0 y1 y2 y3))
  | 0 => fun _ _ _ _ r h => by simp [riverbankref01_Words.l0] at h
  | k + 1 => by
    have ih0 := riverbankref01_Words.mono_l k
    · intro y0 y1 y2 y3
      unfold riverbankref01_Words.l0
      repeat' first
      | (with_reducible exact ih0 _ _ _ _)
      | (with_reducible exact LeO.refl _)
      | (with_reducible exact LeO.none _)
      | (with_reducible refine LeO.ite ?_ ?_)
      | (with_reducible refine LeO.bind ?_ (fun _ => ?_))
      | exact ih0 _ _ _ _
      | exact LeO.none _
      | refine LeO.ite ?_ ?_
      | refine LeO.bind ?_ (fun _ => ?_)
theorem riverbankref01_Words.mono : ∀ a0 k, LeO (riverbankref01_Words.f k a0) (riverbankref01_Words.f (k + 1) a0) := by
  intro a0 k
  have ih0 := riverbankref01_Words.mono_l k
  unfold riverbankref01_Words.f
  repeat' first
      | (with_reducible exact ih0 _ _ _ _)
      | (with_reducible exact LeO.refl _)
      | (with_reducible exact LeO.none _)
      | (with_reducible refine LeO.ite ?_ ?_)
      | (with_reducible refine LeO.bind ?_ (fun _ => ?_))
      | exact ih0 _ _ _ _
      | exact LeO.none _
      | refine LeO.ite ?_ ?_
      | refine LeO.bind ?_ (fun _ => ?_)
set_option maxHeartbeats 8000000 in
set_option maxRecDepth 100000 in
theorem riverbankref01_Words.calls (k : Nat) (A0 : Option Addr) (c0 : Nat) (l0 : List Bool) (r1 : Int) (r2 : Int) (w : World) (hr0 : Kd.C Kd.bool w A0 l0.length l0) (hc0 : l0.length ≤ c0) (h : riverbankref01_Words.f k l0 = some (r1, r2)) :
    Calls Tryd.prog 86 #[.slice A0 l0.length c0] w fun e w' => e = .returned (.tuple #[.int .u64 r1, .int .u64 r2]) ∧ Drawn0 w w' := by
  have HR0 := Aside0.mk hr0
  have HC0 := Aside0.mk hc0
  clear hr0 hc0
  have H : (riverbankref01_Words.l0 k l0 0 0 44) = some (r1, r2) := h
  clear h
  have H' := Aside0.mk H
  clear H
  go_enter Tryd.func86, Tryd.ntmps86
  go_wp2
  go_loopg [4, 5, 6] k (fun kq v4 v5 v6 w' => ∃ (x4_1 : Int) (x5_1 : Int) (x6_1 : Int), v4 = .int .u64 x4_1 ∧ v5 = .int .u64 x5_1 ∧ v6 = .int .i64 x6_1 ∧ Aside0 (riverbankref01_Words.l0 kq l0 x4_1 x5_1 x6_1 = some (r1, r2)) ∧ Aside0 (kq ≤ k) ∧ Drawn0 w w')
  case atStart => exact ⟨(0), (0), (44), (by first | rfl | (simp; done) | (simp [*]; done)), (by first | rfl | (simp; done) | (simp [*]; done)), (by first | rfl | (simp; done) | (simp [*]; done)), H', ⟨Nat.le_refl _⟩, by repeat (first | exact Drawn0.refl _ | apply Drawn0.step)⟩
  case round =>
    clear H'
    obtain ⟨x4_1, x5_1, x6_1, rfl, rfl, rfl, HA, HK1, ⟨m1, rfl⟩⟩ := hrel
    cases gk with
    | zero => exact absurd HA.out (by simp [riverbankref01_Words.l0])
    | succ k1 =>
      have H := HA.out
      clear HA
      simp only [riverbankref01_Words.l0] at H
      by_cases c2 : x6_1 ≥ 0
      · rw [if_pos c2] at H
        have c2b0 : decide (0 ≤ x6_1) = true := decide_eq_true c2
        clear c2
        by_cases c3 : 0 ≤ x6_1
        · rw [if_pos c3] at H
          have c3b0 : decide (0 ≤ x6_1) = true := decide_eq_true c3
          clear c3
          by_cases c4 : x6_1 < (l0.length : Int)
          · rw [if_pos c4] at H
            have c4b0 : decide (x6_1 < (l0.length : Int)) = true := decide_eq_true c4
            clear c4
            obtain ⟨bq5, hbq5⟩ : ∃ b_ : Bool, b_ = (rdOf false l0 x6_1) := ⟨_, rfl⟩
            replace H : (if bq5 = true then (if 0 ≤ (wrap64 (45 + x6_1)) then (if (wrap64 (45 + x6_1)) < (l0.length : Int) then (if rdOf false l0 (wrap64 (45 + x6_1)) = true then (riverbankref01_Words.l0 k1 l0 (IntKind.u64.wrap ((IntKind.u64.wrap (x4_1 * 2)) + 1)) (IntKind.u64.wrap ((IntKind.u64.wrap (x5_1 * 2)) + 1)) (wrap64 (x6_1 - 1))) else (riverbankref01_Words.l0 k1 l0 (IntKind.u64.wrap ((IntKind.u64.wrap (x4_1 * 2)) + 1)) (IntKind.u64.wrap (x5_1 * 2)) (wrap64 (x6_1 - 1)))) else (none)) else (none)) else (if 0 ≤ (wrap64 (45 + x6_1)) then (if (wrap64 (45 + x6_1)) < (l0.length : Int) then (if rdOf false l0 (wrap64 (45 + x6_1)) = true then (riverbankref01_Words.l0 k1 l0 (IntKind.u64.wrap (x4_1 * 2)) (IntKind.u64.wrap ((IntKind.u64.wrap (x5_1 * 2)) + 1)) (wrap64 (x6_1 - 1))) else (riverbankref01_Words.l0 k1 l0 (IntKind.u64.wrap (x4_1 * 2)) (IntKind.u64.wrap (x5_1 * 2)) (wrap64 (x6_1 - 1)))) else (none)) else (none))) = some (r1, r2) := by rw [← hbq5] at H; exact H
            have Nbq5 := Aside0.mk hbq5
            clear hbq5
            by_cases c6 : bq5 = true
            · subst c6
              have H1 : (if 0 ≤ (wrap64 (45 + x6_1)) then (if (wrap64 (45 + x6_1)) < (l0.length : Int) then (if rdOf false l0 (wrap64 (45 + x6_1)) = true then (riverbankref01_Words.l0 k1 l0 (IntKind.u64.wrap ((IntKind.u64.wrap (x4_1 * 2)) + 1)) (IntKind.u64.wrap ((IntKind.u64.wrap (x5_1 * 2)) + 1)) (wrap64 (x6_1 - 1))) else (riverbankref01_Words.l0 k1 l0 (IntKind.u64.wrap ((IntKind.u64.wrap (x4_1 * 2)) + 1)) (IntKind.u64.wrap (x5_1 * 2)) (wrap64 (x6_1 - 1)))) else (none)) else (none)) = some (r1, r2) := by rw [if_pos rfl] at H; exact H
              clear H
              have H := H1
              clear H1
              obtain ⟨ji7, hji7⟩ : ∃ j_ : Int, (wrap64 (45 + x6_1)) = j_ := ⟨_, rfl⟩
              replace H : (if 0 ≤ (ji7) then (if (ji7) < (l0.length : Int) then (if rdOf false l0 (ji7) = true then (riverbankref01_Words.l0 k1 l0 (IntKind.u64.wrap ((IntKind.u64.wrap (x4_1 * 2)) + 1)) (IntKind.u64.wrap ((IntKind.u64.wrap (x5_1 * 2)) + 1)) (wrap64 (x6_1 - 1))) else (riverbankref01_Words.l0 k1 l0 (IntKind.u64.wrap ((IntKind.u64.wrap (x4_1 * 2)) + 1)) (IntKind.u64.wrap (x5_1 * 2)) (wrap64 (x6_1 - 1)))) else (none)) else (none)) = some (r1, r2) := by first | (rw [hji7] at H; exact H) | (simp only [hji7] at H ⊢; exact H)
              have hji7w : (IntKind.i64.wrap (45 + x6_1)) = ji7 := (i64_w _).trans hji7
              by_cases c8 : 0 ≤ (ji7)
              · rw [if_pos c8] at H
                have c8b0 : decide (0 ≤ (ji7)) = true := decide_eq_true c8
                clear c8
                by_cases c9 : (ji7) < (l0.length : Int)
                · rw [if_pos c9] at H
                  have c9b0 : decide ((ji7) < (l0.length : Int)) = true := decide_eq_true c9
                  clear c9
                  obtain ⟨bq10, hbq10⟩ : ∃ b_ : Bool, b_ = (rdOf false l0 (ji7)) := ⟨_, rfl⟩
                  replace H : (if bq10 = true then (riverbankref01_Words.l0 k1 l0 (IntKind.u64.wrap ((IntKind.u64.wrap (x4_1 * 2)) + 1)) (IntKind.u64.wrap ((IntKind.u64.wrap (x5_1 * 2)) + 1)) (wrap64 (x6_1 - 1))) else (riverbankref01_Words.l0 k1 l0 (IntKind.u64.wrap ((IntKind.u64.wrap (x4_1 * 2)) + 1)) (IntKind.u64.wrap (x5_1 * 2)) (wrap64 (x6_1 - 1)))) = some (r1, r2) := by rw [← hbq10] at H; exact H
                  have Nbq10 := Aside0.mk hbq10
                  clear hbq10
                  by_cases c11 : bq10 = true
                  · subst c11
                    have H1 : (riverbankref01_Words.l0 k1 l0 (IntKind.u64.wrap ((IntKind.u64.wrap (x4_1 * 2)) + 1)) (IntKind.u64.wrap ((IntKind.u64.wrap (x5_1 * 2)) + 1)) (wrap64 (x6_1 - 1))) = some (r1, r2) := by rw [if_pos rfl] at H; exact H
                    clear H
                    have H := H1
                    clear H1
                    have H' := Aside0.mk H
                    clear H
                    have p106 : 0 ≤ (x6_1 : Int) := of_decide_eq_true (by first | (with_reducible assumption) | assumption)
                    have q106 : x6_1 < (l0.length : Int) := of_decide_eq_true (by first | (with_reducible assumption) | assumption)
                    obtain ⟨ad106, e106, hx106_0⟩ := Kd.at_bool HR0.out x6_1 p106 q106
                    (try rw [← Nbq5.out] at hx106_0)
                    (try rw [← Nbq10.out] at hx106_0)
                    cases e106
                    replace p106 := eq_true p106
                    replace q106 := eq_true q106
                    have p107 : 0 ≤ ((ji7) : Int) := of_decide_eq_true (by first | (with_reducible assumption) | assumption)
                    have q107 : (ji7) < (l0.length : Int) := of_decide_eq_true (by first | (with_reducible assumption) | assumption)
                    obtain ⟨ad107, e107, hx107_0⟩ := Kd.at_bool HR0.out (ji7) p107 q107
                    (try rw [← Nbq5.out] at hx107_0)
                    (try rw [← Nbq10.out] at hx107_0)
                    obtain rfl : ad106 = ad107 := (by injection e107)
                    replace p107 := eq_true p107
                    replace q107 := eq_true q107
                    go_wp2
                    go_roundg k1
                    case measure => have := HK1.out; omega
                    case rel => exact ⟨(IntKind.u64.wrap ((IntKind.u64.wrap (x4_1 * 2)) + 1)), (IntKind.u64.wrap ((IntKind.u64.wrap (x5_1 * 2)) + 1)), (wrap64 (x6_1 - 1)), (by first | rfl | (simp; done) | (simp [*]; done)), (by first | rfl | (simp; done) | (simp [*]; done)), (by first | rfl | (simp; done) | (simp [*]; done)), H', ⟨by have := HK1.out; omega⟩, by repeat (first | exact Drawn0.refl _ | apply Drawn0.step)⟩
                  · replace c11 := Bool.eq_false_iff.mpr c11
                    subst c11
                    have H1 : (riverbankref01_Words.l0 k1 l0 (IntKind.u64.wrap ((IntKind.u64.wrap (x4_1 * 2)) + 1)) (IntKind.u64.wrap (x5_1 * 2)) (wrap64 (x6_1 - 1))) = some (r1, r2) := by rw [if_neg (show ¬ (false = true) by decide)] at H; exact H
                    clear H
                    have H := H1
                    clear H1
                    have H' := Aside0.mk H
                    clear H
                    have p106 : 0 ≤ (x6_1 : Int) := of_decide_eq_true (by first | (with_reducible assumption) | assumption)
                    have q106 : x6_1 < (l0.length : Int) := of_decide_eq_true (by first | (with_reducible assumption) | assumption)
                    obtain ⟨ad106, e106, hx106_0⟩ := Kd.at_bool HR0.out x6_1 p106 q106
                    (try rw [← Nbq5.out] at hx106_0)
                    (try rw [← Nbq10.out] at hx106_0)
                    cases e106
                    replace p106 := eq_true p106
                    replace q106 := eq_true q106
                    have p107 : 0 ≤ ((ji7) : Int) := of_decide_eq_true (by first | (with_reducible assumption) | assumption)
                    have q107 : (ji7) < (l0.length : Int) := of_decide_eq_true (by first | (with_reducible assumption) | assumption)
                    obtain ⟨ad107, e107, hx107_0⟩ := Kd.at_bool HR0.out (ji7) p107 q107
                    (try rw [← Nbq5.out] at hx107_0)
                    (try rw [← Nbq10.out] at hx107_0)
                    obtain rfl : ad106 = ad107 := (by injection e107)
                    replace p107 := eq_true p107
                    replace q107 := eq_true q107
                    go_wp2
                    go_roundg k1
                    case measure => have := HK1.out; omega
                    case rel => exact ⟨(IntKind.u64.wrap ((IntKind.u64.wrap (x4_1 * 2)) + 1)), (IntKind.u64.wrap (x5_1 * 2)), (wrap64 (x6_1 - 1)), (by first | rfl | (simp; done) | (simp [*]; done)), (by first | rfl | (simp; done) | (simp [*]; done)), (by first | rfl | (simp; done) | (simp [*]; done)), H', ⟨by have := HK1.out; omega⟩, by repeat (first | exact Drawn0.refl _ | apply Drawn0.step)⟩
                · rw [if_neg c9] at H
                  exact absurd H (by simp)
              · rw [if_neg c8] at H
                exact absurd H (by simp)
            · replace c6 := Bool.eq_false_iff.mpr c6
              subst c6
              have H1 : (if 0 ≤ (wrap64 (45 + x6_1)) then (if (wrap64 (45 + x6_1)) < (l0.length : Int) then (if rdOf false l0 (wrap64 (45 + x6_1)) = true then (riverbankref01_Words.l0 k1 l0 (IntKind.u64.wrap (x4_1 * 2)) (IntKind.u64.wrap ((IntKind.u64.wrap (x5_1 * 2)) + 1)) (wrap64 (x6_1 - 1))) else (riverbankref01_Words.l0 k1 l0 (IntKind.u64.wrap (x4_1 * 2)) (IntKind.u64.wrap (x5_1 * 2)) (wrap64 (x6_1 - 1)))) else (none)) else (none)) = some (r1, r2) := by rw [if_neg (show ¬ (false = true) by decide)] at H; exact H
              clear H
              have H := H1
              clear H1
              obtain ⟨ji12, hji12⟩ : ∃ j_ : Int, (wrap64 (45 + x6_1)) = j_ := ⟨_, rfl⟩
              replace H : (if 0 ≤ (ji12) then (if (ji12) < (l0.length : Int) then (if rdOf false l0 (ji12) = true then (riverbankref01_Words.l0 k1 l0 (IntKind.u64.wrap (x4_1 * 2)) (IntKind.u64.wrap ((IntKind.u64.wrap (x5_1 * 2)) + 1)) (wrap64 (x6_1 - 1))) else (riverbankref01_Words.l0 k1 l0 (IntKind.u64.wrap (x4_1 * 2)) (IntKind.u64.wrap (x5_1 * 2)) (wrap64 (x6_1 - 1)))) else (none)) else (none)) = some (r1, r2) := by first | (rw [hji12] at H; exact H) | (simp only [hji12] at H ⊢; exact H)
              have hji12w : (IntKind.i64.wrap (45 + x6_1)) = ji12 := (i64_w _).trans hji12
              by_cases c13 : 0 ≤ (ji12)
              · rw [if_pos c13] at H
                have c13b0 : decide (0 ≤ (ji12)) = true := decide_eq_true c13
                clear c13
                by_cases c14 : (ji12) < (l0.length : Int)
                · rw [if_pos c14] at H
                  have c14b0 : decide ((ji12) < (l0.length : Int)) = true := decide_eq_true c14
                  clear c14
                  obtain ⟨bq15, hbq15⟩ : ∃ b_ : Bool, b_ = (rdOf false l0 (ji12)) := ⟨_, rfl⟩
                  replace H : (if bq15 = true then (riverbankref01_Words.l0 k1 l0 (IntKind.u64.wrap (x4_1 * 2)) (IntKind.u64.wrap ((IntKind.u64.wrap (x5_1 * 2)) + 1)) (wrap64 (x6_1 - 1))) else (riverbankref01_Words.l0 k1 l0 (IntKind.u64.wrap (x4_1 * 2)) (IntKind.u64.wrap (x5_1 * 2)) (wrap64 (x6_1 - 1)))) = some (r1, r2) := by rw [← hbq15] at H; exact H
                  have Nbq15 := Aside0.mk hbq15
                  clear hbq15
                  by_cases c16 : bq15 = true
                  · subst c16
                    have H1 : (riverbankref01_Words.l0 k1 l0 (IntKind.u64.wrap (x4_1 * 2)) (IntKind.u64.wrap ((IntKind.u64.wrap (x5_1 * 2)) + 1)) (wrap64 (x6_1 - 1))) = some (r1, r2) := by rw [if_pos rfl] at H; exact H
                    clear H
                    have H := H1
                    clear H1
                    have H' := Aside0.mk H
                    clear H
                    have p106 : 0 ≤ (x6_1 : Int) := of_decide_eq_true (by first | (with_reducible assumption) | assumption)
                    have q106 : x6_1 < (l0.length : Int) := of_decide_eq_true (by first | (with_reducible assumption) | assumption)
                    obtain ⟨ad106, e106, hx106_0⟩ := Kd.at_bool HR0.out x6_1 p106 q106
                    (try rw [← Nbq5.out] at hx106_0)
                    (try rw [← Nbq15.out] at hx106_0)
                    cases e106
                    replace p106 := eq_true p106
                    replace q106 := eq_true q106
                    have p108 : 0 ≤ ((ji12) : Int) := of_decide_eq_true (by first | (with_reducible assumption) | assumption)
                    have q108 : (ji12) < (l0.length : Int) := of_decide_eq_true (by first | (with_reducible assumption) | assumption)
                    obtain ⟨ad108, e108, hx108_0⟩ := Kd.at_bool HR0.out (ji12) p108 q108
                    (try rw [← Nbq5.out] at hx108_0)
                    (try rw [← Nbq15.out] at hx108_0)
                    obtain rfl : ad106 = ad108 := (by injection e108)
                    replace p108 := eq_true p108
                    replace q108 := eq_true q108
                    go_wp2
                    go_roundg k1
                    case measure => have := HK1.out; omega
                    case rel => exact ⟨(IntKind.u64.wrap (x4_1 * 2)), (IntKind.u64.wrap ((IntKind.u64.wrap (x5_1 * 2)) + 1)), (wrap64 (x6_1 - 1)), (by first | rfl | (simp; done) | (simp [*]; done)), (by first | rfl | (simp; done) | (simp [*]; done)), (by first | rfl | (simp; done) | (simp [*]; done)), H', ⟨by have := HK1.out; omega⟩, by repeat (first | exact Drawn0.refl _ | apply Drawn0.step)⟩
                  · replace c16 := Bool.eq_false_iff.mpr c16
                    subst c16
                    have H1 : (riverbankref01_Words.l0 k1 l0 (IntKind.u64.wrap (x4_1 * 2)) (IntKind.u64.wrap (x5_1 * 2)) (wrap64 (x6_1 - 1))) = some (r1, r2) := by rw [if_neg (show ¬ (false = true) by decide)] at H; exact H
                    clear H
                    have H := H1
                    clear H1
                    have H' := Aside0.mk H
                    clear H
                    have p106 : 0 ≤ (x6_1 : Int) := of_decide_eq_true (by first | (with_reducible assumption) | assumption)
                    have q106 : x6_1 < (l0.length : Int) := of_decide_eq_true (by first | (with_reducible assumption) | assumption)
                    obtain ⟨ad106, e106, hx106_0⟩ := Kd.at_bool HR0.out x6_1 p106 q106
                    (try rw [← Nbq5.out] at hx106_0)
                    (try rw [← Nbq15.out] at hx106_0)
                    cases e106
                    replace p106 := eq_true p106
                    replace q106 := eq_true q106
                    have p108 : 0 ≤ ((ji12) : Int) := of_decide_eq_true (by first | (with_reducible assumption) | assumption)
                    have q108 : (ji12) < (l0.length : Int) := of_decide_eq_true (by first | (with_reducible assumption) | assumption)
                    obtain ⟨ad108, e108, hx108_0⟩ := Kd.at_bool HR0.out (ji12) p108 q108
                    (try rw [← Nbq5.out] at hx108_0)
                    (try rw [← Nbq15.out] at hx108_0)
                    obtain rfl : ad106 = ad108 := (by injection e108)
                    replace p108 := eq_true p108
                    replace q108 := eq_true q108
                    go_wp2
                    go_roundg k1
                    case measure => have := HK1.out; omega
                    case rel => exact ⟨(IntKind.u64.wrap (x4_1 * 2)), (IntKind.u64.wrap (x5_1 * 2)), (wrap64 (x6_1 - 1)), (by first | rfl | (simp; done) | (simp [*]; done)), (by first | rfl | (simp; done) | (simp [*]; done)), (by first | rfl | (simp; done) | (simp [*]; done)), H', ⟨by have := HK1.out; omega⟩, by repeat (first | exact Drawn0.refl _ | apply Drawn0.step)⟩
                · rw [if_neg c14] at H
                  exact absurd H (by simp)
              · rw [if_neg c13] at H
                exact absurd H (by simp)
          · rw [if_neg c4] at H
            exact absurd H (by simp)
        · rw [if_neg c3] at H
          exact absurd H (by simp)
      · rw [if_neg c2] at H
        have c2b0 : decide (0 ≤ x6_1) = false := decide_eq_false c2
        clear c2
        simp only [Option.some.injEq, Prod.mk.injEq] at H
        obtain ⟨rfl, rfl⟩ := H
        go_wp2
        go_ret2
        exact ⟨by first | rfl | (simp; done) | (simp [*]; done), by repeat (first | exact Drawn0.refl _ | apply Drawn0.step)⟩

/-! ### riverbanklaw01_is: function 23 -/
def riverbanklaw01_is.f (k : Nat) (a0_0 : Int) (a0_1 : Int) (l1 : List Bool) : Option (Bool) := (riverbankref01_Words.f k l1).bind fun bt110 => (if a0_0 = bt110.1 then (some (a0_1 == bt110.2)) else (some false))
theorem riverbanklaw01_is.mono : ∀ a0 a1 a2 k, LeO (riverbanklaw01_is.f k a0 a1 a2) (riverbanklaw01_is.f (k + 1) a0 a1 a2) := by
  intro a0 a1 a2 k
  unfold riverbanklaw01_is.f
  repeat' first
      | (with_reducible exact riverbankref01_Words.mono _ _)
      | (with_reducible exact LeO.refl _)
      | (with_reducible exact LeO.none _)
      | (with_reducible refine LeO.ite ?_ ?_)
      | (with_reducible refine LeO.bind ?_ (fun _ => ?_))
      | exact riverbankref01_Words.mono _ _
      | exact LeO.none _
      | refine LeO.ite ?_ ?_
      | refine LeO.bind ?_ (fun _ => ?_)
set_option maxHeartbeats 8000000 in
set_option maxRecDepth 100000 in
theorem riverbanklaw01_is.calls (k : Nat) (a0_0 : Int) (a0_1 : Int) (A1 : Option Addr) (c1 : Nat) (l1 : List Bool) (r : Bool) (w : World) (hr1 : Kd.C Kd.bool w A1 l1.length l1) (hc1 : l1.length ≤ c1) (h : riverbanklaw01_is.f k a0_0 a0_1 l1 = some r) :
    Calls Tryd.prog 23 #[.agg #[.int .u64 a0_0, .int .u64 a0_1], .slice A1 l1.length c1] w fun e w' => e = .returned (.bool r) ∧ Below w.heap.size w w' := by
  have hu24 := Tryd.underlying24
  have HR1 := Aside0.mk hr1
  have HC1 := Aside0.mk hc1
  clear hr1 hc1
  have HB := Aside0.mk (Below.refl w.heap.size w)
  have H : ((riverbankref01_Words.f k l1).bind fun bt110 => (if a0_0 = bt110.1 then (some (a0_1 == bt110.2)) else (some false))) = some r := h
  clear h
  replace H := Option.bind_eq_some_iff.mp H
  obtain ⟨⟨t110, t111⟩, A30, H⟩ := H
  replace H : (if a0_0 = t110 then (some (a0_1 == t111)) else (some false)) = some r := H
  have A3 := Aside0.mk A30
  clear A30
  by_cases c4 : a0_0 = t110
  · rw [if_pos c4] at H
    have c4b0 : (a0_0 == t110) = true := beq_iff_eq.mpr c4
    have c4b1 : (a0_0 != t110) = false := bne_eq_false_iff_eq.mpr c4
    clear c4
    obtain rfl := Option.some.inj H
    go_enter Tryd.func23, Tryd.ntmps23
    go_wp2_with (first | ((with_reducible refine gate_dst (N := 2) rfl ?_); refine box_event ?hg (N := 2) ?hd (cs := #[.int .u64 a0_0, .int .u64 a0_1]) (t := 24) ?hr ?_; (case hd => rfl); (case hg => rfl); (case hr => first | (go_simp; done) | (go_simp; rfl)); intro gb109 hg w5 hbox hb; have n0_ := Aside0.mk (below_step (by repeat (first | (with_reducible first | exact HB.out | apply below_alloc | apply pw_below_drewN | apply below_drew1) | exact HB.out)) hb); have n1_ := Aside0.mk (hbox); have n2_ := Aside0.mk ((by rw [hg]; exact (below_size (by repeat (first | (with_reducible first | exact HB.out | apply below_alloc | apply pw_below_drewN | apply below_drew1) | exact HB.out))) : w.heap.size ≤ gb109)); have n3_ := Aside0.mk ((by rw [hg]; exact (below_size (by repeat (first | (with_reducible first | exact HB.out | apply below_alloc | apply pw_below_drewN | apply below_drew1) | exact HB.out))) : w.heap.size ≤ gb109)); clear HB; have HB := n0_; have BK109 := n1_; have GW109 := n2_; have GE109 := n3_; clear n0_ n1_ n2_ n3_; clear hb hbox hg) | ((with_reducible refine gate_callee (f := 86) rfl ?_); refine goesL_ (some 9) rfl rfl Tryd.func86 (by kernel_rfl) rfl #[.slice A1 l1.length c1] rfl (by (try simp only [List.map_toArray, List.map_cons, List.map_nil]); first | done | rfl | (simp only [List.length_drop, List.length_take]; rfl)) ?_; (with_reducible refine (riverbankref01_Words.calls k _ _ l1 t110 t111 _ ?side1 ?side2 A3.out).mono ?_); (case side1 => repeat (first | exact (Kd.C_below HR1.out HB.out) | (with_reducible refine Kd.C_alloc ?_ _) | (with_reducible refine Kd.C_drewN ?_ _) | (with_reducible refine Kd.C_drew ?_))); (case side2 => exact HC1.out); rintro e w' ⟨rfl, ⟨nd, rfl⟩⟩; refine ⟨_, rfl, ?_⟩; have hcz6_0 : w5.cell? ⟨gb109, 0, none⟩ = some (.int .u64 a0_0) := (blk_cell BK109.out 0).trans rfl; have hcz6_1 : w5.cell? ⟨gb109, 1, none⟩ = some (.int .u64 a0_1) := (blk_cell BK109.out 1).trans rfl; have hfz6_0 := blk_frozen BK109.out 0; have hfz6_1 := blk_frozen BK109.out 1))
    go_ret
    exact ⟨by first | rfl | (simp [errW_none, errW_some] <;> rfl) | (simp [*, errW_none, errW_some] <;> rfl), by repeat (first | (with_reducible first | exact HB.out | apply below_alloc | apply pw_below_drewN | apply below_drew1 | refine below_set ?_ GE109.out) | exact HB.out)⟩
  · rw [if_neg c4] at H
    have c4b0 : (a0_0 == t110) = false := beq_eq_false_iff_ne.mpr c4
    have c4b1 : (a0_0 != t110) = true := bne_iff_ne.mpr c4
    obtain rfl := Option.some.inj H
    go_enter Tryd.func23, Tryd.ntmps23
    go_wp2_with (first | ((with_reducible refine gate_dst (N := 2) rfl ?_); refine box_event ?hg (N := 2) ?hd (cs := #[.int .u64 a0_0, .int .u64 a0_1]) (t := 24) ?hr ?_; (case hd => rfl); (case hg => rfl); (case hr => first | (go_simp; done) | (go_simp; rfl)); intro gb109 hg w7 hbox hb; have n0_ := Aside0.mk (below_step (by repeat (first | (with_reducible first | exact HB.out | apply below_alloc | apply pw_below_drewN | apply below_drew1) | exact HB.out)) hb); have n1_ := Aside0.mk (hbox); have n2_ := Aside0.mk ((by rw [hg]; exact (below_size (by repeat (first | (with_reducible first | exact HB.out | apply below_alloc | apply pw_below_drewN | apply below_drew1) | exact HB.out))) : w.heap.size ≤ gb109)); have n3_ := Aside0.mk ((by rw [hg]; exact (below_size (by repeat (first | (with_reducible first | exact HB.out | apply below_alloc | apply pw_below_drewN | apply below_drew1) | exact HB.out))) : w.heap.size ≤ gb109)); clear HB; have HB := n0_; have BK109 := n1_; have GW109 := n2_; have GE109 := n3_; clear n0_ n1_ n2_ n3_; clear hb hbox hg) | ((with_reducible refine gate_callee (f := 86) rfl ?_); refine goesL_ (some 9) rfl rfl Tryd.func86 (by kernel_rfl) rfl #[.slice A1 l1.length c1] rfl (by (try simp only [List.map_toArray, List.map_cons, List.map_nil]); first | done | rfl | (simp only [List.length_drop, List.length_take]; rfl)) ?_; (with_reducible refine (riverbankref01_Words.calls k _ _ l1 t110 t111 _ ?side1 ?side2 A3.out).mono ?_); (case side1 => repeat (first | exact (Kd.C_below HR1.out HB.out) | (with_reducible refine Kd.C_alloc ?_ _) | (with_reducible refine Kd.C_drewN ?_ _) | (with_reducible refine Kd.C_drew ?_))); (case side2 => exact HC1.out); rintro e w' ⟨rfl, ⟨nd, rfl⟩⟩; refine ⟨_, rfl, ?_⟩; have hcz8_0 : w7.cell? ⟨gb109, 0, none⟩ = some (.int .u64 a0_0) := (blk_cell BK109.out 0).trans rfl; have hcz8_1 : w7.cell? ⟨gb109, 1, none⟩ = some (.int .u64 a0_1) := (blk_cell BK109.out 1).trans rfl; have hfz8_0 := blk_frozen BK109.out 0; have hfz8_1 := blk_frozen BK109.out 1))
    go_ret
    exact ⟨by first | rfl | (simp [errW_none, errW_some] <;> rfl) | (simp [*, errW_none, errW_some] <;> rfl), by repeat (first | (with_reducible first | exact HB.out | apply below_alloc | apply pw_below_drewN | apply below_drew1 | refine below_set ?_ GE109.out) | exact HB.out)⟩

/-! ### bits_Set_plain: function 87 -/
def bits_Set_plain.f (a0_0 : Int) (a0_1 : Int) : Option (Int × Int) := some (Go.bits .and .u64 a0_0 35184372088831, Go.bits .and .u64 a0_1 35184372088831)
set_option maxHeartbeats 8000000 in
set_option maxRecDepth 100000 in
theorem bits_Set_plain.calls (a0_0 : Int) (a0_1 : Int) (r1 : Int) (r2 : Int) (w : World) (h : bits_Set_plain.f a0_0 a0_1 = some (r1, r2)) :
    Calls Tryd.prog 87 #[.agg #[.int .u64 a0_0, .int .u64 a0_1]] w fun e w' => e = .returned (.agg #[.int .u64 r1, .int .u64 r2]) ∧ Below w.heap.size w w' := by
  have hu24 := Tryd.underlying24
  have HB := Aside0.mk (Below.refl w.heap.size w)
  have H : (some (Go.bits .and .u64 a0_0 35184372088831, Go.bits .and .u64 a0_1 35184372088831)) = some (r1, r2) := h
  clear h
  simp only [Option.some.injEq, Prod.mk.injEq] at H
  obtain ⟨rfl, rfl⟩ := H
  go_enter Tryd.func87, Tryd.ntmps87
  go_wp2_with (first | ((with_reducible refine gate_dst (N := 1) rfl ?_); refine box_event ?hg (N := 1) ?hd (cs := #[.int .u64 a0_0, .int .u64 a0_1]) (t := 24) ?hr ?_; (case hd => rfl); (case hg => rfl); (case hr => first | (go_simp; done) | (go_simp; rfl)); intro gb112 hg w2 hbox hb; have n0_ := Aside0.mk (below_step (by repeat (first | (with_reducible first | exact HB.out | apply below_alloc | apply pw_below_drewN | apply below_drew1) | exact HB.out)) hb); have n1_ := Aside0.mk (hbox); have n2_ := Aside0.mk ((by rw [hg]; exact (below_size (by repeat (first | (with_reducible first | exact HB.out | apply below_alloc | apply pw_below_drewN | apply below_drew1) | exact HB.out))) : w.heap.size ≤ gb112)); have n3_ := Aside0.mk ((by rw [hg]; exact (below_size (by repeat (first | (with_reducible first | exact HB.out | apply below_alloc | apply pw_below_drewN | apply below_drew1) | exact HB.out))) : w.heap.size ≤ gb112)); clear HB; have HB := n0_; have BK112 := n1_; have GW112 := n2_; have GE112 := n3_; clear n0_ n1_ n2_ n3_; clear hb hbox hg) | ((with_reducible refine gate_dst (N := 2) rfl ?_); refine box_event ?hg (N := 2) ?hd (cs := #[.int .u64 0, .int .u64 0]) (t := 24) ?hr ?_; (case hd => rfl); (case hg => rfl); (case hr => first | (go_simp; done) | (go_simp; rfl)); intro gb113 hg w3 hbox hb; have n0_ := Aside0.mk (blk_below (g := gb112) (o := .cells #[.int .u64 a0_0, .int .u64 a0_1] 24 (0, 0)) (by (with_reducible repeat (first | refine blk_drewN ?_ _ | refine blk_drew ?_ | refine blk_alloc ?_ _)); exact BK112.out) hb); have n1_ := Aside0.mk (below_step (by repeat (first | (with_reducible first | exact HB.out | apply below_alloc | apply pw_below_drewN | apply below_drew1 | refine below_set ?_ GE112.out) | exact HB.out)) hb); have n2_ := Aside0.mk (hbox); have n3_ := Aside0.mk ((by rw [hg]; exact (below_size (by repeat (first | (with_reducible first | exact HB.out | apply below_alloc | apply pw_below_drewN | apply below_drew1 | refine below_set ?_ GE112.out) | exact HB.out))) : w.heap.size ≤ gb113)); have n4_ := Aside0.mk ((by rw [hg]; exact (below_size (by repeat (first | (with_reducible first | exact HB.out | apply below_alloc | apply pw_below_drewN | apply below_drew1 | refine below_set ?_ GE112.out) | exact HB.out))) : w.heap.size ≤ gb113)); have n5_ := Aside0.mk ((by rw [hg]; exact Nat.ne_of_lt (blk_lt (g := gb112) (o := .cells #[.int .u64 a0_0, .int .u64 a0_1] 24 (0, 0)) (by (with_reducible repeat (first | refine blk_drewN ?_ _ | refine blk_drew ?_ | refine blk_alloc ?_ _)); exact BK112.out)) : gb112 ≠ gb113)); have n6_ := Aside0.mk ((by rw [hg]; exact Nat.ne_of_gt (blk_lt (g := gb112) (o := .cells #[.int .u64 a0_0, .int .u64 a0_1] 24 (0, 0)) (by (with_reducible repeat (first | refine blk_drewN ?_ _ | refine blk_drew ?_ | refine blk_alloc ?_ _)); exact BK112.out)) : gb113 ≠ gb112)); clear BK112; clear HB; have BK112 := n0_; have HB := n1_; have BK113 := n2_; have GW113 := n3_; have GE113 := n4_; have NB112_113 := n5_; have NB113_112 := n6_; clear n0_ n1_ n2_ n3_ n4_ n5_ n6_; clear hb hbox hg; have hnb4 := NB112_113.out; have hnc4 := NB113_112.out; have hcz5_0 : w3.cell? ⟨gb112, 0, none⟩ = some (.int .u64 a0_0) := (blk_cell BK112.out 0).trans rfl; have hcz5_1 : w3.cell? ⟨gb112, 1, none⟩ = some (.int .u64 a0_1) := (blk_cell BK112.out 1).trans rfl; have hfz5_0 := blk_frozen BK112.out 0; have hfz5_1 := blk_frozen BK112.out 1; have hcz6_0 : w3.cell? ⟨gb113, 0, none⟩ = some (.int .u64 0) := (blk_cell BK113.out 0).trans rfl; have hcz6_1 : w3.cell? ⟨gb113, 1, none⟩ = some (.int .u64 0) := (blk_cell BK113.out 1).trans rfl; have hfz6_0 := blk_frozen BK113.out 0; have hfz6_1 := blk_frozen BK113.out 1))
  refine bodyPost_ret (results_cell_row rfl _ _ gb113 24 #[.int .u64 (Go.bits .and .u64 a0_0 35184372088831), .int .u64 (Go.bits .and .u64 a0_1 35184372088831)] (0, 0) _ rfl (by (with_reducible repeat (first | refine blk_drewN ?_ _ | refine blk_drew ?_ | refine blk_alloc ?_ _)); refine blk_put (cs := #[.int .u64 (Go.bits .and .u64 a0_0 35184372088831), .int .u64 0]) ?_ 1 _ rfl; (with_reducible repeat (first | refine blk_drewN ?_ _ | refine blk_drew ?_ | refine blk_alloc ?_ _)); refine blk_put (cs := #[.int .u64 0, .int .u64 0]) ?_ 0 _ rfl; (with_reducible repeat (first | refine blk_drewN ?_ _ | refine blk_drew ?_ | refine blk_alloc ?_ _)); exact BK113.out) Tryd.underlying24 rfl (by kernel_rfl)) rfl ?_
  exact ⟨by first | rfl | (simp [errW_none, errW_some] <;> rfl) | (simp [*, errW_none, errW_some] <;> rfl), by repeat (first | (with_reducible first | exact HB.out | apply below_alloc | apply pw_below_drewN | apply below_drew1 | refine below_set ?_ GE112.out | refine below_set ?_ GE113.out) | exact HB.out)⟩

/-! ### bits_Set_Or: function 24 -/
def bits_Set_Or.f (a0_0 : Int) (a0_1 : Int) (a1_0 : Int) (a1_1 : Int) : Option (Int × Int) := (bits_Set_plain.f (Go.bits .or .u64 a0_0 a1_0) (Go.bits .or .u64 a0_1 a1_1)).bind fun bt117 => (some (bt117.1, bt117.2))
set_option maxHeartbeats 8000000 in
set_option maxRecDepth 100000 in
theorem bits_Set_Or.calls (a0_0 : Int) (a0_1 : Int) (a1_0 : Int) (a1_1 : Int) (r1 : Int) (r2 : Int) (w : World) (h : bits_Set_Or.f a0_0 a0_1 a1_0 a1_1 = some (r1, r2)) :
    Calls Tryd.prog 24 #[.agg #[.int .u64 a0_0, .int .u64 a0_1], .agg #[.int .u64 a1_0, .int .u64 a1_1]] w fun e w' => e = .returned (.agg #[.int .u64 r1, .int .u64 r2]) ∧ Below w.heap.size w w' := by
  have hu24 := Tryd.underlying24
  have HB := Aside0.mk (Below.refl w.heap.size w)
  have H : ((bits_Set_plain.f (Go.bits .or .u64 a0_0 a1_0) (Go.bits .or .u64 a0_1 a1_1)).bind fun bt117 => (some (bt117.1, bt117.2))) = some (r1, r2) := h
  clear h
  replace H := Option.bind_eq_some_iff.mp H
  obtain ⟨⟨t117, t118⟩, A30, H⟩ := H
  replace H : (some (t117, t118)) = some (r1, r2) := H
  have A3 := Aside0.mk A30
  clear A30
  simp only [Option.some.injEq, Prod.mk.injEq] at H
  obtain ⟨rfl, rfl⟩ := H
  go_enter Tryd.func24, Tryd.ntmps24
  go_wp2_with (first | ((with_reducible refine gate_dst (N := 2) rfl ?_); refine box_event ?hg (N := 2) ?hd (cs := #[.int .u64 a0_0, .int .u64 a0_1]) (t := 24) ?hr ?_; (case hd => rfl); (case hg => rfl); (case hr => first | (go_simp; done) | (go_simp; rfl)); intro gb114 hg w4 hbox hb; have n0_ := Aside0.mk (below_step (by repeat (first | (with_reducible first | exact HB.out | apply below_alloc | apply pw_below_drewN | apply below_drew1) | exact HB.out)) hb); have n1_ := Aside0.mk (hbox); have n2_ := Aside0.mk ((by rw [hg]; exact (below_size (by repeat (first | (with_reducible first | exact HB.out | apply below_alloc | apply pw_below_drewN | apply below_drew1) | exact HB.out))) : w.heap.size ≤ gb114)); have n3_ := Aside0.mk ((by rw [hg]; exact (below_size (by repeat (first | (with_reducible first | exact HB.out | apply below_alloc | apply pw_below_drewN | apply below_drew1) | exact HB.out))) : w.heap.size ≤ gb114)); clear HB; have HB := n0_; have BK114 := n1_; have GW114 := n2_; have GE114 := n3_; clear n0_ n1_ n2_ n3_; clear hb hbox hg) | ((with_reducible refine gate_dst (N := 3) rfl ?_); refine box_event ?hg (N := 3) ?hd (cs := #[.int .u64 a1_0, .int .u64 a1_1]) (t := 24) ?hr ?_; (case hd => rfl); (case hg => rfl); (case hr => first | (go_simp; done) | (go_simp; rfl)); intro gb115 hg w5 hbox hb; have n0_ := Aside0.mk (blk_below (g := gb114) (o := .cells #[.int .u64 a0_0, .int .u64 a0_1] 24 (0, 0)) (by (with_reducible repeat (first | refine blk_drewN ?_ _ | refine blk_drew ?_ | refine blk_alloc ?_ _)); exact BK114.out) hb); have n1_ := Aside0.mk (below_step (by repeat (first | (with_reducible first | exact HB.out | apply below_alloc | apply pw_below_drewN | apply below_drew1 | refine below_set ?_ GE114.out) | exact HB.out)) hb); have n2_ := Aside0.mk (hbox); have n3_ := Aside0.mk ((by rw [hg]; exact (below_size (by repeat (first | (with_reducible first | exact HB.out | apply below_alloc | apply pw_below_drewN | apply below_drew1 | refine below_set ?_ GE114.out) | exact HB.out))) : w.heap.size ≤ gb115)); have n4_ := Aside0.mk ((by rw [hg]; exact (below_size (by repeat (first | (with_reducible first | exact HB.out | apply below_alloc | apply pw_below_drewN | apply below_drew1 | refine below_set ?_ GE114.out) | exact HB.out))) : w.heap.size ≤ gb115)); have n5_ := Aside0.mk ((by rw [hg]; exact Nat.ne_of_lt (blk_lt (g := gb114) (o := .cells #[.int .u64 a0_0, .int .u64 a0_1] 24 (0, 0)) (by (with_reducible repeat (first | refine blk_drewN ?_ _ | refine blk_drew ?_ | refine blk_alloc ?_ _)); exact BK114.out)) : gb114 ≠ gb115)); have n6_ := Aside0.mk ((by rw [hg]; exact Nat.ne_of_gt (blk_lt (g := gb114) (o := .cells #[.int .u64 a0_0, .int .u64 a0_1] 24 (0, 0)) (by (with_reducible repeat (first | refine blk_drewN ?_ _ | refine blk_drew ?_ | refine blk_alloc ?_ _)); exact BK114.out)) : gb115 ≠ gb114)); clear BK114; clear HB; have BK114 := n0_; have HB := n1_; have BK115 := n2_; have GW115 := n3_; have GE115 := n4_; have NB114_115 := n5_; have NB115_114 := n6_; clear n0_ n1_ n2_ n3_ n4_ n5_ n6_; clear hb hbox hg) | ((with_reducible refine gate_dst (N := 4) rfl ?_); refine box_event ?hg (N := 4) ?hd (cs := #[.int .u64 0, .int .u64 0]) (t := 24) ?hr ?_; (case hd => rfl); (case hg => rfl); (case hr => first | (go_simp; done) | (go_simp; rfl)); intro gb116 hg w6 hbox hb; have n0_ := Aside0.mk (blk_below (g := gb114) (o := .cells #[.int .u64 a0_0, .int .u64 a0_1] 24 (0, 0)) (by (with_reducible repeat (first | refine blk_drewN ?_ _ | refine blk_drew ?_ | refine blk_alloc ?_ _)); exact BK114.out) hb); have n1_ := Aside0.mk (blk_below (g := gb115) (o := .cells #[.int .u64 a1_0, .int .u64 a1_1] 24 (0, 0)) (by (with_reducible repeat (first | refine blk_drewN ?_ _ | refine blk_drew ?_ | refine blk_alloc ?_ _)); exact BK115.out) hb); have n2_ := Aside0.mk (below_step (by repeat (first | (with_reducible first | exact HB.out | apply below_alloc | apply pw_below_drewN | apply below_drew1 | refine below_set ?_ GE114.out | refine below_set ?_ GE115.out) | exact HB.out)) hb); have n3_ := Aside0.mk (hbox); have n4_ := Aside0.mk ((by rw [hg]; exact (below_size (by repeat (first | (with_reducible first | exact HB.out | apply below_alloc | apply pw_below_drewN | apply below_drew1 | refine below_set ?_ GE114.out | refine below_set ?_ GE115.out) | exact HB.out))) : w.heap.size ≤ gb116)); have n5_ := Aside0.mk ((by rw [hg]; exact (below_size (by repeat (first | (with_reducible first | exact HB.out | apply below_alloc | apply pw_below_drewN | apply below_drew1 | refine below_set ?_ GE114.out | refine below_set ?_ GE115.out) | exact HB.out))) : w.heap.size ≤ gb116)); have n6_ := Aside0.mk ((by rw [hg]; exact Nat.ne_of_lt (blk_lt (g := gb114) (o := .cells #[.int .u64 a0_0, .int .u64 a0_1] 24 (0, 0)) (by (with_reducible repeat (first | refine blk_drewN ?_ _ | refine blk_drew ?_ | refine blk_alloc ?_ _)); exact BK114.out)) : gb114 ≠ gb116)); have n7_ := Aside0.mk ((by rw [hg]; exact Nat.ne_of_gt (blk_lt (g := gb114) (o := .cells #[.int .u64 a0_0, .int .u64 a0_1] 24 (0, 0)) (by (with_reducible repeat (first | refine blk_drewN ?_ _ | refine blk_drew ?_ | refine blk_alloc ?_ _)); exact BK114.out)) : gb116 ≠ gb114)); have n8_ := Aside0.mk ((by rw [hg]; exact Nat.ne_of_lt (blk_lt (g := gb115) (o := .cells #[.int .u64 a1_0, .int .u64 a1_1] 24 (0, 0)) (by (with_reducible repeat (first | refine blk_drewN ?_ _ | refine blk_drew ?_ | refine blk_alloc ?_ _)); exact BK115.out)) : gb115 ≠ gb116)); have n9_ := Aside0.mk ((by rw [hg]; exact Nat.ne_of_gt (blk_lt (g := gb115) (o := .cells #[.int .u64 a1_0, .int .u64 a1_1] 24 (0, 0)) (by (with_reducible repeat (first | refine blk_drewN ?_ _ | refine blk_drew ?_ | refine blk_alloc ?_ _)); exact BK115.out)) : gb116 ≠ gb115)); clear BK114; clear BK115; clear HB; have BK114 := n0_; have BK115 := n1_; have HB := n2_; have BK116 := n3_; have GW116 := n4_; have GE116 := n5_; have NB114_116 := n6_; have NB116_114 := n7_; have NB115_116 := n8_; have NB116_115 := n9_; clear n0_ n1_ n2_ n3_ n4_ n5_ n6_ n7_ n8_ n9_; clear hb hbox hg; have hnb7 := NB114_115.out; have hnc7 := NB115_114.out; have hnb8 := NB114_116.out; have hnc8 := NB116_114.out; have hcz9_0 : w6.cell? ⟨gb114, 0, none⟩ = some (.int .u64 a0_0) := (blk_cell BK114.out 0).trans rfl; have hcz9_1 : w6.cell? ⟨gb114, 1, none⟩ = some (.int .u64 a0_1) := (blk_cell BK114.out 1).trans rfl; have hfz9_0 := blk_frozen BK114.out 0; have hfz9_1 := blk_frozen BK114.out 1; have hnb10 := NB115_116.out; have hnc10 := NB116_115.out; have hcz11_0 : w6.cell? ⟨gb115, 0, none⟩ = some (.int .u64 a1_0) := (blk_cell BK115.out 0).trans rfl; have hcz11_1 : w6.cell? ⟨gb115, 1, none⟩ = some (.int .u64 a1_1) := (blk_cell BK115.out 1).trans rfl; have hfz11_0 := blk_frozen BK115.out 0; have hfz11_1 := blk_frozen BK115.out 1) | ((with_reducible refine gate_callee (f := 87) rfl ?_); refine goesL_ (some 16) rfl rfl Tryd.func87 (by kernel_rfl) rfl #[.agg #[.int .u64 (Go.bits .or .u64 a0_0 a1_0), .int .u64 (Go.bits .or .u64 a0_1 a1_1)]] rfl (by (try simp only [List.map_toArray, List.map_cons, List.map_nil]); first | done | rfl | (simp only [List.length_drop, List.length_take]; rfl)) ?_; (with_reducible refine (bits_Set_plain.calls (Go.bits .or .u64 a0_0 a1_0) (Go.bits .or .u64 a0_1 a1_1) t117 t118 _ A3.out).mono ?_); rintro e w12 ⟨rfl, hb⟩; refine ⟨_, rfl, ?_⟩; have n0_ := Aside0.mk (blk_below (g := gb114) (o := .cells #[.int .u64 a0_0, .int .u64 a0_1] 24 (0, 0)) (by (with_reducible repeat (first | refine blk_drewN ?_ _ | refine blk_drew ?_ | refine blk_alloc ?_ _)); exact BK114.out) hb); have n1_ := Aside0.mk (blk_below (g := gb115) (o := .cells #[.int .u64 a1_0, .int .u64 a1_1] 24 (0, 0)) (by (with_reducible repeat (first | refine blk_drewN ?_ _ | refine blk_drew ?_ | refine blk_alloc ?_ _)); exact BK115.out) hb); have n2_ := Aside0.mk (blk_below (g := gb116) (o := .cells #[.int .u64 0, .int .u64 0] 24 (0, 0)) (by (with_reducible repeat (first | refine blk_drewN ?_ _ | refine blk_drew ?_ | refine blk_alloc ?_ _)); exact BK116.out) hb); have n3_ := Aside0.mk (below_step (by repeat (first | (with_reducible first | exact HB.out | apply below_alloc | apply pw_below_drewN | apply below_drew1 | refine below_set ?_ GE114.out | refine below_set ?_ GE115.out | refine below_set ?_ GE116.out) | exact HB.out)) hb); clear BK114; clear BK115; clear BK116; clear HB; have BK114 := n0_; have BK115 := n1_; have BK116 := n2_; have HB := n3_; clear n0_ n1_ n2_ n3_; (try clear hb); (try clear hb2); (try clear hk); (try clear hi); have hcz13_0 : w12.cell? ⟨gb116, 0, none⟩ = some (.int .u64 0) := (blk_cell BK116.out 0).trans rfl; have hcz13_1 : w12.cell? ⟨gb116, 1, none⟩ = some (.int .u64 0) := (blk_cell BK116.out 1).trans rfl; have hfz13_0 := blk_frozen BK116.out 0; have hfz13_1 := blk_frozen BK116.out 1))
  refine bodyPost_ret (results_cell_row rfl _ _ gb116 24 #[.int .u64 t117, .int .u64 t118] (0, 0) _ rfl (by (with_reducible repeat (first | refine blk_drewN ?_ _ | refine blk_drew ?_ | refine blk_alloc ?_ _)); refine blk_put (cs := #[.int .u64 t117, .int .u64 0]) ?_ 1 _ rfl; (with_reducible repeat (first | refine blk_drewN ?_ _ | refine blk_drew ?_ | refine blk_alloc ?_ _)); refine blk_put (cs := #[.int .u64 0, .int .u64 0]) ?_ 0 _ rfl; (with_reducible repeat (first | refine blk_drewN ?_ _ | refine blk_drew ?_ | refine blk_alloc ?_ _)); exact BK116.out) Tryd.underlying24 rfl (by kernel_rfl)) rfl ?_
  exact ⟨by first | rfl | (simp [errW_none, errW_some] <;> rfl) | (simp [*, errW_none, errW_some] <;> rfl), by repeat (first | (with_reducible first | exact HB.out | apply below_alloc | apply pw_below_drewN | apply below_drew1 | refine below_set ?_ GE114.out | refine below_set ?_ GE115.out | refine below_set ?_ GE116.out) | exact HB.out)⟩

end Go.Proofs.YtkbimiimgcklaaaDoor.Print
