-- Written by a program of this session (wip/gprint/gprint.py) over the kit's print; the parts marked GIVEN by hand.
import Derived.Test.YtmfbgcimfmgobaaPrint0
import Derived.Test.YtmfbgcimfmgobaaPrint1
import Derived.Test.YtmfbgcimfmgobaaPrint2
import Derived.Test.YtmfbgcimfmgobaaPrint3
import Derived.Test.YtmfbgcimfmgobaaPrint4
namespace Go.Proofs.Ytmfbgcimfmgobaa.Print
open Go.RowKit Go.Proofs.YtmfbgcimfmgobaaW.PrintWords Go.Proofs.YtmfbgcimfmgobaaW.PrintLast Go.Proofs.YtmfbgcimfmgobaaW.PrintMore
attribute [local go_sem] max2_int min2_int max_two min_two max_three min_three max_four min_four   -- for this text's walks alone
set_option linter.unusedVariables false
set_option linter.unusedSimpArgs false

/-! ### key_Cell: function 18 -/
def key_Cell.f (a0 : Int) (a1 : Int) : Option (Int) := (key_place.f a0 a1).bind fun t104 => (if t104 = 0 then (some 0) else ((key_number.f t104).bind fun t105 => (some t105)))
set_option maxHeartbeats 8000000 in
set_option maxRecDepth 100000 in
theorem key_Cell.calls (a0 : Int) (a1 : Int) (r : Int) (w : World) (h : key_Cell.f a0 a1 = some r) :
    Calls Try.prog 18 #[.int .u8 a0, .int .i64 a1] w fun e w' => e = .returned (.int .u64 r) ∧ Below w.heap.size w w' := by
  have HB := Aside0.mk (Below.refl w.heap.size w)
  have H : ((key_place.f a0 a1).bind fun t104 => (if t104 = 0 then (some 0) else ((key_number.f t104).bind fun t105 => (some t105)))) = some r := h
  clear h
  replace H := Option.bind_eq_some_iff.mp H
  obtain ⟨t104, A30, H⟩ := H
  replace H : (if t104 = 0 then (some 0) else ((key_number.f t104).bind fun t105 => (some t105))) = some r := H
  have A3 := Aside0.mk A30
  clear A30
  by_cases c4 : t104 = 0
  · rw [if_pos c4] at H
    have c4b0 : (t104 == 0) = true := beq_iff_eq.mpr c4
    have c4b1 : (t104 != 0) = false := bne_eq_false_iff_eq.mpr c4
    clear c4
    obtain rfl := Option.some.inj H
    go_enter Try.func18, Try.ntmps18
    go_wp2_with (first | ((with_reducible refine gate_callee (f := 47) rfl ?_); refine goesL_ (some 8) rfl rfl Try.func47 (by kernel_rfl) rfl #[.int .u8 a0, .int .i64 a1] rfl (by (try simp only [List.map_toArray, List.map_cons, List.map_nil]); first | done | rfl | (simp only [List.length_drop, List.length_take]; rfl)) ?_; (with_reducible refine (key_place.calls a0 a1 t104 _ A3.out).mono ?_); rintro e w' ⟨rfl, ⟨nd, rfl⟩⟩; refine ⟨_, rfl, ?_⟩))
    go_ret
    exact ⟨by first | rfl | (simp [errW_none, errW_some] <;> rfl) | (simp [*, errW_none, errW_some] <;> rfl), by repeat (first | (with_reducible first | exact HB.out | apply below_alloc | apply pw_below_drewN | apply below_drew1) | exact HB.out)⟩
  · rw [if_neg c4] at H
    have c4b0 : (t104 == 0) = false := beq_eq_false_iff_ne.mpr c4
    have c4b1 : (t104 != 0) = true := bne_iff_ne.mpr c4
    replace H := Option.bind_eq_some_iff.mp H
    obtain ⟨t105, A50, H⟩ := H
    replace H : (some t105) = some r := H
    have A5 := Aside0.mk A50
    clear A50
    obtain rfl := Option.some.inj H
    go_enter Try.func18, Try.ntmps18
    go_wp2_with (first | ((with_reducible refine gate_callee (f := 47) rfl ?_); refine goesL_ (some 8) rfl rfl Try.func47 (by kernel_rfl) rfl #[.int .u8 a0, .int .i64 a1] rfl (by (try simp only [List.map_toArray, List.map_cons, List.map_nil]); first | done | rfl | (simp only [List.length_drop, List.length_take]; rfl)) ?_; (with_reducible refine (key_place.calls a0 a1 t104 _ A3.out).mono ?_); rintro e w' ⟨rfl, ⟨nd, rfl⟩⟩; refine ⟨_, rfl, ?_⟩) | ((with_reducible refine gate_callee (f := 48) rfl ?_); refine goesL_ (some 12) rfl rfl Try.func48 (by kernel_rfl) rfl #[.int .i64 t104] rfl (by (try simp only [List.map_toArray, List.map_cons, List.map_nil]); first | done | rfl | (simp only [List.length_drop, List.length_take]; rfl)) ?_; (with_reducible refine (key_number.calls t104 t105 _ A5.out).mono ?_); rintro e w6 ⟨rfl, hb⟩; refine ⟨_, rfl, ?_⟩; have n0_ := Aside0.mk (below_step (by repeat (first | (with_reducible first | exact HB.out | apply below_alloc | apply pw_below_drewN | apply below_drew1) | exact HB.out)) hb); clear HB; have HB := n0_; clear n0_; (try clear hb); (try clear hb2); (try clear hk); (try clear hi)))
    go_ret
    exact ⟨by first | rfl | (simp [errW_none, errW_some] <;> rfl) | (simp [*, errW_none, errW_some] <;> rfl), by repeat (first | (with_reducible first | exact HB.out | apply below_alloc | apply pw_below_drewN | apply below_drew1) | exact HB.out)⟩

/-! ### riverbankref10_place: function 69 -/
def riverbankref10_place.l0 : Nat → Int → ByteArray → Int → Option (Int)
  | 0, _, _, _ => none
  | k + 1, x0, x3, x4 => if x4 < (x3.size : Int) then (if 0 ≤ x4 then (if (bt x3 x4) = x0 then (some x4) else (riverbankref10_place.l0 k x0 x3 (wrap64 (x4 + 1)))) else (none)) else (some (-1))
def riverbankref10_place.f (k : Nat) (a0 : Int) : Option (Int) := riverbankref10_place.l0 k a0 (⟨#[75, 65, 66, 78, 82, 67, 80, 107, 97, 98, 110, 114, 99, 112]⟩ : ByteArray) 0
theorem riverbankref10_place.mono_l : ∀ k, (∀ y0 y1 y2, LeO (riverbankref10_place.l0 k y0 y1 y2) (riverbankref10_place.l0 (k + 1) y0 y1 y2))
  | 0 => fun _ _ _ r h => by simp [riverbankref10_place.l0] at h
  | k + 1 => by
    have ih0 := riverbankref10_place.mono_l k
    · intro y0 y1 y2
      unfold riverbankref10_place.l0
      repeat' first
      | (with_reducible exact ih0 _ _ _)
      | (with_reducible exact LeO.refl _)
      | (with_reducible exact LeO.none _)
      | (with_reducible refine LeO.ite ?_ ?_)
      | (with_reducible refine LeO.bind ?_ (fun _ => ?_))
      | exact ih0 _ _ _
      | exact LeO.none _
      | refine LeO.ite ?_ ?_
      | refine LeO.bind ?_ (fun _ => ?_)
theorem riverbankref10_place.mono : ∀ a0 k, LeO (riverbankref10_place.f k a0) (riverbankref10_place.f (k + 1) a0) := by
  intro a0 k
  have ih0 := riverbankref10_place.mono_l k
  unfold riverbankref10_place.f
  repeat' first
      | (with_reducible exact ih0 _ _ _)
      | (with_reducible exact LeO.refl _)
      | (with_reducible exact LeO.none _)
      | (with_reducible refine LeO.ite ?_ ?_)
      | (with_reducible refine LeO.bind ?_ (fun _ => ?_))
      | exact ih0 _ _ _
      | exact LeO.none _
      | refine LeO.ite ?_ ?_
      | refine LeO.bind ?_ (fun _ => ?_)
set_option maxHeartbeats 8000000 in
set_option maxRecDepth 100000 in
theorem riverbankref10_place.calls (k : Nat) (a0 : Int) (r : Int) (w : World) (h : riverbankref10_place.f k a0 = some r) :
    Calls Try.prog 69 #[.int .u8 a0] w fun e w' => e = .returned (.int .i64 r) ∧ Drawn0 w w' := by
  have H : (riverbankref10_place.l0 k a0 (⟨#[75, 65, 66, 78, 82, 67, 80, 107, 97, 98, 110, 114, 99, 112]⟩ : ByteArray) 0) = some r := h
  clear h
  have H' := Aside0.mk H
  clear H
  go_enter Try.func69, Try.ntmps69
  go_wp2
  go_loopg [4] k (fun kq v4 w' => ∃ (x4_1 : Int), v4 = .int .i64 x4_1 ∧ Aside0 (riverbankref10_place.l0 kq a0 (⟨#[75, 65, 66, 78, 82, 67, 80, 107, 97, 98, 110, 114, 99, 112]⟩ : ByteArray) x4_1 = some r) ∧ Aside0 (kq ≤ k) ∧ Drawn0 w w')
  case atStart => exact ⟨(0), (by first | rfl | (simp; done) | (simp [*]; done)), H', ⟨Nat.le_refl _⟩, by repeat (first | exact Drawn0.refl _ | apply Drawn0.step)⟩
  case round =>
    clear H'
    obtain ⟨x4_1, rfl, HA, HK1, ⟨m1, rfl⟩⟩ := hrel
    cases gk with
    | zero => exact absurd HA.out (by simp [riverbankref10_place.l0])
    | succ k1 =>
      have H := HA.out
      clear HA
      simp only [riverbankref10_place.l0] at H
      by_cases c2 : x4_1 < ((⟨#[75, 65, 66, 78, 82, 67, 80, 107, 97, 98, 110, 114, 99, 112]⟩ : ByteArray).size : Int)
      · rw [if_pos c2] at H
        have c2b0 : decide (x4_1 < (14 : Int)) = true := decide_eq_true c2
        clear c2
        by_cases c3 : 0 ≤ x4_1
        · rw [if_pos c3] at H
          have c3b0 : decide (0 ≤ x4_1) = true := decide_eq_true c3
          clear c3
          by_cases c5 : (bt (⟨#[75, 65, 66, 78, 82, 67, 80, 107, 97, 98, 110, 114, 99, 112]⟩ : ByteArray) x4_1) = a0
          · rw [if_pos c5] at H
            have c5b0 : ((bt (⟨#[75, 65, 66, 78, 82, 67, 80, 107, 97, 98, 110, 114, 99, 112]⟩ : ByteArray) x4_1) == a0) = true := beq_iff_eq.mpr c5
            have c5b1 : ((bt (⟨#[75, 65, 66, 78, 82, 67, 80, 107, 97, 98, 110, 114, 99, 112]⟩ : ByteArray) x4_1) != a0) = false := bne_eq_false_iff_eq.mpr c5
            clear c5
            obtain rfl := Option.some.inj H
            have p4 : 0 ≤ (x4_1 : Int) := of_decide_eq_true (by first | (with_reducible assumption) | assumption)
            have q4 : x4_1 < (14 : Int) := of_decide_eq_true (by first | (with_reducible assumption) | assumption)
            have hx4 := bt_at (⟨#[75, 65, 66, 78, 82, 67, 80, 107, 97, 98, 110, 114, 99, 112]⟩ : ByteArray) x4_1
            replace p4 := eq_true p4
            replace q4 := eq_true q4
            go_wp2
            go_ret
            exact ⟨by first | rfl | (simp; done) | (simp [*]; done), by repeat (first | exact Drawn0.refl _ | apply Drawn0.step)⟩
          · rw [if_neg c5] at H
            have c5b0 : ((bt (⟨#[75, 65, 66, 78, 82, 67, 80, 107, 97, 98, 110, 114, 99, 112]⟩ : ByteArray) x4_1) == a0) = false := beq_eq_false_iff_ne.mpr c5
            have c5b1 : ((bt (⟨#[75, 65, 66, 78, 82, 67, 80, 107, 97, 98, 110, 114, 99, 112]⟩ : ByteArray) x4_1) != a0) = true := bne_iff_ne.mpr c5
            have H' := Aside0.mk H
            clear H
            have p4 : 0 ≤ (x4_1 : Int) := of_decide_eq_true (by first | (with_reducible assumption) | assumption)
            have q4 : x4_1 < (14 : Int) := of_decide_eq_true (by first | (with_reducible assumption) | assumption)
            have hx4 := bt_at (⟨#[75, 65, 66, 78, 82, 67, 80, 107, 97, 98, 110, 114, 99, 112]⟩ : ByteArray) x4_1
            replace p4 := eq_true p4
            replace q4 := eq_true q4
            go_wp2
            go_roundg k1
            case measure => have := HK1.out; omega
            case rel => exact ⟨(wrap64 (x4_1 + 1)), (by first | rfl | (simp; done) | (simp [*]; done)), H', ⟨by have := HK1.out; omega⟩, by repeat (first | exact Drawn0.refl _ | apply Drawn0.step)⟩
        · rw [if_neg c3] at H
          exact absurd H (by simp)
      · rw [if_neg c2] at H
        have c2b0 : decide (x4_1 < (14 : Int)) = false := decide_eq_false c2
        clear c2
        obtain rfl := Option.some.inj H
        go_wp2
        go_ret
        exact ⟨by first | rfl | (simp; done) | (simp [*]; done), by repeat (first | exact Drawn0.refl _ | apply Drawn0.step)⟩

/-! ### riverbankref10_cell: function 49 -/
def riverbankref10_cell.f (k : Nat) (l0 : List Int) (a1 : Int) (a2 : Int) : Option (Int) := (riverbankref10_place.f k a1).bind fun t106 => (if t106 < 0 then (some 0) else (if a2 < 0 then (some 0) else (if a2 > 89 then (some 0) else (if 0 ≤ (wrap64 ((wrap64 (1 + (wrap64 (90 * t106)))) + a2)) then (if (wrap64 ((wrap64 (1 + (wrap64 (90 * t106)))) + a2)) < (l0.length : Int) then (some (rd l0 (wrap64 ((wrap64 (1 + (wrap64 (90 * t106)))) + a2)))) else (none)) else (none)))))
theorem riverbankref10_cell.mono : ∀ a0 a1 a2 k, LeO (riverbankref10_cell.f k a0 a1 a2) (riverbankref10_cell.f (k + 1) a0 a1 a2) := by
  intro a0 a1 a2 k
  unfold riverbankref10_cell.f
  repeat' first
      | (with_reducible exact riverbankref10_place.mono _ _)
      | (with_reducible exact LeO.refl _)
      | (with_reducible exact LeO.none _)
      | (with_reducible refine LeO.ite ?_ ?_)
      | (with_reducible refine LeO.bind ?_ (fun _ => ?_))
      | exact riverbankref10_place.mono _ _
      | exact LeO.none _
      | refine LeO.ite ?_ ?_
      | refine LeO.bind ?_ (fun _ => ?_)
set_option maxHeartbeats 8000000 in
set_option maxRecDepth 100000 in
theorem riverbankref10_cell.calls (k : Nat) (A0 : Option Addr) (c0 : Nat) (l0 : List Int) (a1 : Int) (a2 : Int) (r : Int) (w : World) (hr0 : Kd.C (Kd.int .u64) w A0 l0.length l0) (hc0 : l0.length ≤ c0) (h : riverbankref10_cell.f k l0 a1 a2 = some r) :
    Calls Try.prog 49 #[.slice A0 l0.length c0, .int .u8 a1, .int .i64 a2] w fun e w' => e = .returned (.int .u64 r) ∧ Drawn0 w w' := by
  have HR0 := Aside0.mk hr0
  have HC0 := Aside0.mk hc0
  clear hr0 hc0
  have H : ((riverbankref10_place.f k a1).bind fun t106 => (if t106 < 0 then (some 0) else (if a2 < 0 then (some 0) else (if a2 > 89 then (some 0) else (if 0 ≤ (wrap64 ((wrap64 (1 + (wrap64 (90 * t106)))) + a2)) then (if (wrap64 ((wrap64 (1 + (wrap64 (90 * t106)))) + a2)) < (l0.length : Int) then (some (rd l0 (wrap64 ((wrap64 (1 + (wrap64 (90 * t106)))) + a2)))) else (none)) else (none)))))) = some r := h
  clear h
  replace H := Option.bind_eq_some_iff.mp H
  obtain ⟨t106, A40, H⟩ := H
  replace H : (if t106 < 0 then (some 0) else (if a2 < 0 then (some 0) else (if a2 > 89 then (some 0) else (if 0 ≤ (wrap64 ((wrap64 (1 + (wrap64 (90 * t106)))) + a2)) then (if (wrap64 ((wrap64 (1 + (wrap64 (90 * t106)))) + a2)) < (l0.length : Int) then (some (rd l0 (wrap64 ((wrap64 (1 + (wrap64 (90 * t106)))) + a2)))) else (none)) else (none))))) = some r := H
  have A4 := Aside0.mk A40
  clear A40
  by_cases c5 : t106 < 0
  · rw [if_pos c5] at H
    have c5b0 : decide (t106 < 0) = true := decide_eq_true c5
    clear c5
    obtain rfl := Option.some.inj H
    go_enter Try.func49, Try.ntmps49
    go_wp2_with (first | ((with_reducible refine gate_callee (f := 69) rfl ?_); refine goesL_ (some 9) rfl rfl Try.func69 (by kernel_rfl) rfl #[.int .u8 a1] rfl (by (try simp only [List.map_toArray, List.map_cons, List.map_nil]); first | done | rfl | (simp only [List.length_drop, List.length_take]; rfl)) ?_; (with_reducible refine (riverbankref10_place.calls k a1 t106 _ A4.out).mono ?_); rintro e w' ⟨rfl, ⟨nd, rfl⟩⟩; refine ⟨_, rfl, ?_⟩))
    go_ret
    exact ⟨by first | rfl | (simp; done) | (simp [*]; done), by repeat (first | exact Drawn0.refl _ | apply Drawn0.step)⟩
  · rw [if_neg c5] at H
    have c5b0 : decide (t106 < 0) = false := decide_eq_false c5
    clear c5
    by_cases c6 : a2 < 0
    · rw [if_pos c6] at H
      have c6b0 : decide (a2 < 0) = true := decide_eq_true c6
      clear c6
      obtain rfl := Option.some.inj H
      go_enter Try.func49, Try.ntmps49
      go_wp2_with (first | ((with_reducible refine gate_callee (f := 69) rfl ?_); refine goesL_ (some 9) rfl rfl Try.func69 (by kernel_rfl) rfl #[.int .u8 a1] rfl (by (try simp only [List.map_toArray, List.map_cons, List.map_nil]); first | done | rfl | (simp only [List.length_drop, List.length_take]; rfl)) ?_; (with_reducible refine (riverbankref10_place.calls k a1 t106 _ A4.out).mono ?_); rintro e w' ⟨rfl, ⟨nd, rfl⟩⟩; refine ⟨_, rfl, ?_⟩))
      go_ret
      exact ⟨by first | rfl | (simp; done) | (simp [*]; done), by repeat (first | exact Drawn0.refl _ | apply Drawn0.step)⟩
    · rw [if_neg c6] at H
      have c6b0 : decide (a2 < 0) = false := decide_eq_false c6
      clear c6
      by_cases c7 : a2 > 89
      · rw [if_pos c7] at H
        have c7b0 : decide (89 < a2) = true := decide_eq_true c7
        clear c7
        obtain rfl := Option.some.inj H
        go_enter Try.func49, Try.ntmps49
        go_wp2_with (first | ((with_reducible refine gate_callee (f := 69) rfl ?_); refine goesL_ (some 9) rfl rfl Try.func69 (by kernel_rfl) rfl #[.int .u8 a1] rfl (by (try simp only [List.map_toArray, List.map_cons, List.map_nil]); first | done | rfl | (simp only [List.length_drop, List.length_take]; rfl)) ?_; (with_reducible refine (riverbankref10_place.calls k a1 t106 _ A4.out).mono ?_); rintro e w' ⟨rfl, ⟨nd, rfl⟩⟩; refine ⟨_, rfl, ?_⟩))
        go_ret
        exact ⟨by first | rfl | (simp; done) | (simp [*]; done), by repeat (first | exact Drawn0.refl _ | apply Drawn0.step)⟩
      · rw [if_neg c7] at H
        have c7b0 : decide (89 < a2) = false := decide_eq_false c7
        clear c7
        obtain ⟨ji8, hji8⟩ : ∃ j_ : Int, (wrap64 ((wrap64 (1 + (wrap64 (90 * t106)))) + a2)) = j_ := ⟨_, rfl⟩
        replace H : (if 0 ≤ (ji8) then (if (ji8) < (l0.length : Int) then (some (rd l0 (ji8))) else (none)) else (none)) = some r := by first | (rw [hji8] at H; exact H) | (simp only [hji8] at H ⊢; exact H)
        (try rw [hji8] at A4)
        have hji8w : (IntKind.i64.wrap ((wrap64 (1 + (wrap64 (90 * t106)))) + a2)) = ji8 := (i64_w _).trans hji8
        by_cases c9 : 0 ≤ (ji8)
        · rw [if_pos c9] at H
          have c9b0 : decide (0 ≤ (ji8)) = true := decide_eq_true c9
          clear c9
          by_cases c10 : (ji8) < (l0.length : Int)
          · rw [if_pos c10] at H
            have c10b0 : decide ((ji8) < (l0.length : Int)) = true := decide_eq_true c10
            clear c10
            obtain rfl := Option.some.inj H
            go_enter Try.func49, Try.ntmps49
            go_wp2_with (first | ((with_reducible refine gate_callee (f := 69) rfl ?_); refine goesL_ (some 9) rfl rfl Try.func69 (by kernel_rfl) rfl #[.int .u8 a1] rfl (by (try simp only [List.map_toArray, List.map_cons, List.map_nil]); first | done | rfl | (simp only [List.length_drop, List.length_take]; rfl)) ?_; (with_reducible refine (riverbankref10_place.calls k a1 t106 _ A4.out).mono ?_); rintro e w' ⟨rfl, ⟨nd, rfl⟩⟩; refine ⟨_, rfl, ?_⟩; have p107 : 0 ≤ ((ji8) : Int) := of_decide_eq_true (by first | (with_reducible assumption) | assumption); have q107 : (ji8) < (l0.length : Int) := of_decide_eq_true (by first | (with_reducible assumption) | assumption); obtain ⟨ad107, e107, hx107_0⟩ := Kd.at_int HR0.out (ji8) p107 q107; cases e107; replace p107 := eq_true p107; replace q107 := eq_true q107))
            go_ret
            exact ⟨by first | rfl | (simp; done) | (simp only [← hji8] <;> (first | rfl | simp)) | (simp [*]; done), by repeat (first | exact Drawn0.refl _ | apply Drawn0.step)⟩
          · rw [if_neg c10] at H
            exact absurd H (by simp)
        · rw [if_neg c9] at H
          exact absurd H (by simp)

/-! ### riverbankref10_Row: function 50 -/
def riverbankref10_Row.l0 : Nat → Int → Int → List Int → Int → Option (List Int)
  | 0, _, _, _, _ => none
  | k + 1, x0, x3, x4, x5 => if x5 < x0 then (if x4.length < 17592186044416 then ((riverbankref10_Next.f x3).bind fun t111 => (riverbankref10_Row.l0 k x0 t111 (x4 ++ [x3]) (wrap64 (x5 + 1)))) else (none)) else (some x4)
def riverbankref10_Row.f (k : Nat) (a0 : Int) : Option (List Int) := riverbankref10_Row.l0 k a0 7640891576956012809 ([] : List Int) 0
theorem riverbankref10_Row.mono_l : ∀ k, (∀ y0 y1 y2 y3, LeO (riverbankref10_Row.l0 k y0 y1 y2 y3) (riverbankref10_Row.l0 (k + 1) y0 y1 y2 y3))
  | 0 => fun _ _ _ _ r h => by simp [riverbankref10_Row.l0] at h
  | k + 1 => by
    have ih0 := riverbankref10_Row.mono_l k
    · intro y0 y1 y2 y3
      unfold riverbankref10_Row.l0
      repeat' first
      | (with_reducible exact ih0 _ _ _ _)
      | (with_reducible exact LeO.refl _)
      | (with_reducible exact LeO.none _)
      | (with_reducible refine LeO.ite ?_ ?_)
      | (with_reducible refine LeO.bind ?_ (fun _ => ?_))
      | exact ih0 _ _ _ _
      | exact LeO.none _
      | refine LeO.ite ?_ ?_
      | refine LeO.bind ?_ (fun _ => ?_)
theorem riverbankref10_Row.mono : ∀ a0 k, LeO (riverbankref10_Row.f k a0) (riverbankref10_Row.f (k + 1) a0) := by
  intro a0 k
  have ih0 := riverbankref10_Row.mono_l k
  unfold riverbankref10_Row.f
  repeat' first
      | (with_reducible exact ih0 _ _ _ _)
      | (with_reducible exact LeO.refl _)
      | (with_reducible exact LeO.none _)
      | (with_reducible refine LeO.ite ?_ ?_)
      | (with_reducible refine LeO.bind ?_ (fun _ => ?_))
      | exact ih0 _ _ _ _
      | exact LeO.none _
      | refine LeO.ite ?_ ?_
      | refine LeO.bind ?_ (fun _ => ?_)
set_option maxHeartbeats 8000000 in
set_option maxRecDepth 100000 in
theorem riverbankref10_Row.calls (k : Nat) (a0 : Int) (r : List Int) (w : World) (h : riverbankref10_Row.f k a0 = some r) :
    Calls Try.prog 50 #[.int .i64 a0] w fun e w' => ∃ v0_ : Value, e = .returned (v0_) ∧ Kd.R (Kd.int .u64) 22 w' w.heap.size (fun _ => True) v0_ r ∧ Below w.heap.size w w' := by
  have HB := Aside0.mk (Below.refl w.heap.size w)
  have H : (riverbankref10_Row.l0 k a0 7640891576956012809 ([] : List Int) 0) = some r := h
  clear h
  have H' := Aside0.mk H
  clear H
  go_enter Try.func50, Try.ntmps50
  go_wp2
  go_loopg [3, 4, 5] k (fun kq v3 v4 v5 w' => ∃ (x3_1 : Int) (x4_1 : List Int) (x5_1 : Int), v3 = .int .u64 x3_1 ∧ v5 = .int .i64 x5_1 ∧ Aside0 (riverbankref10_Row.l0 kq a0 x3_1 x4_1 x5_1 = some r) ∧ Aside0 (kq ≤ k) ∧ Aside0 (Kd.R (Kd.int .u64) 22 w' w.heap.size (fun _ => True) v4 x4_1) ∧ Aside0 (Below w.heap.size w w'))
  case atStart => exact ⟨(7640891576956012809), (([] : List Int)), (0), (by first | rfl | (simp; done) | (simp [*]; done)), (by first | rfl | (simp; done) | (simp [*]; done)), H', ⟨Nat.le_refl _⟩, ⟨by first | exact Kd.R_nil _ _ _ _ _ | exact Kd.N_nil _ _ _ _ _ | exact Kd.V_nil _ _ _ _ _ | exact Kd.Q_nil _ _ _ _ _ | exact Kd.S_nil _ _ _ _ _⟩, ⟨by repeat (first | (with_reducible first | exact HB.out | apply below_alloc | apply pw_below_drewN | apply below_drew1) | exact HB.out)⟩⟩
  case round =>
    clear H'
    obtain ⟨x3_1, x4_1, x5_1, rfl, rfl, HA, HK1, HO_4, HB⟩ := hrel
    cases gk with
    | zero => exact absurd HA.out (by simp [riverbankref10_Row.l0])
    | succ k1 =>
      have H := HA.out
      clear HA
      simp only [riverbankref10_Row.l0] at H
      by_cases c2 : x5_1 < a0
      · rw [if_pos c2] at H
        have c2b0 : decide (x5_1 < a0) = true := decide_eq_true c2
        clear c2
        by_cases c3 : x4_1.length < 17592186044416
        · rw [if_pos c3] at H
          have LMc3 := Aside0.mk c3
          clear c3
          obtain ⟨y108, hy108⟩ : ∃ y_ : List Int, y_ = (x4_1 ++ [x3_1]) := ⟨_, rfl⟩
          replace H : ((riverbankref10_Next.f x3_1).bind fun t111 => (riverbankref10_Row.l0 k1 a0 t111 y108 (wrap64 (x5_1 + 1)))) = some r := by first | (rw [hy108]; with_reducible exact H) | (have H2_ := (Option.bind_some _ _).symm.trans H; rw [hy108]; with_reducible exact H2_) | (have H2_ := (Option.bind_some _ _).symm.trans H; with_reducible exact H2_) | with_reducible exact H | (rw [hy108]; exact H) | exact H
          have Ny108 := Aside0.mk hy108
          clear hy108
          replace H := Option.bind_eq_some_iff.mp H
          obtain ⟨t111, A40, H⟩ := H
          replace H : (riverbankref10_Row.l0 k1 a0 t111 y108 (wrap64 (x5_1 + 1))) = some r := H
          have A4 := Aside0.mk A40
          clear A40
          have H' := Aside0.mk H
          clear H
          go_wp2_with (first | ((with_reducible refine gate_builtin (b := .append) (xs := #[.tmp 11, .tmp 13]) rfl ?_); at_builtin; refine Kd.R_append (Kd.int .u64) (w0 := w) w.heap.size rfl (.tmp 11) (.tmp 13) 64 22 (.int .u64 0) 8 rfl Try.underlying64 info22 rfl (by decide) (by omega) u4 x4_1 x3_1 [.int .u64 x3_1] (fun _ => True) (fun _ => False) rfl rfl ?aP (fun _ hk => hk.elim) ?aF ?aO ?aB ?aS ?aL ?_; (case aP => exact rfl); (case aB => exact (by repeat (first | (with_reducible first | exact HB.out | apply below_alloc | apply pw_below_drewN | apply below_drew1) | exact HB.out))); (case aF => exact (fun _ _ => trivial)); (case aO => exact (by (with_reducible repeat (first | apply Kd.R_alloc | apply Kd.R_drewN | apply Kd.R_drew)); exact HO_4.out)); (case aS => exact (below_size (by repeat (first | (with_reducible first | exact HB.out | apply below_alloc | apply pw_below_drewN | apply below_drew1) | exact HB.out)))); (case aL => have := LMc3.out; omega); intro v109 w5 ho hb hg hat; rw [← Ny108.out] at ho; have n0_ := Aside0.mk (hb); have n1_ := Aside0.mk (ho); clear HB; clear HO_4; have HB := n0_; have HO110 := n1_; clear n0_ n1_; clear ho hb hg hat) | ((with_reducible refine gate_callee (f := 17) rfl ?_); refine goesL_ (some 16) rfl rfl Try.func17 (by kernel_rfl) rfl #[.int .u64 x3_1] rfl (by (try simp only [List.map_toArray, List.map_cons, List.map_nil]); first | done | rfl | (simp only [List.length_drop, List.length_take]; rfl)) ?_; (with_reducible refine (riverbankref10_Next.calls x3_1 t111 _ A4.out).mono ?_); rintro e w' ⟨rfl, ⟨nd, rfl⟩⟩; refine ⟨_, rfl, ?_⟩))
          go_roundg k1
          case measure => have := HK1.out; omega
          case rel => exact ⟨(t111), (y108), (wrap64 (x5_1 + 1)), (by first | rfl | (simp; done) | (simp [*]; done)), (by first | rfl | (simp; done) | (simp [*]; done)), H', ⟨by have := HK1.out; omega⟩, ⟨by (with_reducible repeat (first | apply Kd.R_alloc | apply Kd.R_drewN | apply Kd.R_drew)); exact HO110.out⟩, ⟨by repeat (first | (with_reducible first | exact HB.out | apply below_alloc | apply pw_below_drewN | apply below_drew1) | exact HB.out)⟩⟩
        · rw [if_neg c3] at H
          exact absurd H (by simp)
      · rw [if_neg c2] at H
        have c2b0 : decide (x5_1 < a0) = false := decide_eq_false c2
        clear c2
        obtain rfl := Option.some.inj H
        go_wp2
        go_ret
        exact ⟨_, by first | rfl | (simp [errW_none, errW_some] <;> rfl) | (simp [*, errW_none, errW_some] <;> rfl), by (with_reducible repeat (first | apply Kd.R_alloc | apply Kd.R_drewN | apply Kd.R_drew)); exact HO_4.out, by repeat (first | (with_reducible first | exact HB.out | apply below_alloc | apply pw_below_drewN | apply below_drew1) | exact HB.out)⟩

/-! ### riverbankref10_Cell: function 19 -/
def riverbankref10_Cell.f (k : Nat) (a0 : Int) (a1 : Int) : Option (Int) := (riverbankref10_Row.f k 1262).bind fun t112 => ((riverbankref10_cell.f k t112 a0 a1).bind fun t115 => (some t115))
theorem riverbankref10_Cell.mono : ∀ a0 a1 k, LeO (riverbankref10_Cell.f k a0 a1) (riverbankref10_Cell.f (k + 1) a0 a1) := by
  intro a0 a1 k
  unfold riverbankref10_Cell.f
  repeat' first
      | (with_reducible exact riverbankref10_Row.mono _ _)
      | (with_reducible exact riverbankref10_cell.mono _ _ _ _)
      | (with_reducible exact LeO.refl _)
      | (with_reducible exact LeO.none _)
      | (with_reducible refine LeO.ite ?_ ?_)
      | (with_reducible refine LeO.bind ?_ (fun _ => ?_))
      | exact riverbankref10_Row.mono _ _
      | exact riverbankref10_cell.mono _ _ _ _
      | exact LeO.none _
      | refine LeO.ite ?_ ?_
      | refine LeO.bind ?_ (fun _ => ?_)
set_option maxHeartbeats 8000000 in
set_option maxRecDepth 100000 in
theorem riverbankref10_Cell.calls (k : Nat) (a0 : Int) (a1 : Int) (r : Int) (w : World) (h : riverbankref10_Cell.f k a0 a1 = some r) :
    Calls Try.prog 19 #[.int .u8 a0, .int .i64 a1] w fun e w' => e = .returned (.int .u64 r) ∧ Below w.heap.size w w' := by
  have HB := Aside0.mk (Below.refl w.heap.size w)
  have H : ((riverbankref10_Row.f k 1262).bind fun t112 => ((riverbankref10_cell.f k t112 a0 a1).bind fun t115 => (some t115))) = some r := h
  clear h
  replace H := Option.bind_eq_some_iff.mp H
  obtain ⟨t112, A30, H⟩ := H
  replace H : ((riverbankref10_cell.f k t112 a0 a1).bind fun t115 => (some t115)) = some r := H
  have A3 := Aside0.mk A30
  clear A30
  replace H := Option.bind_eq_some_iff.mp H
  obtain ⟨t115, A40, H⟩ := H
  replace H : (some t115) = some r := H
  have A4 := Aside0.mk A40
  clear A40
  obtain rfl := Option.some.inj H
  go_enter Try.func19, Try.ntmps19
  go_wp2_with (first | ((with_reducible refine gate_callee (f := 50) rfl ?_); refine goesL_ (some 5) rfl rfl Try.func50 (by kernel_rfl) rfl #[.int .i64 1262] rfl (by (try simp only [List.map_toArray, List.map_cons, List.map_nil]); first | done | rfl | (simp only [List.length_drop, List.length_take]; rfl)) ?_; (with_reducible refine (riverbankref10_Row.calls k 1262 t112 _ A3.out).mono ?_); rintro e w5 ⟨v113, rfl, ho0, hb⟩; refine ⟨_, rfl, ?_⟩; have n0_ := Aside0.mk (Kd.R_lower ho0 (below_size (by repeat (first | (with_reducible first | exact HB.out | apply below_alloc | apply pw_below_drewN | apply below_drew1) | exact HB.out)))); have n1_ := Aside0.mk (below_step (by repeat (first | (with_reducible first | exact HB.out | apply below_alloc | apply pw_below_drewN | apply below_drew1) | exact HB.out)) hb); clear HB; have HO114 := n0_; have HB := n1_; clear n0_ n1_; (try clear hb); (try clear hb2); (try clear hk); (try clear hi); (try clear ho0); obtain ⟨Ao6, co6, eo6⟩ := Kd.R_slice HO114.out; subst eo6) | ((with_reducible refine gate_callee (f := 49) rfl ?_); refine goesL_ (some 8) rfl rfl Try.func49 (by kernel_rfl) rfl #[.slice Ao6 t112.length co6, .int .u8 a0, .int .i64 a1] rfl (by (try simp only [List.map_toArray, List.map_cons, List.map_nil]); first | done | rfl | (simp only [List.length_drop, List.length_take]; rfl)) ?_; (with_reducible refine (riverbankref10_cell.calls k _ _ t112 a0 a1 t115 _ ?side1 ?side2 A4.out).mono ?_); (case side1 => repeat (first | exact (Kd.R_reads' HO114.out).2.2 | (with_reducible refine Kd.C_alloc ?_ _) | (with_reducible refine Kd.C_drewN ?_ _) | (with_reducible refine Kd.C_drew ?_))); (case side2 => exact (Kd.R_reads' HO114.out).2.1); rintro e w' ⟨rfl, ⟨nd, rfl⟩⟩; refine ⟨_, rfl, ?_⟩))
  go_ret
  exact ⟨by first | rfl | (simp [errW_none, errW_some] <;> rfl) | (simp [*, errW_none, errW_some] <;> rfl), by repeat (first | (with_reducible first | exact HB.out | apply below_alloc | apply pw_below_drewN | apply below_drew1) | exact HB.out)⟩

/-! ### key_Turn: function 20 -/
def key_Turn.f  : Option (Int) := (key_number.f 1261).bind fun t116 => (some t116)
set_option maxHeartbeats 8000000 in
set_option maxRecDepth 100000 in
theorem key_Turn.calls  (r : Int) (w : World) (h : key_Turn.f  = some r) :
    Calls Try.prog 20 #[] w fun e w' => e = .returned (.int .u64 r) ∧ Below w.heap.size w w' := by
  have HB := Aside0.mk (Below.refl w.heap.size w)
  have H : ((key_number.f 1261).bind fun t116 => (some t116)) = some r := h
  clear h
  replace H := Option.bind_eq_some_iff.mp H
  obtain ⟨t116, A10, H⟩ := H
  replace H : (some t116) = some r := H
  have A1 := Aside0.mk A10
  clear A10
  obtain rfl := Option.some.inj H
  go_enter Try.func20, Try.ntmps20
  go_wp2_with (first | ((with_reducible refine gate_callee (f := 48) rfl ?_); refine goesL_ (some 1) rfl rfl Try.func48 (by kernel_rfl) rfl #[.int .i64 1261] rfl (by (try simp only [List.map_toArray, List.map_cons, List.map_nil]); first | done | rfl | (simp only [List.length_drop, List.length_take]; rfl)) ?_; (with_reducible refine (key_number.calls 1261 t116 _ A1.out).mono ?_); rintro e w2 ⟨rfl, hb⟩; refine ⟨_, rfl, ?_⟩; have n0_ := Aside0.mk (below_step (by repeat (first | (with_reducible first | exact HB.out | apply below_alloc | apply pw_below_drewN | apply below_drew1) | exact HB.out)) hb); clear HB; have HB := n0_; clear n0_; (try clear hb); (try clear hb2); (try clear hk); (try clear hi)))
  go_ret
  exact ⟨by first | rfl | (simp [errW_none, errW_some] <;> rfl) | (simp [*, errW_none, errW_some] <;> rfl), by repeat (first | (with_reducible first | exact HB.out | apply below_alloc | apply pw_below_drewN | apply below_drew1) | exact HB.out)⟩

/-! ### riverbankref10_Turn: function 21 -/
def riverbankref10_Turn.f (k : Nat)  : Option (Int) := (riverbankref10_Row.f k 1262).bind fun t117 => (if 1261 < (t117.length : Int) then (some (rd t117 1261)) else (none))
theorem riverbankref10_Turn.mono : ∀ k, LeO (riverbankref10_Turn.f k ) (riverbankref10_Turn.f (k + 1) ) := by
  intro  k
  unfold riverbankref10_Turn.f
  repeat' first
      | (with_reducible exact riverbankref10_Row.mono _ _)
      | (with_reducible exact LeO.refl _)
      | (with_reducible exact LeO.none _)
      | (with_reducible refine LeO.ite ?_ ?_)
      | (with_reducible refine LeO.bind ?_ (fun _ => ?_))
      | exact riverbankref10_Row.mono _ _
      | exact LeO.none _
      | refine LeO.ite ?_ ?_
      | refine LeO.bind ?_ (fun _ => ?_)
set_option maxHeartbeats 8000000 in
set_option maxRecDepth 100000 in
theorem riverbankref10_Turn.calls (k : Nat)  (r : Int) (w : World) (h : riverbankref10_Turn.f k  = some r) :
    Calls Try.prog 21 #[] w fun e w' => e = .returned (.int .u64 r) ∧ Below w.heap.size w w' := by
  have HB := Aside0.mk (Below.refl w.heap.size w)
  have H : ((riverbankref10_Row.f k 1262).bind fun t117 => (if 1261 < (t117.length : Int) then (some (rd t117 1261)) else (none))) = some r := h
  clear h
  replace H := Option.bind_eq_some_iff.mp H
  obtain ⟨t117, A10, H⟩ := H
  replace H : (if 1261 < (t117.length : Int) then (some (rd t117 1261)) else (none)) = some r := H
  have A1 := Aside0.mk A10
  clear A10
  by_cases c2 : 1261 < (t117.length : Int)
  · rw [if_pos c2] at H
    have c2b0 : decide (1261 < (t117.length : Int)) = true := decide_eq_true c2
    have c2b1 : decide (1261 < t117.length) = true := decide_eq_true (by omega)
    clear c2
    obtain rfl := Option.some.inj H
    go_enter Try.func21, Try.ntmps21
    go_wp2_with (first | ((with_reducible refine gate_callee (f := 50) rfl ?_); refine goesL_ (some 1) rfl rfl Try.func50 (by kernel_rfl) rfl #[.int .i64 1262] rfl (by (try simp only [List.map_toArray, List.map_cons, List.map_nil]); first | done | rfl | (simp only [List.length_drop, List.length_take]; rfl)) ?_; (with_reducible refine (riverbankref10_Row.calls k 1262 t117 _ A1.out).mono ?_); rintro e w3 ⟨v118, rfl, ho0, hb⟩; refine ⟨_, rfl, ?_⟩; have n0_ := Aside0.mk (Kd.R_lower ho0 (below_size (by repeat (first | (with_reducible first | exact HB.out | apply below_alloc | apply pw_below_drewN | apply below_drew1) | exact HB.out)))); have n1_ := Aside0.mk (below_step (by repeat (first | (with_reducible first | exact HB.out | apply below_alloc | apply pw_below_drewN | apply below_drew1) | exact HB.out)) hb); clear HB; have HO119 := n0_; have HB := n1_; clear n0_ n1_; (try clear hb); (try clear hb2); (try clear hk); (try clear hi); (try clear ho0); obtain ⟨Ao4, co4, eo4⟩ := Kd.R_slice HO119.out; subst eo4; have p120 : 0 ≤ (1261 : Int) := (by omega); have q120 : 1261 < (t117.length : Int) := of_decide_eq_true (by first | (with_reducible assumption) | assumption); obtain ⟨ad120, e120, hx120_0⟩ := Kd.at_int (Kd.R_reads' HO119.out).2.2 1261 p120 q120; cases e120; (try simp only [show (1261 : Int).toNat = 1261 from rfl, Nat.reduceMul, Nat.reduceEqDiff, Go.Addr.add, ↓reduceIte] at hx120_0); have qi120 : (1261 < t117.length) = True := eq_true (by omega); (try rw [show ((1261 : Int)).toNat = 1261 from rfl] at hx120_0); replace p120 := eq_true p120; replace q120 := eq_true q120))
    go_ret
    exact ⟨by first | rfl | (simp [errW_none, errW_some] <;> rfl) | (simp [*, errW_none, errW_some] <;> rfl), by repeat (first | (with_reducible first | exact HB.out | apply below_alloc | apply pw_below_drewN | apply below_drew1) | exact HB.out)⟩
  · rw [if_neg c2] at H
    exact absurd H (by simp)

-- NOT PRINTED: function 82 (strings_indexFunc)

-- NOT PRINTED: function 64 (strings_IndexFunc)

/-! ### board_Side: function 43 -/
def board_Side.f (a0 : Int) : Option (Int) := (strings_IndexByte.f (⟨#[75, 65, 66, 78, 82, 67, 80]⟩ : ByteArray) a0).bind fun t121 => (if t121 ≥ 0 then (some 0) else ((strings_IndexByte.f (⟨#[107, 97, 98, 110, 114, 99, 112]⟩ : ByteArray) a0).bind fun t122 => (if t122 ≥ 0 then (some 1) else (some (-1)))))
set_option maxHeartbeats 8000000 in
set_option maxRecDepth 100000 in
theorem board_Side.calls (a0 : Int) (r : Int) (w : World) (h : board_Side.f a0 = some r) :
    Calls Try.prog 43 #[.int .u8 a0] w fun e w' => e = .returned (.int .i64 r) ∧ Drawn0 w w' := by
  have H : ((strings_IndexByte.f (⟨#[75, 65, 66, 78, 82, 67, 80]⟩ : ByteArray) a0).bind fun t121 => (if t121 ≥ 0 then (some 0) else ((strings_IndexByte.f (⟨#[107, 97, 98, 110, 114, 99, 112]⟩ : ByteArray) a0).bind fun t122 => (if t122 ≥ 0 then (some 1) else (some (-1)))))) = some r := h
  clear h
  replace H := Option.bind_eq_some_iff.mp H
  obtain ⟨t121, A20, H⟩ := H
  replace H : (if t121 ≥ 0 then (some 0) else ((strings_IndexByte.f (⟨#[107, 97, 98, 110, 114, 99, 112]⟩ : ByteArray) a0).bind fun t122 => (if t122 ≥ 0 then (some 1) else (some (-1))))) = some r := H
  have A2 := Aside0.mk A20
  clear A20
  by_cases c3 : t121 ≥ 0
  · rw [if_pos c3] at H
    have c3b0 : decide (0 ≤ t121) = true := decide_eq_true c3
    clear c3
    obtain rfl := Option.some.inj H
    go_enter Try.func43, Try.ntmps43
    go_wp2_with (first | ((with_reducible refine gate_callee (f := 56) rfl ?_); refine goesL_ (some 5) rfl rfl Try.func56 (by kernel_rfl) rfl #[.string (⟨#[75, 65, 66, 78, 82, 67, 80]⟩ : ByteArray), .int .u8 a0] rfl (by (try simp only [List.map_toArray, List.map_cons, List.map_nil]); first | done | rfl | (simp only [List.length_drop, List.length_take]; rfl)) ?_; (with_reducible refine (strings_IndexByte.calls (⟨#[75, 65, 66, 78, 82, 67, 80]⟩ : ByteArray) a0 t121 _ A2.out).mono ?_); rintro e w' ⟨rfl, ⟨nd, rfl⟩⟩; refine ⟨_, rfl, ?_⟩))
    go_ret
    exact ⟨by first | rfl | (simp; done) | (simp [*]; done), by repeat (first | exact Drawn0.refl _ | apply Drawn0.step)⟩
  · rw [if_neg c3] at H
    have c3b0 : decide (0 ≤ t121) = false := decide_eq_false c3
    clear c3
    replace H := Option.bind_eq_some_iff.mp H
    obtain ⟨t122, A40, H⟩ := H
    replace H : (if t122 ≥ 0 then (some 1) else (some (-1))) = some r := H
    have A4 := Aside0.mk A40
    clear A40
    by_cases c5 : t122 ≥ 0
    · rw [if_pos c5] at H
      have c5b0 : decide (0 ≤ t122) = true := decide_eq_true c5
      clear c5
      obtain rfl := Option.some.inj H
      go_enter Try.func43, Try.ntmps43
      go_wp2_with (first | ((with_reducible refine gate_callee (f := 56) rfl ?_); refine goesL_ (some 5) rfl rfl Try.func56 (by kernel_rfl) rfl #[.string (⟨#[75, 65, 66, 78, 82, 67, 80]⟩ : ByteArray), .int .u8 a0] rfl (by (try simp only [List.map_toArray, List.map_cons, List.map_nil]); first | done | rfl | (simp only [List.length_drop, List.length_take]; rfl)) ?_; (with_reducible refine (strings_IndexByte.calls (⟨#[75, 65, 66, 78, 82, 67, 80]⟩ : ByteArray) a0 t121 _ A2.out).mono ?_); rintro e w' ⟨rfl, ⟨nd, rfl⟩⟩; refine ⟨_, rfl, ?_⟩) | ((with_reducible refine gate_callee (f := 56) rfl ?_); refine goesL_ (some 9) rfl rfl Try.func56 (by kernel_rfl) rfl #[.string (⟨#[107, 97, 98, 110, 114, 99, 112]⟩ : ByteArray), .int .u8 a0] rfl (by (try simp only [List.map_toArray, List.map_cons, List.map_nil]); first | done | rfl | (simp only [List.length_drop, List.length_take]; rfl)) ?_; (with_reducible refine (strings_IndexByte.calls (⟨#[107, 97, 98, 110, 114, 99, 112]⟩ : ByteArray) a0 t122 _ A4.out).mono ?_); rintro e w' ⟨rfl, ⟨nd, rfl⟩⟩; refine ⟨_, rfl, ?_⟩))
      go_ret
      exact ⟨by first | rfl | (simp; done) | (simp [*]; done), by repeat (first | exact Drawn0.refl _ | apply Drawn0.step)⟩
    · rw [if_neg c5] at H
      have c5b0 : decide (0 ≤ t122) = false := decide_eq_false c5
      clear c5
      obtain rfl := Option.some.inj H
      go_enter Try.func43, Try.ntmps43
      go_wp2_with (first | ((with_reducible refine gate_callee (f := 56) rfl ?_); refine goesL_ (some 5) rfl rfl Try.func56 (by kernel_rfl) rfl #[.string (⟨#[75, 65, 66, 78, 82, 67, 80]⟩ : ByteArray), .int .u8 a0] rfl (by (try simp only [List.map_toArray, List.map_cons, List.map_nil]); first | done | rfl | (simp only [List.length_drop, List.length_take]; rfl)) ?_; (with_reducible refine (strings_IndexByte.calls (⟨#[75, 65, 66, 78, 82, 67, 80]⟩ : ByteArray) a0 t121 _ A2.out).mono ?_); rintro e w' ⟨rfl, ⟨nd, rfl⟩⟩; refine ⟨_, rfl, ?_⟩) | ((with_reducible refine gate_callee (f := 56) rfl ?_); refine goesL_ (some 9) rfl rfl Try.func56 (by kernel_rfl) rfl #[.string (⟨#[107, 97, 98, 110, 114, 99, 112]⟩ : ByteArray), .int .u8 a0] rfl (by (try simp only [List.map_toArray, List.map_cons, List.map_nil]); first | done | rfl | (simp only [List.length_drop, List.length_take]; rfl)) ?_; (with_reducible refine (strings_IndexByte.calls (⟨#[107, 97, 98, 110, 114, 99, 112]⟩ : ByteArray) a0 t122 _ A4.out).mono ?_); rintro e w' ⟨rfl, ⟨nd, rfl⟩⟩; refine ⟨_, rfl, ?_⟩))
      go_ret
      exact ⟨by first | rfl | (simp; done) | (simp [*]; done), by repeat (first | exact Drawn0.refl _ | apply Drawn0.step)⟩

/-! ### board_isCell: function 66 -/
def board_isCell.f (a0 : Int) : Option (Bool) := if a0 = 46 then (some true) else ((board_Side.f a0).bind fun t123 => (some (decide (t123 ≥ 0))))
set_option maxHeartbeats 8000000 in
set_option maxRecDepth 100000 in
theorem board_isCell.calls (a0 : Int) (r : Bool) (w : World) (h : board_isCell.f a0 = some r) :
    Calls Try.prog 66 #[.int .u8 a0] w fun e w' => e = .returned (.bool r) ∧ Drawn0 w w' := by
  have H : (if a0 = 46 then (some true) else ((board_Side.f a0).bind fun t123 => (some (decide (t123 ≥ 0))))) = some r := h
  clear h
  by_cases c2 : a0 = 46
  · rw [if_pos c2] at H
    have c2b0 : (a0 == 46) = true := beq_iff_eq.mpr c2
    have c2b1 : (a0 != 46) = false := bne_eq_false_iff_eq.mpr c2
    clear c2
    obtain rfl := Option.some.inj H
    go_enter Try.func66, Try.ntmps66
    go_wp2
    go_ret
    exact ⟨by first | rfl | (simp; done) | (simp [*]; done), by repeat (first | exact Drawn0.refl _ | apply Drawn0.step)⟩
  · rw [if_neg c2] at H
    have c2b0 : (a0 == 46) = false := beq_eq_false_iff_ne.mpr c2
    have c2b1 : (a0 != 46) = true := bne_iff_ne.mpr c2
    replace H := Option.bind_eq_some_iff.mp H
    obtain ⟨t123, A30, H⟩ := H
    replace H : (some (decide (t123 ≥ 0))) = some r := H
    have A3 := Aside0.mk A30
    clear A30
    obtain rfl := Option.some.inj H
    go_enter Try.func66, Try.ntmps66
    go_wp2_with (first | (go_at_call 43; (with_reducible refine (board_Side.calls a0 t123 _ A3.out).mono ?_); rintro e w' ⟨rfl, ⟨nd, rfl⟩⟩))
    go_ret
    exact ⟨by first | rfl | (simp; done) | (simp [*]; done), by repeat (first | exact Drawn0.refl _ | apply Drawn0.step)⟩

end Go.Proofs.Ytmfbgcimfmgobaa.Print
