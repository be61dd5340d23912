/- Merged by a program of this session (wip/gprint/merge.py): what this claim needs of this session's texts, each part as it was. -/
import Derived.Test.YtkbimiimgcklaaaDoorAllPlaceTurn7
import Derived.Test.YtkbimiimgcklaaaDoorAllPlaceTurn8
import Derived.Test.YtkbimiimgcklaaaDoorAllPlaceTurn6
import Derived.RegionTactic
import Derived.BigRegion
import Derived.WalkSpells
import Derived.RangeFuncRecord
namespace Go.Proofs.YtkbimiimgcklaaaDoor.Print
end Go.Proofs.YtkbimiimgcklaaaDoor.Print

-- of YtkbimiimgcklaaaDoorPrint35
-- Written by a program of this session (wip/gprint/gprint.py) over the kit's print; the parts marked GIVEN by hand.
namespace Go.Proofs.YtkbimiimgcklaaaDoor.Print
open Go.RowKit Go.Proofs.YtkbimiimgcklaaaDoorW.PrintWords Go.Proofs.YtkbimiimgcklaaaDoorW.PrintLast Go.Proofs.YtkbimiimgcklaaaDoorW.PrintMore
attribute [local go_sem] max2_int min2_int max_two min_two max_three min_three max_four min_four   -- for this text's walks alone
set_option linter.unusedVariables false
set_option linter.unusedSimpArgs false

/-! GIVEN riverbankref02_Put -/
-- GIVEN riverbank/riverbankref02.Put
-- MAKES yes
-- ROUNDS yes
-- NEEDS riverbank/riverbankref02.Is
-- NEEDS riverbank/riverbankref02.Side
-- IMPORT Derived.Test.YtkbimiimgcklaaaDoorBytes
-- IMPORT Derived.RegionTactic
-- IMPORT Derived.BigRegion
-- IMPORT Derived.WalkSpells
-- IMPORT Derived.RangeFuncRecord
/-- A text with one byte in the place of another. -/
def setB (s : ByteArray) (n : Nat) (c : UInt8) : ByteArray := s.extract 0 n ++ ⟨#[c]⟩ ++ s.extract (n + 1) s.size
def riverbankref02_Put.f (k : Nat) (a0 : ByteArray) (a1 : Int) (a2 : Int) : Option (ByteArray) :=
  if 0 ≤ a2 ∧ a2 ≤ 255 then (riverbankref02_Is.f k a0).bind fun t => if t = true then (if a1 < 0 then some a0 else if a1 > 89 then some a0 else if a2 = 46 then some (setB a0 a1.toNat a2.toNat.toUInt8) else (riverbankref02_Side.f k a2).bind fun u => if u < 0 then some a0 else some (setB a0 a1.toNat a2.toNat.toUInt8)) else some a0 else none

theorem riverbankref02_Put.mono : ∀ a0 a1 a2 k, LeO (riverbankref02_Put.f k a0 a1 a2) (riverbankref02_Put.f (k + 1) a0 a1 a2) := by
  intro a0 a1 a2 k
  unfold riverbankref02_Put.f
  repeat' first
      | (with_reducible exact riverbankref02_Is.mono _ _)
      | (with_reducible exact riverbankref02_Side.mono _ _)
      | (with_reducible exact LeO.refl _)
      | (with_reducible exact LeO.none _)
      | (with_reducible refine LeO.ite ?_ ?_)
      | (with_reducible refine LeO.bind ?_ (fun _ => ?_))
theorem new_cell0 (W : World) (v : Value) (t : TypeId) : (W.alloc (.cells #[v] t)).cell? ⟨W.heap.size, 0, none⟩ = some v := by
  have h := World.alloc_heap_new W (.cells #[v] t)
  obtain ⟨g, hg⟩ : ∃ g, g = W.heap.size := ⟨_, rfl⟩
  rw [← hg] at h ⊢
  simp only [World.cell?, h]
  rfl
set_option maxRecDepth 100000 in
set_option maxHeartbeats 1000000 in
theorem ref02_Put.dot (k : Nat) (a0 : ByteArray) (i : Nat) (w : World) (hi : i < 90) (hs : a0.size = 90) (hI : riverbankref02_Is.f k a0 = some true) :
    Calls Tryd.prog 55 #[.string a0, .int .i64 i, .int .u8 46] w fun e w' => e = .returned (.string (setB a0 i 46)) ∧ Below w.heap.size w w' := by
  have HI := Aside0.mk hI
  clear hI
  have i0 : (0 : Int) ≤ (i : Int) := Int.natCast_nonneg _
  have i1 : (i : Int) ≤ 89 := by omega
  have i2 : (i : Int) ≤ (a0.size : Int) := by omega
  have i3 : (i : Int) + 1 ≤ (a0.size : Int) := by omega
  have z1 : (a0.extract 0 i).size ≤ 90 := by simp; omega
  have z2 : (a0.extract (i + 1) a0.size).size ≤ 90 := by simp; omega
  have z3 : a0.size ≤ 90 := by omega
  obtain ⟨res, hres⟩ : ∃ res, res = setB a0 i 46 := ⟨_, rfl⟩
  rw [← hres]
  have HR := Aside0.mk hres
  clear hs hi hres
  go_enter Tryd.func55, Tryd.ntmps55
  go_wp2_with (go_at_call 51; (with_reducible refine (riverbankref02_Is.calls _ _ true _ HI.out).mono ?_); rintro e w' ⟨rfl, ⟨q, rfl⟩⟩)
  have hbk := one_back (P := Tryd.prog) ((w.drewN (q + 1)).alloc (.cells #[.int .u8 46] 5)) 93 9 5 w.heap.size 46 Tryd.underlying93 Tryd.underlying5 Tryd.underlying9 (new_cell0 (w.drewN (q + 1)) _ 5)
  go_region
  go_wp2
  go_ret
  exact ⟨by rw [HR.out]; rfl, below_past (Below.refl _ w) rfl (((Below.refl _ (w.drewN (q + 1))).alloc (Nat.le_refl _) _))⟩

set_option maxRecDepth 100000 in
set_option maxHeartbeats 1000000 in
theorem ref02_Put.piece (k : Nat) (a0 : ByteArray) (i : Nat) (c : UInt8) (u : Int) (w : World) (hi : i < 90) (hs : a0.size = 90) (hI : riverbankref02_Is.f k a0 = some true) (hc : (c.toNat : Int) ≠ 46) (hu : riverbankref02_Side.f k (c.toNat : Int) = some u) (hu0 : 0 ≤ u) :
    Calls Tryd.prog 55 #[.string a0, .int .i64 i, .int .u8 c.toNat] w fun e w' => e = .returned (.string (setB a0 i c)) ∧ Below w.heap.size w w' := by
  have HI := Aside0.mk hI
  have HU := Aside0.mk hu
  clear hI hu
  have c0 : (((c.toNat : Int)) == 46) = false := by simpa using hc
  have c1 : (((c.toNat : Int)) != 46) = true := by simpa using hc
  have i0 : (0 : Int) ≤ (i : Int) := Int.natCast_nonneg _
  have i1 : (i : Int) ≤ 89 := by omega
  have i2 : (i : Int) ≤ (a0.size : Int) := by omega
  have i3 : (i : Int) + 1 ≤ (a0.size : Int) := by omega
  have z1 : (a0.extract 0 i).size ≤ 90 := by simp; omega
  have z2 : (a0.extract (i + 1) a0.size).size ≤ 90 := by simp; omega
  have z3 : a0.size ≤ 90 := by omega
  obtain ⟨res, hres⟩ : ∃ res, res = setB a0 i c := ⟨_, rfl⟩
  rw [← hres]
  have HR := Aside0.mk hres
  clear hs hi hres hc
  go_enter Tryd.func55, Tryd.ntmps55
  go_wp2_with (first
    | (go_at_call 51; (with_reducible refine (riverbankref02_Is.calls _ _ true _ HI.out).mono ?_); rintro e w' ⟨rfl, ⟨q, rfl⟩⟩)
    | (go_at_call 49; (with_reducible refine (riverbankref02_Side.calls _ _ u _ HU.out).mono ?_); rintro e w' ⟨rfl, ⟨q2, rfl⟩⟩))
  have hbk := one_back (P := Tryd.prog) ((w.drewN (q + q2 + 1)).alloc (.cells #[.int .u8 c.toNat] 5)) 93 9 5 w.heap.size c Tryd.underlying93 Tryd.underlying5 Tryd.underlying9 (new_cell0 (w.drewN (q + q2 + 1)) _ 5)
  go_region
  go_wp2
  go_ret
  exact ⟨by rw [HR.out]; rfl, below_past (Below.refl _ w) rfl (((Below.refl _ (w.drewN (q + q2 + 1))).alloc (Nat.le_refl _) _))⟩

theorem ref02_is_size (k : Nat) (a0 : ByteArray) (h : riverbankref02_Is.f k a0 = some true) : a0.size = 90 := by
  unfold riverbankref02_Is.f at h
  split at h
  · omega
  · cases h

set_option maxRecDepth 100000 in
set_option maxHeartbeats 1000000 in
theorem riverbankref02_Put.calls (k : Nat) (a0 : ByteArray) (a1 : Int) (a2 : Int) (r : ByteArray) (w : World) (h : riverbankref02_Put.f k a0 a1 a2 = some r) :
    Calls Tryd.prog 55 #[.string a0, .int .i64 a1, .int .u8 a2] w fun e w' => e = .returned (.string r) ∧ Below w.heap.size w w' := by
  unfold riverbankref02_Put.f at h
  split at h
  case isFalse => cases h
  rename_i hr
  obtain ⟨c, rfl⟩ : ∃ c : UInt8, a2 = c.toNat := ⟨a2.toNat.toUInt8, by simp; omega⟩
  clear hr
  obtain ⟨t1, h1, h⟩ := Option.bind_eq_some_iff.mp h
  cases t1 with
  | false =>
    obtain rfl := Option.some.inj h
    have HI := Aside0.mk h1
    clear h1 h
    go_enter Tryd.func55, Tryd.ntmps55
    go_wp2_with (go_at_call 51; (with_reducible refine (riverbankref02_Is.calls _ _ false _ HI.out).mono ?_); rintro e w' ⟨rfl, ⟨q, rfl⟩⟩)
    go_ret
    exact ⟨rfl, below_past (Below.refl _ w) rfl (Below.refl _ _)⟩
  | true =>
    rw [if_pos rfl] at h
    by_cases n0 : a1 < 0
    · rw [if_pos n0] at h
      obtain rfl := Option.some.inj h
      have HI := Aside0.mk h1
      clear h1 h
      go_enter Tryd.func55, Tryd.ntmps55
      go_wp2_with (go_at_call 51; (with_reducible refine (riverbankref02_Is.calls _ _ true _ HI.out).mono ?_); rintro e w' ⟨rfl, ⟨q, rfl⟩⟩)
      go_ret
      exact ⟨rfl, below_past (Below.refl _ w) rfl (Below.refl _ _)⟩
    · rw [if_neg n0] at h
      replace n0 : 0 ≤ a1 := by omega
      by_cases n1 : a1 > 89
      · rw [if_pos n1] at h
        obtain rfl := Option.some.inj h
        have HI := Aside0.mk h1
        clear h1 h
        go_enter Tryd.func55, Tryd.ntmps55
        go_wp2_with (go_at_call 51; (with_reducible refine (riverbankref02_Is.calls _ _ true _ HI.out).mono ?_); rintro e w' ⟨rfl, ⟨q, rfl⟩⟩)
        go_ret
        exact ⟨rfl, below_past (Below.refl _ w) rfl (Below.refl _ _)⟩
      · rw [if_neg n1] at h
        obtain ⟨i, rfl⟩ : ∃ i : Nat, a1 = i := ⟨a1.toNat, by omega⟩
        by_cases hc : (c.toNat : Int) = 46
        · rw [if_pos hc] at h
          obtain rfl : c = 46 := by
            have : c.toNat = 46 := by omega
            exact UInt8.toNat_inj.mp (by simpa using this)
          have e := Option.some.inj h
          rw [← e]
          exact ref02_Put.dot k a0 i w (by omega) (ref02_is_size k a0 h1) h1
        · rw [if_neg hc] at h
          obtain ⟨u, hu, h⟩ := Option.bind_eq_some_iff.mp h
          by_cases hu0 : u < 0
          · rw [if_pos hu0] at h
            obtain rfl := Option.some.inj h
            have HI := Aside0.mk h1
            have HU := Aside0.mk hu
            have c0 : (((c.toNat : Int)) == 46) = false := by simpa using hc
            have c1 : (((c.toNat : Int)) != 46) = true := by simpa using hc
            have i0 : (0 : Int) ≤ (i : Int) := Int.natCast_nonneg _
            have i1 : (i : Int) ≤ 89 := by omega
            clear h1 h hu hc n1 n0
            go_enter Tryd.func55, Tryd.ntmps55
            go_wp2_with (first
              | (go_at_call 51; (with_reducible refine (riverbankref02_Is.calls _ _ true _ HI.out).mono ?_); rintro e w' ⟨rfl, ⟨q, rfl⟩⟩)
              | (go_at_call 49; (with_reducible refine (riverbankref02_Side.calls _ _ u _ HU.out).mono ?_); rintro e w' ⟨rfl, ⟨q2, rfl⟩⟩))
            go_ret
            exact ⟨rfl, below_past (Below.refl _ w) rfl (Below.refl _ _)⟩
          · rw [if_neg hu0] at h
            have e := Option.some.inj h
            have e2 : (c.toNat : Int).toNat.toUInt8 = c := by simp
            have e3 : ((i : Nat) : Int).toNat = i := by simp
            rw [← e, e2, e3]
            exact ref02_Put.piece k a0 i c u w (by omega) (ref02_is_size k a0 h1) h1 hc hu (by omega)

end Go.Proofs.YtkbimiimgcklaaaDoor.Print
