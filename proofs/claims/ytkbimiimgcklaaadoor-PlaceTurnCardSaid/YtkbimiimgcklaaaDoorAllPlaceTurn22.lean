/- Merged by a program of this session (wip/gprint/merge.py): what this claim needs of this session's texts, each part as it was. -/
import Derived.Test.YtkbimiimgcklaaaDoorAllPlaceTurn7
import Derived.Test.YtkbimiimgcklaaaDoorAllPlaceTurn16
import Derived.Test.YtkbimiimgcklaaaDoorAllPlaceTurn17
import Derived.Test.YtkbimiimgcklaaaDoorAllPlaceTurn18
import Derived.Test.YtkbimiimgcklaaaDoorAllPlaceTurn6
import Derived.RegionTactic
import Derived.BigRegion
namespace Go.Proofs.YtkbimiimgcklaaaDoor.Print
end Go.Proofs.YtkbimiimgcklaaaDoor.Print

-- of YtkbimiimgcklaaaDoorPrint26
-- Written by a program of this session (wip/gprint/gprint.py) over the kit's print; the parts marked GIVEN by hand.
namespace Go.Proofs.YtkbimiimgcklaaaDoor.Print
open Go.RowKit Go.Proofs.YtkbimiimgcklaaaDoorW.PrintWords Go.Proofs.YtkbimiimgcklaaaDoorW.PrintLast Go.Proofs.YtkbimiimgcklaaaDoorW.PrintMore
attribute [local go_sem] max2_int min2_int max_two min_two max_three min_three max_four min_four   -- for this text's walks alone
set_option linter.unusedVariables false
set_option linter.unusedSimpArgs false

/-! GIVEN board_Put -/
-- GIVEN riverbank/board.Put
-- MAKES yes
-- IMPORT Derived.Test.YtkbimiimgcklaaaDoorBytes
-- IMPORT Derived.RegionTactic
-- IMPORT Derived.BigRegion
def putB (s : ByteArray) (i : Nat) (c : Int) : ByteArray := ⟨(s.data.toList.set i c.toNat.toUInt8).toArray⟩
def board_Put.f (a0 : ByteArray) (a1 : Int) (a2 : Int) : Option (ByteArray) :=
  if 0 ≤ a2 ∧ a2 ≤ 255 then (board_isSquare.f a1).bind fun t1 => if t1 = true then ((board_isCell.f a2).bind fun t2 => if t2 = true then ((board_Is.f a0).bind fun t3 => if t3 = true then some (putB a0 a1.toNat a2) else some a0) else some a0) else some a0 else none
set_option maxRecDepth 100000 in
set_option maxHeartbeats 400000 in
theorem board_Put.yes (a0 : ByteArray) (i : Nat) (c : UInt8) (w : World) (hi : i < 90) (hc : board_isCell.f (c.toNat : Int) = some true) (hI : board_Is.f a0 = some true) :
    Calls Tryd.prog 54 #[.string a0, .int .i64 i, .int .u8 c.toNat] w fun e w' => e = .returned (.string ⟨(a0.data.toList.set i c).toArray⟩) ∧ Below w.heap.size w w' := by
  have hsz : a0.size = 90 := by
    unfold board_Is.f at hI; have := Option.some.inj hI; simp at this; exact this.1
  have hl : i < a0.data.toList.length := by simpa [hsz] using hi
  have i1 : (i : Int) < (a0.size : Int) := by omega
  have sz : a0.size ≤ 200 := by omega
  clear hsz
  have i0 : (0 : Int) ≤ (i : Int) := Int.natCast_nonneg _
  have hq : board_isSquare.f (i : Int) = some true := by
    unfold board_isSquare.f; rw [if_pos (by omega)]; simp; omega
  have HQ := Aside0.mk hq
  have HC := Aside0.mk hc
  have HI := Aside0.mk hI
  clear hq hc hI
  have hcv := fun (w : World) => Lib.run_convert_string_bytes (P := Tryd.prog) w 9 93 5 a0 Tryd.underlying9 Tryd.underlying93 Tryd.underlying5
  obtain ⟨res, hres⟩ : ∃ res : ByteArray, res = ⟨(a0.data.toList.set i c).toArray⟩ := ⟨_, rfl⟩
  rw [← hres]
  have HRES := Aside0.mk hres
  clear hres
  go_enter Tryd.func54, Tryd.ntmps54
  go_wp2_with (first
    | (go_at_call 97; (with_reducible refine (board_isSquare.calls _ true _ HQ.out).mono ?_); rintro e w' ⟨rfl, ⟨q, rfl⟩⟩)
    | (go_at_call 96; (with_reducible refine (board_isCell.calls _ true _ HC.out).mono ?_); rintro e w' ⟨rfl, ⟨q2, rfl⟩⟩))
  refine (board_Is.calls _ true _ HI.out).mono ?_
  rintro e w3 ⟨rfl, hb3⟩
  have H1 := HasBytes.start w3 5 a0
  have zi := H1.free i hl
  have ci := H1.cell i hl
  obtain ⟨x, hx⟩ : ∃ x, x = a0.data.toList[i]'hl := ⟨_, rfl⟩
  rw [← hx] at ci
  clear hx
  have H3 := H1.set i hl c
  have hB3 : Below w.heap.size w ((Lib.bytesWorld w3 5 a0).setCell ⟨w3.heap.size, i, none⟩ (.int .u8 c.toNat)) :=
    (below_past (Below.refl _ w) rfl hb3 |>.trans ((below_bytes w3 5 a0).mono (by have := hb3.size; simpa using this))).setCell (p := ⟨w3.heap.size, i, none⟩) (by have := hb3.size; simpa using this) _
  have hbk := run_convert_bytes_back (P := Tryd.prog) ((Lib.bytesWorld w3 5 a0).setCell ⟨w3.heap.size, i, none⟩ (.int .u8 c.toNat)) 93 9 5 ⟨w3.heap.size, 0, none⟩ (grownCap w3 a0.size 0 5) (a0.data.toList.set i c) Tryd.underlying93 Tryd.underlying5 Tryd.underlying9 (fun k hk => by rw [addr_add0]; exact H3.cell k hk)
  have hln : (a0.data.toList.set i c).length = a0.size := by simp
  rw [hln, ← HRES.out] at hbk
  clear hln H1 H3 HRES hb3
  go_wp2
  go_ret
  exact ⟨rfl, hB3⟩
theorem board_Put.calls (a0 : ByteArray) (a1 : Int) (a2 : Int) (r : ByteArray) (w : World) (h : board_Put.f a0 a1 a2 = some r) :
    Calls Tryd.prog 54 #[.string a0, .int .i64 a1, .int .u8 a2] w fun e w' => e = .returned (.string r) ∧ Below w.heap.size w w' := by
  unfold board_Put.f at h
  split at h
  case isFalse => cases h
  rename_i hr
  obtain ⟨c, rfl⟩ : ∃ c : UInt8, a2 = c.toNat := ⟨a2.toNat.toUInt8, by simp; omega⟩
  clear hr
  obtain ⟨t1, h1, h⟩ := Option.bind_eq_some_iff.mp h
  cases t1 with
  | false =>
    obtain rfl := Option.some.inj h
    have H1 := Aside0.mk h1
    clear h1 h
    go_enter Tryd.func54, Tryd.ntmps54
    go_wp2_with (go_at_call 97; (with_reducible refine (board_isSquare.calls _ false _ H1.out).mono ?_); rintro e w' ⟨rfl, ⟨q, rfl⟩⟩)
    go_ret
    exact ⟨rfl, below_past (Below.refl _ w) rfl (Below.refl _ _)⟩
  | true =>
    rw [if_pos rfl] at h
    obtain ⟨t2, h2, h⟩ := Option.bind_eq_some_iff.mp h
    cases t2 with
    | false =>
      obtain rfl := Option.some.inj h
      have H1 := Aside0.mk h1
      have H2 := Aside0.mk h2
      clear h1 h h2
      go_enter Tryd.func54, Tryd.ntmps54
      go_wp2_with (first
        | (go_at_call 97; (with_reducible refine (board_isSquare.calls _ true _ H1.out).mono ?_); rintro e w' ⟨rfl, ⟨q, rfl⟩⟩)
        | (go_at_call 96; (with_reducible refine (board_isCell.calls _ false _ H2.out).mono ?_); rintro e w' ⟨rfl, ⟨q2, rfl⟩⟩))
      go_ret
      exact ⟨rfl, below_past (Below.refl _ w) rfl (Below.refl _ _)⟩
    | true =>
      rw [if_pos rfl] at h
      obtain ⟨t3, h3, h⟩ := Option.bind_eq_some_iff.mp h
      cases t3 with
      | false =>
        obtain rfl := Option.some.inj h
        have H1 := Aside0.mk h1
        have H2 := Aside0.mk h2
        have H3 := Aside0.mk h3
        clear h1 h h2 h3
        go_enter Tryd.func54, Tryd.ntmps54
        go_wp2_with (first
          | (go_at_call 97; (with_reducible refine (board_isSquare.calls _ true _ H1.out).mono ?_); rintro e w' ⟨rfl, ⟨q, rfl⟩⟩)
          | (go_at_call 96; (with_reducible refine (board_isCell.calls _ true _ H2.out).mono ?_); rintro e w' ⟨rfl, ⟨q2, rfl⟩⟩)
          | (go_at_call 50; (with_reducible refine (board_Is.calls _ false _ H3.out).mono ?_); rintro e w3 ⟨rfl, hb3⟩))
        go_ret
        exact ⟨rfl, below_past (Below.refl _ w) rfl hb3⟩
      | true =>
        rw [if_pos rfl] at h
        have hin : 0 ≤ a1 ∧ a1 < 90 := by
          unfold board_isSquare.f at h1
          split at h1
          · have := Option.some.inj h1; simp at this; omega
          · cases h1
        obtain ⟨i, rfl⟩ : ∃ i : Nat, a1 = i := ⟨a1.toNat, by omega⟩
        have e := Option.some.inj h
        unfold putB at e
        simp at e
        rw [← e]
        exact board_Put.yes a0 i c w (by omega) h2 h3

end Go.Proofs.YtkbimiimgcklaaaDoor.Print
