/- Merged by a program of this session (wip/gprint/merge.py): what this claim needs of this session's texts, each part as it was. -/
import Derived.Test.YtkbimiimgcklaaaDoorAllPlaceTurn7
import Derived.Test.YtkbimiimgcklaaaDoorAllPlaceTurn16
import Derived.Test.YtkbimiimgcklaaaDoorAllPlaceTurn19
import Derived.Test.YtkbimiimgcklaaaDoorAllPlaceTurn33
import Derived.Laws.EntriesVeiled
namespace Go.Proofs.YtkbimiimgcklaaaDoor.Print
end Go.Proofs.YtkbimiimgcklaaaDoor.Print

-- of YtkbimiimgcklaaaDoorPrint42
-- Written by a program of this session (wip/gprint/gprint.py) over the kit's print; the parts marked GIVEN by hand.
namespace Go.Proofs.YtkbimiimgcklaaaDoor.Print
open Go.RowKit Go.Proofs.YtkbimiimgcklaaaDoorW.PrintWords Go.Proofs.YtkbimiimgcklaaaDoorW.PrintLast Go.Proofs.YtkbimiimgcklaaaDoorW.PrintMore
attribute [local go_sem] max2_int min2_int max_two min_two max_three min_three max_four min_four   -- for this text's walks alone
set_option linter.unusedVariables false
set_option linter.unusedSimpArgs false

/-! GIVEN place_May -/
-- GIVEN riverbank/place.May
-- MAKES yes
-- ROUNDS yes
-- NEEDS riverbank/board.Side
-- NEEDS riverbank/board.Kind
-- NEEDS riverbank/place.seen
-- NEEDS (riverbank/place.spot).palace
-- NEEDS (riverbank/place.spot).advisor
-- NEEDS (riverbank/place.spot).elephant
-- NEEDS (riverbank/place.spot).pawn
-- IMPORT Derived.Laws.EntriesVeiled
def place_May.f (k : Nat) (a0 : Int) (a1 : Int) : Option (Bool) := (board_Side.f a0).bind fun t => (place_seen.f k a1 t).bind fun s => if s.2.2 = true then ((board_Kind.f a0).bind fun d => if d = 75 then place_spot_palace.f s.1 s.2.1 else if d = 65 then place_spot_advisor.f s.1 s.2.1 else if d = 66 then place_spot_elephant.f s.1 s.2.1 else if d = 80 then place_spot_pawn.f s.1 s.2.1 else some true) else some false
theorem place_May.mono : ∀ a0 a1 k, LeO (place_May.f k a0 a1) (place_May.f (k + 1) a0 a1) := by
  intro a0 a1 k
  unfold place_May.f
  repeat' first
      | (with_reducible exact place_seen.mono _ _ _)
      | (with_reducible exact LeO.refl _)
      | (with_reducible exact LeO.none _)
      | (with_reducible refine LeO.ite ?_ ?_)
      | (with_reducible refine LeO.bind ?_ (fun _ => ?_))
set_option maxRecDepth 100000 in
set_option maxHeartbeats 2000000 in
theorem may_no (k : Nat) (a0 a1 t x y : Int) (w : World) (hs : board_Side.f a0 = some t) (hn : place_seen.f k a1 t = some (x, y, false)) :
    Calls Tryd.prog 71 #[.int .u8 a0, .int .i64 a1] w fun e w' => e = .returned (.bool false) ∧ Below w.heap.size w w' := by
  have HS := Aside0.mk hs
  have HN := Aside0.mk hn
  clear hs hn
  go_enter Tryd.func71, Tryd.ntmps71
  go_wp2_with (first
    | (go_at_call 62; (with_reducible refine (board_Side.calls a0 t _ HS.out).mono ?_); rintro e w' ⟨rfl, ⟨q, rfl⟩⟩)
      | (go_at_call 103; (with_reducible refine (place_seen.calls k a1 t x y false _ HN.out).mono ?_); rintro e w2 ⟨rfl, hb2⟩; have HB2 := Aside0.mk (below_step (pw_below_drewN (Below.refl w.heap.size w) _) hb2); clear hb2))
  go_ret
  exact ⟨rfl, below_alloc HB2.out _⟩
set_option maxRecDepth 100000 in
set_option maxHeartbeats 4000000 in
theorem may_palace (k : Nat) (a0 a1 t x y : Int) (r : Bool) (w : World) (hs : board_Side.f a0 = some t) (hn : place_seen.f k a1 t = some (x, y, true)) (hd : board_Kind.f a0 = some 75) (hr : place_spot_palace.f x y = some r) :
    Calls Tryd.prog 71 #[.int .u8 a0, .int .i64 a1] w fun e w' => e = .returned (.bool r) ∧ Below w.heap.size w w' := by
  have HS := Aside0.mk hs
  have HN := Aside0.mk hn
  have HD := Aside0.mk hd
  have HR := Aside0.mk hr
  clear hs hn hd hr
  go_enter Tryd.func71, Tryd.ntmps71
  go_wp2_with (first
    | (go_at_call 62; (with_reducible refine (board_Side.calls a0 t _ HS.out).mono ?_); rintro e w' ⟨rfl, ⟨q, rfl⟩⟩)
      | (go_at_call 103; (with_reducible refine (place_seen.calls k a1 t x y true _ HN.out).mono ?_); rintro e w2 ⟨rfl, hb2⟩; have HB2 := Aside0.mk (below_step (pw_below_drewN (Below.refl w.heap.size w) _) hb2); clear hb2)
      | (go_at_call 63; (with_reducible refine (board_Kind.calls a0 75 _ HD.out).mono ?_); rintro e w' ⟨rfl, ⟨q2, rfl⟩⟩)
      | (go_at_call 104; (with_reducible refine (place_spot_palace.calls x y r _ HR.out).mono ?_); rintro e w3 ⟨rfl, hb3⟩))
  go_ret
  exact ⟨rfl, below_step (pw_below_drewN (below_alloc (below_alloc HB2.out _) _) _) hb3⟩
set_option maxRecDepth 100000 in
set_option maxHeartbeats 4000000 in
theorem may_advisor (k : Nat) (a0 a1 t x y : Int) (r : Bool) (w : World) (hs : board_Side.f a0 = some t) (hn : place_seen.f k a1 t = some (x, y, true)) (hd : board_Kind.f a0 = some 65) (hr : place_spot_advisor.f x y = some r) :
    Calls Tryd.prog 71 #[.int .u8 a0, .int .i64 a1] w fun e w' => e = .returned (.bool r) ∧ Below w.heap.size w w' := by
  have HS := Aside0.mk hs
  have HN := Aside0.mk hn
  have HD := Aside0.mk hd
  have HR := Aside0.mk hr
  clear hs hn hd hr
  go_enter Tryd.func71, Tryd.ntmps71
  go_wp2_with (first
    | (go_at_call 62; (with_reducible refine (board_Side.calls a0 t _ HS.out).mono ?_); rintro e w' ⟨rfl, ⟨q, rfl⟩⟩)
      | (go_at_call 103; (with_reducible refine (place_seen.calls k a1 t x y true _ HN.out).mono ?_); rintro e w2 ⟨rfl, hb2⟩; have HB2 := Aside0.mk (below_step (pw_below_drewN (Below.refl w.heap.size w) _) hb2); clear hb2)
      | (go_at_call 63; (with_reducible refine (board_Kind.calls a0 65 _ HD.out).mono ?_); rintro e w' ⟨rfl, ⟨q2, rfl⟩⟩)
      | (go_at_call 105; (with_reducible refine (place_spot_advisor.calls x y r _ HR.out).mono ?_); rintro e w3 ⟨rfl, hb3⟩))
  go_ret
  exact ⟨rfl, below_step (pw_below_drewN (below_alloc (below_alloc HB2.out _) _) _) hb3⟩
set_option maxRecDepth 100000 in
set_option maxHeartbeats 4000000 in
theorem may_elephant (k : Nat) (a0 a1 t x y : Int) (r : Bool) (w : World) (hs : board_Side.f a0 = some t) (hn : place_seen.f k a1 t = some (x, y, true)) (hd : board_Kind.f a0 = some 66) (hr : place_spot_elephant.f x y = some r) :
    Calls Tryd.prog 71 #[.int .u8 a0, .int .i64 a1] w fun e w' => e = .returned (.bool r) ∧ Below w.heap.size w w' := by
  have HS := Aside0.mk hs
  have HN := Aside0.mk hn
  have HD := Aside0.mk hd
  have HR := Aside0.mk hr
  clear hs hn hd hr
  go_enter Tryd.func71, Tryd.ntmps71
  go_wp2_with (first
    | (go_at_call 62; (with_reducible refine (board_Side.calls a0 t _ HS.out).mono ?_); rintro e w' ⟨rfl, ⟨q, rfl⟩⟩)
      | (go_at_call 103; (with_reducible refine (place_seen.calls k a1 t x y true _ HN.out).mono ?_); rintro e w2 ⟨rfl, hb2⟩; have HB2 := Aside0.mk (below_step (pw_below_drewN (Below.refl w.heap.size w) _) hb2); clear hb2)
      | (go_at_call 63; (with_reducible refine (board_Kind.calls a0 66 _ HD.out).mono ?_); rintro e w' ⟨rfl, ⟨q2, rfl⟩⟩)
      | (go_at_call 106; (with_reducible refine (place_spot_elephant.calls x y r _ HR.out).mono ?_); rintro e w3 ⟨rfl, hb3⟩))
  go_ret
  exact ⟨rfl, below_step (pw_below_drewN (below_alloc (below_alloc HB2.out _) _) _) hb3⟩
set_option maxRecDepth 100000 in
set_option maxHeartbeats 4000000 in
theorem may_pawn (k : Nat) (a0 a1 t x y : Int) (r : Bool) (w : World) (hs : board_Side.f a0 = some t) (hn : place_seen.f k a1 t = some (x, y, true)) (hd : board_Kind.f a0 = some 80) (hr : place_spot_pawn.f x y = some r) :
    Calls Tryd.prog 71 #[.int .u8 a0, .int .i64 a1] w fun e w' => e = .returned (.bool r) ∧ Below w.heap.size w w' := by
  have HS := Aside0.mk hs
  have HN := Aside0.mk hn
  have HD := Aside0.mk hd
  have HR := Aside0.mk hr
  clear hs hn hd hr
  go_enter Tryd.func71, Tryd.ntmps71
  go_wp2_with (first
    | (go_at_call 62; (with_reducible refine (board_Side.calls a0 t _ HS.out).mono ?_); rintro e w' ⟨rfl, ⟨q, rfl⟩⟩)
      | (go_at_call 103; (with_reducible refine (place_seen.calls k a1 t x y true _ HN.out).mono ?_); rintro e w2 ⟨rfl, hb2⟩; have HB2 := Aside0.mk (below_step (pw_below_drewN (Below.refl w.heap.size w) _) hb2); clear hb2)
      | (go_at_call 63; (with_reducible refine (board_Kind.calls a0 80 _ HD.out).mono ?_); rintro e w' ⟨rfl, ⟨q2, rfl⟩⟩)
      | (go_at_call 107; (with_reducible refine (place_spot_pawn.calls x y r _ HR.out).mono ?_); rintro e w3 ⟨rfl, hb3⟩))
  go_ret
  exact ⟨rfl, below_step (pw_below_drewN (below_alloc (below_alloc HB2.out _) _) _) hb3⟩
set_option maxRecDepth 100000 in
set_option maxHeartbeats 4000000 in
theorem may_else (k : Nat) (a0 a1 t x y d : Int) (w : World) (hs : board_Side.f a0 = some t) (hn : place_seen.f k a1 t = some (x, y, true)) (hd : board_Kind.f a0 = some d) (h1 : ¬ d = 75) (h2 : ¬ d = 65) (h3 : ¬ d = 66) (h4 : ¬ d = 80) :
    Calls Tryd.prog 71 #[.int .u8 a0, .int .i64 a1] w fun e w' => e = .returned (.bool true) ∧ Below w.heap.size w w' := by
  have HS := Aside0.mk hs
  have HN := Aside0.mk hn
  have HD := Aside0.mk hd
  have b1 : (d == 75) = false := by simpa using h1
  have b2 : (d == 65) = false := by simpa using h2
  have b3 : (d == 66) = false := by simpa using h3
  have b4 : (d == 80) = false := by simpa using h4
  clear hs hn hd h1 h2 h3 h4
  go_enter Tryd.func71, Tryd.ntmps71
  go_wp2_with (first
    | (go_at_call 62; (with_reducible refine (board_Side.calls a0 t _ HS.out).mono ?_); rintro e w' ⟨rfl, ⟨q, rfl⟩⟩)
      | (go_at_call 103; (with_reducible refine (place_seen.calls k a1 t x y true _ HN.out).mono ?_); rintro e w2 ⟨rfl, hb2⟩; have HB2 := Aside0.mk (below_step (pw_below_drewN (Below.refl w.heap.size w) _) hb2); clear hb2)
      | (go_at_call 63; (with_reducible refine (board_Kind.calls a0 d _ HD.out).mono ?_); rintro e w' ⟨rfl, ⟨q2, rfl⟩⟩))
  go_ret
  exact ⟨rfl, pw_below_drewN (below_alloc (below_alloc HB2.out _) _) _⟩
theorem place_May.calls (k : Nat) (a0 : Int) (a1 : Int) (r : Bool) (w : World) (h : place_May.f k a0 a1 = some r) :
    Calls Tryd.prog 71 #[.int .u8 a0, .int .i64 a1] w fun e w' => e = .returned (.bool r) ∧ Below w.heap.size w w' := by
  unfold place_May.f at h
  obtain ⟨t, ht, h⟩ := Option.bind_eq_some_iff.mp h
  obtain ⟨⟨x, y, b⟩, hs, h⟩ := Option.bind_eq_some_iff.mp h
  cases b with
  | false =>
    obtain rfl := Option.some.inj (show some false = some r from h)
    exact may_no k a0 a1 t x y w ht hs
  | true =>
    rw [if_pos rfl] at h
    obtain ⟨d, hd, h⟩ := Option.bind_eq_some_iff.mp h
    by_cases c1 : d = 75
    · rw [if_pos c1] at h; exact may_palace k a0 a1 t x y r w ht hs (c1 ▸ hd) h
    · rw [if_neg c1] at h
      by_cases c2 : d = 65
      · rw [if_pos c2] at h; exact may_advisor k a0 a1 t x y r w ht hs (c2 ▸ hd) h
      · rw [if_neg c2] at h
        by_cases c3 : d = 66
        · rw [if_pos c3] at h; exact may_elephant k a0 a1 t x y r w ht hs (c3 ▸ hd) h
        · rw [if_neg c3] at h
          by_cases c4 : d = 80
          · rw [if_pos c4] at h; exact may_pawn k a0 a1 t x y r w ht hs (c4 ▸ hd) h
          · rw [if_neg c4] at h
            obtain rfl := Option.some.inj h
            exact may_else k a0 a1 t x y d w ht hs hd c1 c2 c3 c4

end Go.Proofs.YtkbimiimgcklaaaDoor.Print
