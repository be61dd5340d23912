/- Merged by a program of this session (wip/gprint/merge.py): what this claim needs of this session's texts, each part as it was. -/
import Derived.Test.YtkbimiimgcklaaaDoorAllPlaceTurn7
import Derived.Test.YtkbimiimgcklaaaDoorAllPlaceTurn14
import Derived.Test.YtkbimiimgcklaaaDoorAllPlaceTurn27
import Derived.Test.YtkbimiimgcklaaaDoorAllPlaceTurn21
import Derived.Test.YtkbimiimgcklaaaDoorAllPlaceTurn15
import Derived.Test.YtkbimiimgcklaaaDoorAllPlaceTurn16
import Derived.Test.YtkbimiimgcklaaaDoorAllPlaceTurn17
import Derived.Test.YtkbimiimgcklaaaDoorAllPlaceTurn24
namespace Go.Proofs.YtkbimiimgcklaaaDoor.Print
end Go.Proofs.YtkbimiimgcklaaaDoor.Print

-- of YtkbimiimgcklaaaDoorPrint29
-- Written by a program of this session (wip/gprint/gprint.py) over the kit's print; the parts marked GIVEN by hand.
namespace Go.Proofs.YtkbimiimgcklaaaDoor.Print
open Go.RowKit Go.Proofs.YtkbimiimgcklaaaDoorW.PrintWords Go.Proofs.YtkbimiimgcklaaaDoorW.PrintLast Go.Proofs.YtkbimiimgcklaaaDoorW.PrintMore
attribute [local go_sem] max2_int min2_int max_two min_two max_three min_three max_four min_four   -- for this text's walks alone
set_option linter.unusedVariables false
set_option linter.unusedSimpArgs false

/-! GIVEN board_Pieces -/
-- GIVEN riverbank/board.Pieces
-- MAKES yes
-- NEEDY yes
-- NEEDS riverbank/board.Is
-- NEEDS riverbank/board.Side
-- NEEDS riverbank/board.Find
-- NEEDS (riverbank/bits.Set).With
-- NEEDS (riverbank/bits.Set).List
-- IMPORT Derived.Test.YtkbimiimgcklaaaDoorSetMathTwo
open Go.Proofs.YtkbimiimgcklaaaDoor.SetMath Go.Proofs.YtkbimiimgcklaaaDoor.BitMath
/-- A byte's side. -/
def sideOf (c : Int) : Int := (board_Side.f c).getD 0
theorem side_some (c : Int) : board_Side.f c = some (sideOf c) := by
  unfold sideOf board_Side.f strings_IndexByte.f
  simp only [Option.bind_some]
  split
  · rfl
  · split <;> rfl
def board_Pieces.f (a0 : ByteArray) (a1 : Int) : Option (List Int) := (board_Is.f a0).bind fun t => some (if t = true then soL (fun (n : Nat) => decide (a1 ≥ 0) && (sideOf (bt a0 n) == a1)) else [])
set_option maxHeartbeats 2000000 in
theorem pieces1_calls (c a1 : Int) (bx : Nat) (W : World) (h : W.cell? ⟨bx, 0, none⟩ = some (.int .i64 a1)) :
    Calls Tryd.prog 100 #[.int .u8 c, .pointer (some ⟨bx, 0, none⟩)] W fun e w' => e = .returned (.bool (decide (a1 ≥ 0) && (sideOf c == a1))) ∧ Below W.heap.size W w' := by
  have HS := Aside0.mk (side_some c)
  obtain ⟨s, hs⟩ : ∃ s, s = sideOf c := ⟨_, rfl⟩
  rw [← hs] at HS ⊢
  clear hs
  have quiet : ∀ m : Nat, Calls Tryd.prog 62 #[.int .u8 c] (W.drewN m) fun e w'' => e = .returned (.int .i64 s) ∧ ∃ q, w'' = W.drewN q := fun m =>
    Calls.quiet_of ((board_Side.calls c s _ HS.out).mono fun e w' ⟨he, hd⟩ => ⟨he, hd.out⟩)
  by_cases h0 : 0 ≤ a1
  · have hd : decide (0 ≤ a1) = true := decide_eq_true h0
    have hd2 : decide (a1 ≥ 0) = true := decide_eq_true h0
    rw [hd2]
    clear hd2
    go_enter Tryd.func100, Tryd.ntmps100
    go_wp2
    go_quiet ((go_at_call 62; exact quiet _))
    go_wp2
    go_ret
    exact ⟨by simp, pw_below_drewN (Below.refl _ _) _⟩
  · have hd : decide (0 ≤ a1) = false := decide_eq_false h0
    have hd2 : decide (a1 ≥ 0) = false := decide_eq_false h0
    rw [hd2]
    clear hd2
    go_enter Tryd.func100, Tryd.ntmps100
    go_wp2
    go_quiet (fail)
    go_wp2
    go_ret
    exact ⟨by simp, pw_below_drewN (Below.refl _ _) _⟩

set_option maxRecDepth 100000 in
set_option maxHeartbeats 2000000 in
theorem board_Pieces_set (a0 : ByteArray) (a1 : Int) (bx : Nat) (w : World) (hI : board_Is.f a0 = some true) (hc : w.cell? ⟨bx, 0, none⟩ = some (.int .i64 a1)) :
    Calls Tryd.prog 98 #[.string a0, .func (.func 100) #[] #[.pointer (some ⟨bx, 0, none⟩)]] w fun e w' =>
      ∃ lo hi, e = .returned (.agg #[.int .u64 lo, .int .u64 hi]) ∧ UpTo (fun (n : Nat) => decide (a1 ≥ 0) && (sideOf (bt a0 n) == a1)) 90 lo hi ∧ Below w.heap.size w w' := by
  have hbx : bx < w.heap.size := World.block_lt_of_cell? w _ hc
  have hsz : a0.size = 90 := by
    unfold board_Is.f at hI; have := Option.some.inj hI; simp at this; exact this.1
  have hs1 : a0.size ≤ 90 := by omega
  have hs2 : 90 ≤ a0.size := by omega
  have HI := Aside0.mk hI
  have HC := Aside0.mk hc
  clear hI hsz hc
  obtain ⟨p, hp⟩ : ∃ p : Nat → Bool, p = (fun (n : Nat) => decide (a1 ≥ 0) && (sideOf (bt a0 n) == a1)) := ⟨_, rfl⟩
  have hpe : ∀ k : Nat, k < 90 → ∀ c : Int, c = bt a0 k → ((fun (n : Nat) => decide (a1 ≥ 0) && (sideOf (bt a0 n) == a1))) k = p k := fun k _ c _ => by rw [hp]
  rw [← hp]
  have HP := Aside0.mk hp
  clear hp hpe
  have hB0 : Below w.heap.size w ((w.alloc (.cells #[.int .u64 0, .int .u64 0] 24)).alloc (.cells #[.int .u64 0, .int .u64 0] 24)) := ((Below.refl _ w).alloc (Nat.le_refl _) _).alloc (by simp) _
  have hR0 : SetAt ((w.alloc (.cells #[.int .u64 0, .int .u64 0] 24)).alloc (.cells #[.int .u64 0, .int .u64 0] 24)) w.heap.size 0 0 := blk_alloc (blk_new w _) _
  have hS0 : SetAt ((w.alloc (.cells #[.int .u64 0, .int .u64 0] 24)).alloc (.cells #[.int .u64 0, .int .u64 0] 24)) (w.heap.size + 1) 0 0 := by
    have := blk_new (w.alloc (.cells #[.int .u64 0, .int .u64 0] 24)) (.cells #[.int .u64 0, .int .u64 0] 24)
    rw [World.size_alloc] at this; exact this
  have HB0 := Aside0.mk hB0
  have HR0 := Aside0.mk hR0
  have HS0 := Aside0.mk hS0
  clear hB0 hR0 hS0
  go_enter Tryd.func98, Tryd.ntmps98
  go_wp2_with (go_at_call 50; (with_reducible refine (board_Is.calls a0 true _ HI.out).mono ?_); rintro e w1 ⟨rfl, hb1⟩)
  have HB1 := Aside0.mk (below_step HB0.out hb1)
  have HR1 := Aside0.mk (HR0.out.below hb1)
  have HS1 := Aside0.mk (HS0.out.below hb1)
  clear hb1 HB0 HR0 HS0
  go_loopw [9] (fun i wr => ∃ (k : Nat) (lo hi : Int), i = .int .i64 k ∧ k ≤ 90 ∧ SetAt wr w.heap.size 0 0 ∧ SetAt wr (w.heap.size + 1) lo hi ∧ UpTo p k lo hi ∧ Below w.heap.size w wr) (fun i _ => 90 - (intOf i).toNat)
  case atStart => exact ⟨0, 0, 0, rfl, by omega, HR1.out, HS1.out, UpTo.start p, HB1.out⟩
  case round =>
    clear HR1 HS1 HB1
    obtain ⟨k, lo, hi, rfl, hk, hR, hS, hU, hB⟩ := hrel
    have HR := Aside0.mk hR
    have HS := Aside0.mk hS
    have HB := Aside0.mk hB
    by_cases hlt : k < 90
    · have hk' : k < a0.size := by omega
      have ex : ((a0[k]'hk').toNat : Int) = bt a0 k := by simp [bt, hk']
      have hcell : wr.cell? ⟨bx, 0, none⟩ = some (.int .i64 a1) := (hB.cell (p := ⟨bx, 0, none⟩) hbx).trans HC.out
      have HCL := Aside0.mk (pieces1_calls (bt a0 k) a1 bx wr hcell)
      have hpk : (decide (a1 ≥ 0) && (sideOf (bt a0 k) == a1)) = p k := by rw [HP.out]
      rw [← ex] at HCL hpk
      rw [hpk] at HCL
      have s0 := hS.c0
      have s1 := hS.c1
      clear ex hR hB hcell hpk
      cases hb : p k with
      | true =>
        obtain ⟨x, y, hW, hU'⟩ := hU.yes hb
        rw [hb] at HCL
        have HW := Aside0.mk hW
        have HU := Aside0.mk hU'
        clear hW hU' hU hb hS
        go_wp2_with (first
          | (go_at_call 100; (with_reducible refine HCL.out.mono ?_); rintro e w2 ⟨rfl, hb2⟩; have HR2 := Aside0.mk (HR.out.below hb2); have HS2 := Aside0.mk (HS.out.below hb2); have HB2 := Aside0.mk (below_step HB.out hb2); clear hb2 HCL s0 s1; have s0 := HS2.out.c0; have s1 := HS2.out.c1)
          | (go_at_call 38; (with_reducible refine (bits_Set_With.calls 1 lo hi (k : Int) x y _ HW.out).mono ?_); rintro e w3 ⟨rfl, hb3⟩; have HR3 := Aside0.mk (HR2.out.below hb3); have HS3 := Aside0.mk (HS2.out.below hb3); have HB3 := Aside0.mk (below_step HB2.out hb3); clear hb3; have s2 := HS3.out.c0; have s3 := HS3.out.c1; have f2 := HS3.out.f0; have f3 := HS3.out.f1))
        go_roundw
        case rel => exact ⟨k + 1, x, y, by go_num, by omega, blk_far (blk_far HR3.out (p := ⟨w.heap.size + 1, 0, none⟩) (by simp) _) (p := ⟨w.heap.size + 1, 1, none⟩) (by simp) _, HS3.out.put x y, HU.out, (HB3.out.setCell (p := ⟨w.heap.size + 1, 0, none⟩) (by simp) _).setCell (p := ⟨w.heap.size + 1, 1, none⟩) (by simp) _⟩
        case measure => simp [intOf]; omega
      | false =>
        have hU' := hU.no hb
        rw [hb] at HCL
        have HU := Aside0.mk hU'
        clear hU' hU hb hS s0 s1
        go_wp2_with (go_at_call 100; (with_reducible refine HCL.out.mono ?_); rintro e w2 ⟨rfl, hb2⟩; have HR2 := Aside0.mk (HR.out.below hb2); have HS2 := Aside0.mk (HS.out.below hb2); have HB2 := Aside0.mk (below_step HB.out hb2); clear hb2 HCL)
        go_roundw
        case rel => exact ⟨k + 1, lo, hi, by go_num, by omega, HR2.out, HS2.out, HU.out, HB2.out⟩
        case measure => simp [intOf]; omega
    · obtain rfl : k = 90 := by omega
      have HU := Aside0.mk hU
      have s0 := hS.c0
      have s1 := hS.c1
      have r0 := hR.c0
      have r1 := hR.c1
      have f0 := hR.f0
      have f1 := hR.f1
      clear hU hS hR hB
      go_wp2
      refine bodyPost_ret (results_cell_row rfl _ _ w.heap.size 24 #[.int .u64 lo, .int .u64 hi] (0, 0) _ rfl (HR.out.put lo hi) Tryd.underlying24 rfl (by kernel_rfl)) rfl ?_
      exact ⟨lo, hi, rfl, HU.out, (HB.out.setCell (p := ⟨w.heap.size, 0, none⟩) (by simp) _).setCell (p := ⟨w.heap.size, 1, none⟩) (by simp) _⟩
set_option maxRecDepth 100000 in
set_option maxHeartbeats 2000000 in
theorem board_Pieces_set_no (a0 : ByteArray) (bx : Nat) (w : World) (hI : board_Is.f a0 = some false) :
    Calls Tryd.prog 98 #[.string a0, .func (.func 100) #[] #[.pointer (some ⟨bx, 0, none⟩)]] w fun e w' =>
      e = .returned (.agg #[.int .u64 0, .int .u64 0]) ∧ Below w.heap.size w w' := by
  have HI := Aside0.mk hI
  clear hI
  have hB0 : Below w.heap.size w ((w.alloc (.cells #[.int .u64 0, .int .u64 0] 24)).alloc (.cells #[.int .u64 0, .int .u64 0] 24)) := ((Below.refl _ w).alloc (Nat.le_refl _) _).alloc (by simp) _
  have hR0 : SetAt ((w.alloc (.cells #[.int .u64 0, .int .u64 0] 24)).alloc (.cells #[.int .u64 0, .int .u64 0] 24)) w.heap.size 0 0 := blk_alloc (blk_new w _) _
  have hS0 : SetAt ((w.alloc (.cells #[.int .u64 0, .int .u64 0] 24)).alloc (.cells #[.int .u64 0, .int .u64 0] 24)) (w.heap.size + 1) 0 0 := by
    have := blk_new (w.alloc (.cells #[.int .u64 0, .int .u64 0] 24)) (.cells #[.int .u64 0, .int .u64 0] 24)
    rw [World.size_alloc] at this; exact this
  have HB0 := Aside0.mk hB0
  have HR0 := Aside0.mk hR0
  have HS0 := Aside0.mk hS0
  clear hB0 hR0 hS0
  go_enter Tryd.func98, Tryd.ntmps98
  go_wp2_with (go_at_call 50; (with_reducible refine (board_Is.calls a0 false _ HI.out).mono ?_); rintro e w1 ⟨rfl, hb1⟩; have HB1 := Aside0.mk (below_step HB0.out hb1); have HR1 := Aside0.mk (HR0.out.below hb1); have HS1 := Aside0.mk (HS0.out.below hb1); clear hb1; have s0 := HS1.out.c0; have s1 := HS1.out.c1; have r0 := HR1.out.c0; have r1 := HR1.out.c1; have f0 := HR1.out.f0; have f1 := HR1.out.f1)
  refine bodyPost_ret (results_cell_row rfl _ _ w.heap.size 24 #[.int .u64 0, .int .u64 0] (0, 0) _ rfl (HR1.out.put 0 0) Tryd.underlying24 rfl (by kernel_rfl)) rfl ?_
  exact ⟨rfl, (HB1.out.setCell (p := ⟨w.heap.size, 0, none⟩) (by simp) _).setCell (p := ⟨w.heap.size, 1, none⟩) (by simp) _⟩
set_option maxHeartbeats 1000000 in
theorem board_Pieces.calls (a0 : ByteArray) (a1 : Int) (r : List Int) (w : World) (hT : TabHere w) (h : board_Pieces.f a0 a1 = some r) :
    Calls Tryd.prog 58 #[.string a0, .int .i64 a1] w fun e w' => ∃ v0_ : Value, e = .returned (v0_) ∧ Kd.R (Kd.int .i64) 3 w' w.heap.size (fun _ => True) v0_ r ∧ Below w.heap.size w w' := by
  have hB1 : Below w.heap.size w (w.alloc (.cells #[.int .i64 a1] 3)) := (Below.refl _ w).alloc (Nat.le_refl _) _
  have hcell : (w.alloc (.cells #[.int .i64 a1] 3)).cell? ⟨w.heap.size, 0, none⟩ = some (.int .i64 a1) := (blk_cell (blk_new w _) 0).trans rfl
  unfold board_Pieces.f at h
  obtain ⟨t, ht, h⟩ := Option.bind_eq_some_iff.mp h
  have e := Option.some.inj h
  clear h
  cases t with
  | true =>
    rw [if_pos rfl] at e
    have HS := Aside0.mk (board_Pieces_set a0 a1 w.heap.size (w.alloc (.cells #[.int .i64 a1] 3)) ht hcell)
    have HB1 := Aside0.mk hB1
    have HT := Aside0.mk hT
    have HE := Aside0.mk e
    clear hcell ht hT e hB1
    go_enter Tryd.func58, Tryd.ntmps58
    go_wp2_with (first
      | (go_at_call 98; (with_reducible refine HS.out.mono ?_); rintro e w2 ⟨lo, hi, rfl, hU, hb⟩; have HU := Aside0.mk hU; have HB2 := Aside0.mk (below_step HB1.out hb); have HL : Aside0 (bits_Set_List.f lo hi = some r) := ⟨by unfold bits_Set_List.f; rw [if_pos ⟨hU.can.lo, hU.can.hi⟩, hU.list, HE.out]⟩; clear hU hb)
      | (go_at_call 33; (with_reducible refine (bits_Set_List.calls lo hi r _ (tab_of HT.out HB2.out) HL.out).mono ?_); rintro e w3 ⟨v, rfl, ho, hb3⟩; have HB3 := Aside0.mk (below_step HB2.out hb3); have HO := Aside0.mk (Kd.R_lower ho HB2.out.size); clear hb3 ho))
    go_ret
    exact ⟨v, rfl, HO.out, HB3.out⟩
  | false =>
    rw [if_neg (by decide)] at e
    subst e
    have HS := Aside0.mk (board_Pieces_set_no a0 w.heap.size (w.alloc (.cells #[.int .i64 a1] 3)) ht)
    have HB1 := Aside0.mk hB1
    have HT := Aside0.mk hT
    have HL : Aside0 (bits_Set_List.f 0 0 = some []) := ⟨by unfold bits_Set_List.f; rw [if_pos (by decide), setL_zero]⟩
    clear hcell ht hT hB1
    go_enter Tryd.func58, Tryd.ntmps58
    go_wp2_with (first
      | (go_at_call 98; (with_reducible refine HS.out.mono ?_); rintro e w2 ⟨rfl, hb⟩; have HB2 := Aside0.mk (below_step HB1.out hb); clear hb)
      | (go_at_call 33; (with_reducible refine (bits_Set_List.calls 0 0 [] _ (tab_of HT.out HB2.out) HL.out).mono ?_); rintro e w3 ⟨v, rfl, ho, hb3⟩; have HB3 := Aside0.mk (below_step HB2.out hb3); have HO := Aside0.mk (Kd.R_lower ho HB2.out.size); clear hb3 ho))
    go_ret
    exact ⟨v, rfl, HO.out, HB3.out⟩

end Go.Proofs.YtkbimiimgcklaaaDoor.Print
