/- Merged by a program of this session (wip/gprint/merge.py): what this claim needs of this session's texts, each part as it was. -/
import Derived.Test.YtkbimiimgcklaaaDoorAllPlaceTurn7
import Derived.Test.YtkbimiimgcklaaaDoorAllPlaceTurn10
import Derived.Test.YtkbimiimgcklaaaDoorAllPlaceTurn14
import Derived.Test.YtkbimiimgcklaaaDoorAllPlaceTurn20
import Derived.Test.YtkbimiimgcklaaaDoorAllPlaceTurn23
import Derived.Test.YtkbimiimgcklaaaDoorAllPlaceTurn2
import Derived.RangeFuncNested
import Derived.RangeFuncBound
import Derived.RangeFuncCalls
import Derived.RangeFuncLeaves
import Derived.Shelf.Abstract
import Derived.Shelf.RegionOpen
import Derived.OwnWalkIn
import Derived.TacticsInMore
import Derived.LoopNIn
import Derived.LoopIn
import Derived.Maps.AppendAt
namespace Go.Proofs.YtkbimiimgcklaaaDoor.Print
end Go.Proofs.YtkbimiimgcklaaaDoor.Print

-- of YtkbimiimgcklaaaDoorPrint6
-- Written by a program of this session (wip/gprint/gprint.py) over the kit's print; the parts marked GIVEN by hand.
namespace Go.Proofs.YtkbimiimgcklaaaDoor.Print
open Go.RowKit Go.Proofs.YtkbimiimgcklaaaDoorW.PrintWords Go.Proofs.YtkbimiimgcklaaaDoorW.PrintLast Go.Proofs.YtkbimiimgcklaaaDoorW.PrintMore
attribute [local go_sem] max2_int min2_int max_two min_two max_three min_three max_four min_four   -- for this text's walks alone
set_option linter.unusedVariables false
set_option linter.unusedSimpArgs false

/-! GIVEN bits_Set_List -/
-- GIVEN (riverbank/bits.Set).List
-- MAKES yes
-- NEEDY yes
-- NEEDS (riverbank/bits.Set).First
-- NEEDS (riverbank/bits.Set).Without
-- NEEDS (riverbank/bits.Set).plain
-- IMPORT Derived.Test.YtkbimiimgcklaaaDoorSetMath
-- IMPORT Derived.Test.YtkbimiimgcklaaaDoorRangeC
-- IMPORT Derived.RangeFuncNested
-- IMPORT Derived.RangeFuncBound
-- IMPORT Derived.RangeFuncCalls
-- IMPORT Derived.RangeFuncLeaves
-- IMPORT Derived.Shelf.Abstract
-- IMPORT Derived.Shelf.RegionOpen
-- IMPORT Derived.OwnWalkIn
-- IMPORT Derived.TacticsInMore
-- IMPORT Derived.LoopNIn
-- IMPORT Derived.LoopIn
-- IMPORT Derived.Maps.AppendAt
open Go.Proofs.YtkbimiimgcklaaaDoor.RangeC Go.Proofs.YtkbimiimgcklaaaDoor.SetMath Go.Proofs.YtkbimiimgcklaaaDoor.BitMath Go.Shelf
attribute [local go_sem] Oper.semAt_some

/-- A set in block b. -/
def SetAt (W : World) (b : Nat) (lo hi : Int) : Prop := W.heap[b]? = some (.cells #[.int .u64 lo, .int .u64 hi] 24 (0, 0))
theorem SetAt.c0 {W : World} {b : Nat} {lo hi : Int} (h : SetAt W b lo hi) : W.cell? ⟨b, 0, none⟩ = some (.int .u64 lo) := (blk_cell h 0).trans rfl
theorem SetAt.c1 {W : World} {b : Nat} {lo hi : Int} (h : SetAt W b lo hi) : W.cell? ⟨b, 1, none⟩ = some (.int .u64 hi) := (blk_cell h 1).trans rfl
theorem SetAt.f0 {W : World} {b : Nat} {lo hi : Int} (h : SetAt W b lo hi) : W.frozen? ⟨b, 0, none⟩ = false := blk_frozen h 0
theorem SetAt.f1 {W : World} {b : Nat} {lo hi : Int} (h : SetAt W b lo hi) : W.frozen? ⟨b, 1, none⟩ = false := blk_frozen h 1
theorem SetAt.below {W w1 : World} {b : Nat} {lo hi : Int} (h : SetAt W b lo hi) (hb : Below W.heap.size W w1) : SetAt w1 b lo hi := blk_below h hb
theorem SetAt.put {W : World} {b : Nat} {lo hi : Int} (h : SetAt W b lo hi) (x y : Int) : SetAt ((W.setCell ⟨b, 0, none⟩ (.int .u64 x)).setCell ⟨b, 1, none⟩ (.int .u64 y)) b x y :=
  blk_put (cs := #[.int .u64 x, .int .u64 hi]) (blk_put (cs := #[.int .u64 lo, .int .u64 hi]) h 0 _ rfl) 1 _ rfl
theorem put_grown (W : World) (b : Nat) (u v : Value) : W.grownBy ((W.setCell ⟨b, 0, none⟩ u).setCell ⟨b, 1, none⟩ v) (some b) := by
  have h1 : W.grownBy (W.setCell ⟨b, 0, none⟩ u) (some b) := ⟨rfl, rfl, rfl, by simp, fun k _ hk => Below.heap_setCell _ _ _ k (fun e => hk (by rw [e]))⟩
  have h2 : (W.setCell ⟨b, 0, none⟩ u).grownBy ((W.setCell ⟨b, 0, none⟩ u).setCell ⟨b, 1, none⟩ v) (some b) := ⟨rfl, rfl, rfl, by simp, fun k _ hk => Below.heap_setCell _ _ _ k (fun e => hk (by rw [e]))⟩
  exact ⟨rfl, rfl, rfl, by simp, fun k hk hne => (h2.block k (by simpa using hk) hne).trans (h1.block k hk hne)⟩
/-- How many squares are left in the set in block b. -/
def leftS (b : Nat) (W : World) : Nat := match W.cell? ⟨b, 0, none⟩, W.cell? ⟨b, 1, none⟩ with
  | some (.int _ lo), some (.int _ hi) => (setL lo hi).length
  | _, _ => 0
theorem leftS_eq {W : World} {b : Nat} {lo hi : Int} (h : SetAt W b lo hi) : leftS b W = (setL lo hi).length := by unfold leftS; rw [h.c0, h.c1]
theorem tab_below {w W : World} {b : Nat} (h : TabHere w) (hb : Below b w W) (h0 : 0 < b) : TabHere W := fun j hj => (hb.cell (p := ⟨0, j, none⟩) h0).trans (h j hj)
set_option maxRecDepth 100000 in
set_option maxHeartbeats 2000000 in
/-- The iterator: it gives the squares, rising, and keeps what is left in its own variable. -/
theorem each1_all (n : Nat) (hn : 1 ≤ n) (lo hi : Int) (hlo : U lo) (hhi : U hi) (w : World) (b0 : Nat) (hs : SetAt w b0 lo hi) (hT : TabHere w) (h0b : 0 < b0) :
    SeqAll Fence.wide n Tryd.prog 114 #[.pointer (some ⟨b0, 0, none⟩)] (fun x : Int => #[.int .i64 x]) (setL lo hi) b0 w := by
  intro l J W hW hJ hJb hY h0
  have S0 : SetAt W b0 lo hi := (hW.block b0 (blk_lt hs)).trans hs
  have k0 := S0.c0
  have k1 := S0.c1
  have hpl := pl_can hlo hhi
  have hpe := setL_pl hlo hhi
  have HY := Aside0.mk hY
  have HJ := Aside0.mk hJ
  have HJb := Aside0.mk hJb
  have HT := Aside0.mk hT
  have HP := Aside0.mk (plain_f lo hi)
  obtain ⟨pa, hpa⟩ : ∃ x, x = pl lo := ⟨_, rfl⟩
  obtain ⟨pb, hpb⟩ : ∃ x, x = pl hi := ⟨_, rfl⟩
  rw [← hpa, ← hpb] at hpl hpe HP
  have HPL := Aside0.mk hpl
  have HPE := Aside0.mk hpe
  clear hY hJ hJb hT hpl hpe hpa hpb
  have hS0 := Aside0.mk S0
  have hH0 := Aside0.mk h0
  clear S0 h0
  refine callsIn_of_wp Tryd.func114 rfl trivial ?_ rfl
  simp only [Tryd.ntmps114, List.size_toArray, List.length_cons, List.length_nil, Nat.reduceAdd, Nat.reduceSub, Array.replicate_succ, Array.replicate_zero, List.push_toArray, List.append_toArray, List.nil_append, List.cons_append]
  gi_wp2
  refine ⟨trivial, ?_⟩
  refine (callsIn_wide.2 (bits_Set_plain.calls lo hi pa pb _ HP.out)).mono ?_
  rintro e w1 ⟨rfl, hb1⟩
  have S1 := hS0.out.below hb1
  have J1 := HJ.out _ _ _ none hH0.out (grown_of_below hb1 none) (fun _ e => by cases e)
  have S2 := S1.put pa pb
  have J2 := HJ.out _ _ _ (some b0) J1 (put_grown w1 b0 (.int .u64 pa) (.int .u64 pb)) (fun r e => by cases e; rfl)
  have j0 := S1.c0
  have j1 := S1.c1
  have g0 := S1.f0
  have g1 := S1.f1
  have hS2 := Aside0.mk S2
  have hJ2 := Aside0.mk J2
  clear S1 S2 J1 J2 hb1 hS0 hH0 k0 k1
  gi_wp2
  gi_loopw [3] (fun _ wr => ∃ (pre : List Int) (x y : Int), J pre wr ∧ SetAt wr b0 x y ∧ SetMath.Can x y ∧ setL lo hi = pre ++ setL x y) (fun _ wr => leftS b0 wr)
  case atStart =>
    exact ⟨[], pa, pb, hJ2.out, hS2.out, HPL.out, by rw [HPE.out]; rfl⟩
  case round =>
    clear hS2 hJ2 j0 j1 g0 g1
    obtain ⟨pre, x, y, hJr, hSr, hC, hL⟩ := hrel
    have q0 := hSr.c0
    have q1 := hSr.c1
    rcases setL_step hC with ⟨_, hnil, rfl, rfl⟩ | ⟨m, r, hF, hW', hCr, hcons, hne, hm⟩
    · have hE := Aside0.mk hnil
      have hLL := Aside0.mk hL
      have hJJ := Aside0.mk hJr
      clear hnil hL hC hSr hJr
      gi_wp2
      go_end0
      exact ⟨⟨_, rfl⟩, by rw [hLL.out, hE.out, List.append_nil]; exact hJJ.out⟩
    · have hTr : TabHere wr := tab_below HT.out (HJb.out _ _ hJr) h0b
      have HF := Aside0.mk hF
      have HW := Aside0.mk (hW' 0)
      have HC := Aside0.mk hCr
      have HL := Aside0.mk hL
      have HS := Aside0.mk hSr
      have HJR := Aside0.mk hJr
      have HCO := Aside0.mk hcons
      have HTR := Aside0.mk hTr
      have HXY := Aside0.mk hC
      obtain ⟨r1, r2⟩ := r
      clear hF hW' hCr hL hSr hJr hcons hTr hC
      have hcase : (x = 0 ∧ ¬ y = 0) ∨ ¬ x = 0 := by
        by_cases hx : x = 0
        · rcases hne with h | h
          · exact absurd hx h
          · exact .inl ⟨hx, h⟩
        · exact .inr hx
      clear hne
      rcases hcase with ⟨rfl, hy0⟩ | hx
      all_goals
        gi_wp2
        refine ⟨trivial, ?_⟩
        refine (callsIn_wide.2 (bits_Set_First.calls _ _ (m : Int) _ HTR.out HF.out)).mono ?_
        rintro e w2 ⟨rfl, hb2⟩
        have S2 := HS.out.below hb2
        have J2 := HJ.out _ _ _ none HJR.out (grown_of_below hb2 none) (fun _ e => by cases e)
        obtain ⟨fn, tmps, assign, body, hy, hR⟩ := HY.out pre m w2 J2 ⟨setL r1 r2, by rw [HL.out, HCO.out]; simp⟩
        have HR := Aside0.mk hR
        have hS2 := Aside0.mk S2
        clear S2 J2 hb2 hR q0 q1
        gi_wp2
        refine HR.out.mono ?_
        rintro e w3 ⟨rfl, J3, hk3⟩
        have S3 : SetAt w3 b0 _ y := (hk3.block b0 (Nat.lt_succ_self _)).trans hS2.out
        have q0 := S3.c0
        have q1 := S3.c1
        have hS3 := Aside0.mk S3
        have hJ3 := Aside0.mk J3
        clear S3 J3 hk3 hS2 HR hy
        gi_wp2
        refine ⟨trivial, ?_⟩
        refine (callsIn_wide.2 (bits_Set_Without.calls 1 _ _ _ r1 r2 _ HW.out)).mono ?_
        rintro e w4 ⟨rfl, hb4⟩
        have S4 := hS3.out.below hb4
        have J4 := HJ.out _ _ _ none hJ3.out (grown_of_below hb4 none) (fun _ e => by cases e)
        have q2 := S4.c0
        have q3 := S4.c1
        have f0 := S4.f0
        have f1 := S4.f1
        have S5 := Aside0.mk (S4.put r1 r2)
        have J5 := Aside0.mk (HJ.out _ _ _ (some b0) J4 (put_grown w4 b0 (.int .u64 r1) (.int .u64 r2)) (fun r e => by cases e; rfl))
        clear S4 J4 hb4 q0 q1 hS3 hJ3
        gi_wp2
        go_roundw
        case rel => exact ⟨pre ++ [(m : Int)], r1, r2, J5.out, S5.out, HC.out, by rw [HL.out, HCO.out]; simp⟩
        case measure => rw [leftS_eq S5.out, leftS_eq HS.out, HCO.out]; simp
theorem setL_short (lo hi : Int) : (setL lo hi).length ≤ 90 := by
  unfold setL
  have := List.length_filter_le (mem lo hi) (List.range 90)
  simp at this ⊢
  omega
theorem holds_kept {A B : World} {row : Option Nat} {n₀ Bx b0 : Nat} {t e : TypeId} {v : Value} {k : Nat} {xs : List Value} (hb : b0 < n₀) (hBx : n₀ ≤ Bx) (hv : Boxed A Bx t v) (hr : A.ownsRow n₀ e 1 v k xs) (hg : A.grownBy B row)
    (hrow : ∀ r, row = some r → r = b0 ∨ (∃ o : Obj, A.heap[r]? = some o ∧ o.isCells = false)) : Boxed B Bx t v ∧ B.ownsRow n₀ e 1 v k xs := by
  refine ⟨hv.kept hg (fun e' => ?_), hr.kept hg ?_⟩
  · rcases hrow Bx e'.symm with h | ⟨o, ho, hc⟩
    · omega
    · rw [show A.heap[Bx]? = _ from hv] at ho; cases ho; cases hc
  · rcases hr.2 with ⟨rfl, _⟩ | ⟨g, cap, cur, rfl, hle, hgb, _⟩
    · exact .inl rfl
    · refine .inr fun e' => ?_
      rcases hrow g (by simpa [Value.ownBlock] using e'.symm) with h | ⟨o, ho, hc⟩
      · omega
      · rw [hgb] at ho; cases ho; cases hc
theorem info_int : (Tryd.prog.info? 3).map (fun i => (i.zero, i.size, i.bytes)) = some (some (.int .i64 0), 1, 8) := by kernel_rfl
set_option maxRecDepth 100000 in
set_option maxHeartbeats 2000000 in
/-- AppendSeq, over the iterator whose set lies in the block right ahead. -/
theorem appendSeq_all (n : Nat) (hn : 3 ≤ n) (lo hi : Int) (hlo : U lo) (hhi : U hi) (w : World) (b0 : Nat) (hs : SetAt w b0 lo hi) (hT : TabHere w) (h0b : 0 < b0) (hw : w.heap.size = b0 + 1) :
    CallsIn Fence.wide n Tryd.prog 113 #[.slice none 0 0, .func (.func 114) #[] #[.pointer (some ⟨b0, 0, none⟩)]] w fun e w' =>
      ∃ v, e = .returned v ∧ w'.ownsRow w.heap.size 3 1 v (setL lo hi).length ((setL lo hi).map (Value.int .i64)) ∧ Below b0 w w' := by
  have h1 : 1 ≤ n := by omega
  have hw1 : w.heap.size ≤ b0 + 1 := by omega
  have hw2 : b0 + 1 ≤ w.heap.size := by omega
  clear hw
  obtain ⟨i0, hi0, hz0, hz1, hz2⟩ := info_parts info_int
  have hE := each1_all (n - 1) (by omega) lo hi hlo hhi w b0 hs hT h0b
  have hsh := setL_short lo hi
  obtain ⟨xs, hxs⟩ : ∃ xs, xs = setL lo hi := ⟨_, rfl⟩
  rw [← hxs] at hE hsh ⊢
  clear hxs
  have HE := Aside0.mk hE
  clear hE hs hT
  refine callsIn_of_wp_marks Tryd.func113 rfl trivial ?_ rfl
  simp only [Tryd.ntmps113, List.size_toArray, List.length_cons, List.length_nil, Nat.reduceAdd, Nat.reduceSub, Array.replicate_succ, Array.replicate_zero, List.push_toArray, List.append_toArray, List.nil_append, List.cons_append]
  gi_wp2
  have bO := Boxed.new w 33 (.slice none 0 0)
  have hB0 : Below w.heap.size w (w.alloc (.cells #[.slice none 0 0] 33)) := (Below.refl _ w).alloc (Nat.le_refl _) _
  refine wpIn_range_all rfl h1 (gf := 114) (lb := #[.pointer (some ⟨b0, 0, none⟩)]) rfl trivial (enters_of Tryd.func114 (by kernel_rfl) rfl) HE.out hB0 (by omega) (fun _ => rfl)
    (fun pre W => (∃ v, Boxed W w.heap.size 33 v ∧ W.ownsRow w.heap.size 3 1 v pre.length (pre.map (Value.int .i64))) ∧ Below b0 w W)
    (fun s A B row ⟨⟨v, hv, hr⟩, hb⟩ hg hrow => ⟨⟨v, holds_kept (by omega) (Nat.le_refl _) hv hr hg (fun r e => (hrow r e).imp id (fun h => h.2))⟩, hb.grown hg (by have := hb.size; omega) (fun k e => by rcases hrow k e with h | h; omega; have := h.1; simp at this; omega)⟩)
    (fun _ _ h => h.2)
    ⟨⟨_, bO, World.ownsRow_nil _ _ _ _⟩, hB0.mono (by omega)⟩
    (fun x => { tmps := #[.slice none 0 0, .func (.func 114) #[] #[.pointer (some ⟨b0, 0, none⟩)], .pointer (some ⟨w.heap.size, 0, none⟩), undef, .slice none 0 0, .int .i64 x, .func (.func 114) #[] #[.pointer (some ⟨b0, 0, none⟩)], .int .i64 x, undef, undef, undef, undef, undef], defers := [] }) ?assign ?body ?done
  case assign =>
    intro l x W K hK
    gi_wp2
    exact hK
  case body =>
    rintro l pre x W ⟨⟨v, hv, hrow⟩, hB⟩ hpre
    have hc := hv.cell
    have hlen : pre.length ≤ 90 := by have := hpre.length_le; simp at this; omega
    have hsz : w.heap.size ≤ W.heap.size := hB.size
    have HP := Aside0.mk hB
    clear hB hpre
    gi_wp2_with (gi_at_builtin; refine wpListIn_append_own _ rfl _ _ 33 rfl w.heap.size 3 i0 (.int .i64 0) 1 8 Tryd.underlying33 hi0 hz0 hz1 hz2 rfl (by decide) _ _ _ rfl (hrow.alloc _) ⟨W.heap.size, 0, none⟩ 1 1 [.int .i64 x] rfl rfl (cell_one_new _ _ _) (by simp [Value.oneCell']) (by unfold maxLen; omega) (by omega) (by simp; omega) ?_; intro v' w1 hown' hgrow _; obtain ⟨g', cap', rfl⟩ := ownsRow_succ hown'; obtain ⟨hv1, hv2, hr2, hk2, hb2⟩ := hv.appended (by decide) hrow hsz (Nat.le_refl _) hown' hgrow; have hc1 := hv1.cell; have hf1 := hv1.frozen)
    exact ⟨hk2.from _, ⟨⟨_, hv2, by simpa using hr2⟩, HP.out.trans (hb2.mono (by omega))⟩, hb2.mono (by omega)⟩
  case done =>
    rintro D W hD ⟨⟨v, hv, hrow⟩, hB⟩ hK
    have hc := hv.cell
    gi_wp2
    refine ⟨by simp, .inl ⟨_, _, rfl, run_takeDeferred hK, ?_⟩⟩
    exact ⟨_, results_tmp rfl _ _ _, v, rfl, ownsRow_putObj hrow _ hK rfl, hB.trans (belowK_b (w := w) (by omega) W D _ _ (by simp at hD; omega) hK rfl rfl)⟩
set_option maxHeartbeats 1000000 in
theorem each_calls (lo hi : Int) (w : World) : Calls Tryd.prog 89 #[.agg #[.int .u64 lo, .int .u64 hi]] w fun e w' =>
    e = .returned (.func (.func 114) #[] #[.pointer (some ⟨w.heap.size, 0, none⟩)]) ∧ w' = w.alloc (.cells #[.int .u64 lo, .int .u64 hi] 24) := by
  go_enter Tryd.func89, Tryd.ntmps89
  go_wp2
  go_ret
  exact ⟨rfl, rfl⟩
set_option maxHeartbeats 1000000 in
theorem collect_calls (lo hi : Int) (hlo : U lo) (hhi : U hi) (w : World) (b0 : Nat) (hs : SetAt w b0 lo hi) (hT : TabHere w) (h0b : 0 < b0) (hw : w.heap.size = b0 + 1) :
    Calls Tryd.prog 88 #[.func (.func 114) #[] #[.pointer (some ⟨b0, 0, none⟩)]] w fun e w' =>
      ∃ v, e = .returned v ∧ w'.ownsRow w.heap.size 3 1 v (setL lo hi).length ((setL lo hi).map (Value.int .i64)) ∧ Below b0 w w' := by
  have H := Aside0.mk (callsIn_wide.1 (appendSeq_all 6 (by omega) lo hi hlo hhi w b0 hs hT h0b hw))
  clear hw hs hT hlo hhi
  go_enter Tryd.func88, Tryd.ntmps88
  go_wp2_with (go_at_call 113; refine H.out.mono ?_; rintro e w' ⟨v, rfl, ho, hb⟩)
  go_ret
  exact ⟨v, rfl, ho, hb⟩
def bits_Set_List.f (a0_0 : Int) (a0_1 : Int) : Option (List Int) := if (0 ≤ a0_0 ∧ a0_0 < 18446744073709551616) ∧ 0 ≤ a0_1 ∧ a0_1 < 18446744073709551616 then some (setL a0_0 a0_1) else none
set_option maxHeartbeats 1000000 in
theorem bits_Set_List.calls (a0_0 : Int) (a0_1 : Int) (r : List Int) (w : World) (hT : TabHere w) (h : bits_Set_List.f a0_0 a0_1 = some r) :
    Calls Tryd.prog 33 #[.agg #[.int .u64 a0_0, .int .u64 a0_1]] w fun e w' => ∃ v0_ : Value, e = .returned (v0_) ∧ Kd.R (Kd.int .i64) 3 w' w.heap.size (fun _ => True) v0_ r ∧ Below w.heap.size w w' := by
  unfold bits_Set_List.f at h
  split at h
  case isFalse => cases h
  rename_i hr
  obtain rfl := Option.some.inj h
  clear h
  have h0 : 0 < w.heap.size := by
    have := hT 0 (by decide)
    exact World.block_lt_of_cell? w _ this
  have hB1 : Below w.heap.size w (w.alloc (.cells #[.int .u64 a0_0, .int .u64 a0_1] 24)) := (Below.refl _ w).alloc (Nat.le_refl _) _
  have hB2 : Below w.heap.size w ((w.alloc (.cells #[.int .u64 a0_0, .int .u64 a0_1] 24)).alloc (.cells #[.int .u64 a0_0, .int .u64 a0_1] 24)) := hB1.alloc (by simp) _
  have hC := collect_calls a0_0 a0_1 hr.1 hr.2 ((w.alloc (.cells #[.int .u64 a0_0, .int .u64 a0_1] 24)).alloc (.cells #[.int .u64 a0_0, .int .u64 a0_1] 24)) (w.heap.size + 1) (by have := blk_new (w.alloc (.cells #[.int .u64 a0_0, .int .u64 a0_1] 24)) (.cells #[.int .u64 a0_0, .int .u64 a0_1] 24); rw [World.size_alloc] at this; exact this) (tab_of hT hB2) (by omega) (by simp)
  have HC := Aside0.mk hC
  have HT := Aside0.mk hT
  clear hC hT hr h0 hB1
  go_enter Tryd.func33, Tryd.ntmps33
  go_wp2_with (first
    | (go_at_call 89; refine (each_calls a0_0 a0_1 _).mono ?_; rintro e w1 ⟨rfl, rfl⟩)
    | (go_at_call 88; refine HC.out.mono ?_; rintro e w2 ⟨v, rfl, ho, hb⟩))
  go_ret
  refine ⟨v, rfl, Kd.R_of_own (own_less ho (by simp; omega)) (fun _ _ => trivial), hB2.trans (hb.mono (by omega))⟩

end Go.Proofs.YtkbimiimgcklaaaDoor.Print
