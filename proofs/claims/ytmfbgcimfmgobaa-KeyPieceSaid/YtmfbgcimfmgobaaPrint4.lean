-- Written by a program of this session (wip/gprint/gprint.py) over the kit's print; the parts marked GIVEN by hand.
import Derived.Test.YtmfbgcimfmgobaaPrint0
import Derived.Test.YtmfbgcimfmgobaaPrint1
import Derived.Test.YtmfbgcimfmgobaaRangeB
import Derived.RangeFuncLeaves
import Derived.RangeFuncBound
import Derived.Shelf.Abstract
import Derived.Shelf.RegionOpen
import Derived.OwnWalkIn
import Derived.TacticsInMore
import Derived.LoopNIn
import Derived.LoopIn
namespace Go.Proofs.Ytmfbgcimfmgobaa.Print
open Go.RowKit Go.Proofs.YtmfbgcimfmgobaaW.PrintWords Go.Proofs.YtmfbgcimfmgobaaW.PrintLast Go.Proofs.YtmfbgcimfmgobaaW.PrintMore
attribute [local go_sem] max2_int min2_int max_two min_two max_three min_three max_four min_four   -- for this text's walks alone
set_option linter.unusedVariables false
set_option linter.unusedSimpArgs false

/-! GIVEN key_number -/
-- GIVEN riverbank/key.number
-- MAKES yes
-- NEEDS riverbank/key.Next
-- IMPORT Derived.Test.YtmfbgcimfmgobaaRangeB
-- IMPORT Derived.RangeFuncLeaves
-- IMPORT Derived.RangeFuncBound
-- IMPORT Derived.Shelf.Abstract
-- IMPORT Derived.Shelf.RegionOpen
-- IMPORT Derived.OwnWalkIn
-- IMPORT Derived.TacticsInMore
-- IMPORT Derived.LoopNIn
-- IMPORT Derived.LoopIn
open Go.Proofs.Ytmfbgcimfmgobaa.RangeB Go.Shelf
attribute [local go_sem] Oper.semAt_some

/-- The row of numbers. -/
def nextN (x : Int) : Int := (key_Next.f x).getD 0
def rowN : Nat → Int
  | 0 => 7640891576956012809
  | n + 1 => nextN (rowN n)
def key_number.f (a0 : Int) : Option (Int) := if 0 ≤ a0 ∧ a0 ≤ 1261 then some (rowN a0.toNat) else none
abbrev rowEnc (i : Nat) : Array Value := #[.int .i64 i, .int .u64 (rowN i)]
theorem next_is (i : Nat) : key_Next.f (rowN i) = some (rowN (i + 1)) := rfl

set_option maxRecDepth 100000 in
set_option maxHeartbeats 1000000 in
theorem row_endless (n : Nat) (hn : 2 ≤ n) (N : Nat) (hN : N ≤ 1000000) (w : World) : SeqEndless Fence.wide n Try.prog 70 #[] rowEnc (fun k x => x = k) N w := fun l J Jx W hW hJ hJx hB hY h0 => by
  have h1 : 1 ≤ n := by omega
  refine callsIn_of_wp Try.func70 rfl trivial ?_ rfl
  simp only [Try.ntmps70, List.size_toArray, List.length_cons, List.length_nil, Nat.reduceAdd, Nat.reduceSub, Array.replicate_succ, Array.replicate_zero, List.push_toArray, List.append_toArray, List.nil_append, List.cons_append]
  gi_wp2
  gi_loopw [2, 3] (fun x i wr => ∃ pre : List Nat, x = .int .u64 (rowN pre.length) ∧ i = .int .i64 pre.length ∧ J pre wr)
    (fun _ i _ => N - (intOf i).toNat)
  case atStart => exact ⟨[], rfl, rfl, h0⟩
  case round =>
    obtain ⟨pre, rfl, rfl, hj⟩ := hrel
    have hlen := hB _ _ hj
    obtain ⟨fn, tmps, assign, body, hy, hR⟩ := hY pre pre.length wr hj rfl
    dsimp only [rowEnc] at hy
    gi_wp2
    refine hR.mono ?_
    rintro e W3 (⟨rfl, hJ3⟩ | ⟨rfl, hJx3⟩)
    · gi_wp2_with (refine ⟨trivial, ?_⟩; gi_at_call 16; refine (callsIn_wide.2 (key_Next.calls _ _ _ (next_is pre.length))).mono ?_; rintro e w' ⟨rfl, ⟨q, rfl⟩⟩)
      go_roundw
      case rel =>
        refine ⟨pre ++ [pre.length], by simp, by simp, ?_⟩
        exact hJ _ _ _ none hJ3 ⟨rfl, rfl, rfl, Nat.le_refl _, fun _ _ _ => rfl⟩ (fun r e => by cases e)
      case measure => simp [intOf]; omega
    · gi_wp2
      go_end0
      exact ⟨⟨_, rfl⟩, _, hJx3⟩
theorem cell_of_block1 {W : World} {B : Nat} {v : Value} {t : TypeId} (h : W.heap[B]? = some (.cells #[v] t (0, 0))) : W.cell? ⟨B, 0, none⟩ = some v ∧ W.frozen? ⟨B, 0, none⟩ = false := by
  constructor <;> simp [World.cell?, World.frozen?, h]
theorem cell_new (W : World) (v : Value) (t : TypeId) : (W.alloc (.cells #[v] t)).cell? ⟨W.heap.size, 0, none⟩ = some v ∧ (W.alloc (.cells #[v] t)).frozen? ⟨W.heap.size, 0, none⟩ = false := by
  exact cell_of_block1 (World.alloc_heap_new W _)
theorem cell_later_alloc {W : World} {a : Addr} {v : Value} (o : Obj) (h : W.cell? a = some v) : (W.alloc o).cell? a = some v := cell_kept h (World.grownBy_alloc W o none) (fun r e => by cases e)
theorem frozen_later_alloc {W : World} {a : Addr} {v : Value} (o : Obj) (h : W.cell? a = some v) (hf : W.frozen? a = false) : (W.alloc o).frozen? a = false := (frozen_kept h (World.grownBy_alloc W o none) (fun r e => by cases e)).trans hf

set_option maxHeartbeats 1000000 in
theorem key_row_in (n : Nat) (w : World) : CallsIn Fence.wide n Try.prog 51 #[] w fun e w' => e = .returned (.func (.func 70) #[] #[]) ∧ w = w' := by
  refine callsIn_of_wp Try.func51 rfl trivial ?_ rfl
  simp only [Try.ntmps51, List.size_toArray, List.length_cons, List.length_nil, Nat.reduceAdd, Nat.reduceSub, Array.replicate_succ, Array.replicate_zero, List.push_toArray, List.append_toArray, List.nil_append, List.cons_append]
  gi_wp2
  go_ret
  exact ⟨rfl, rfl⟩

set_option maxRecDepth 100000 in
set_option maxHeartbeats 2000000 in
theorem key_number.calls (a0 : Int) (r : Int) (w : World) (h : key_number.f a0 = some r) :
    Calls Try.prog 48 #[.int .i64 a0] w fun e w' => e = .returned (.int .u64 r) ∧ Below w.heap.size w w' := by
  have hp : 0 ≤ a0 ∧ a0 ≤ 1261 := by
    unfold key_number.f at h; split at h
    · assumption
    · cases h
  have hr : r = rowN a0.toNat := by
    unfold key_number.f at h; rw [if_pos hp] at h; exact (Option.some.inj h).symm
  subst hr
  clear h
  obtain ⟨p, rfl⟩ : ∃ p : Nat, a0 = p := ⟨a0.toNat, by omega⟩
  have hp1 : p ≤ 1261 := by omega
  clear hp
  simp only [Int.toNat_natCast]
  refine (callsIn_wide (n := 6)).1 ?_
  have h1 : 1 ≤ 6 := by decide
  refine callsIn_of_wp_marks Try.func48 rfl trivial ?_ rfl
  simp only [Try.ntmps48, List.size_toArray, List.length_cons, List.length_nil, Nat.reduceAdd, Nat.reduceSub, Array.replicate_succ, Array.replicate_zero, List.push_toArray, List.append_toArray, List.nil_append, List.cons_append]
  gi_wp2_with (refine ⟨trivial, ?_⟩; gi_at_call 51; refine (key_row_in _ _).mono ?_; rintro e w' ⟨rfl, rfl⟩)
  have hs := cell_new w (.int .i64 p) 3
  have hb := cell_new (w.alloc (.cells #[.int .i64 p] 3)) (.int .u64 0) 22
  rw [World.size_alloc] at hb
  have hB0 : Below w.heap.size w ((w.alloc (.cells #[.int .i64 p] 3)).alloc (.cells #[.int .u64 0] 22)) := ((Below.refl _ w).alloc (Nat.le_refl _) _).alloc (by simp) _
  refine wpIn_range_endless rfl h1 (gf := 70) (lb := #[]) rfl trivial (enters_of Try.func70 (by kernel_rfl) rfl) (row_endless 5 (by decide) (p + 1) (by omega) _) (Below.refl _ _) (fun _ => rfl)
    (fun pre W => ((W.cell? ⟨w.heap.size, 0, none⟩ = some (.int .i64 p) ∧ W.cell? ⟨w.heap.size + 1, 0, none⟩ = some (.int .u64 0) ∧ W.frozen? ⟨w.heap.size + 1, 0, none⟩ = false) ∧ pre.length ≤ p) ∧ Below w.heap.size w W)
    (fun c pre W => (c = .ret ∧ W.cell? ⟨w.heap.size + 1, 0, none⟩ = some (.int .u64 (rowN p))) ∧ Below w.heap.size w W)
    (OwnFrom.and (OwnFrom.and (fun s A B row hs hg hr => ⟨cell_kept hs.1 hg (fun r e => (hr r e).2), cell_kept hs.2.1 hg (fun r e => (hr r e).2), (frozen_kept hs.2.1 hg (fun r e => (hr r e).2)).trans hs.2.2⟩) (fun _ _ _ _ hs _ _ => hs)) (ownFrom_below (Nat.le_refl _) (by simp; omega)))
    (fun c => OwnFrom.and (fun s A B row hs hg hr => ⟨hs.1, cell_kept hs.2 hg (fun r e => (hr r e).2)⟩) (ownFrom_below (Nat.le_refl _) (by simp; omega)))
    (fun pre W hi => by have := hi.1.2; omega)
    ⟨⟨⟨cell_later_alloc _ hs.1, hb.1, hb.2⟩, by simp⟩, hB0⟩
    (fun i => { tmps := #[.int .i64 p, .pointer (some ⟨w.heap.size, 0, none⟩), .pointer (some ⟨w.heap.size + 1, 0, none⟩), .int .i64 i, .int .u64 (rowN i), .func (.func 70) #[] #[], .int .i64 i, .int .u64 (rowN i), undef, undef, undef, undef], defers := [] }) ?assign ?body ?stop
  case assign =>
    intro l x W K hK
    gi_wp2
    exact hK
  case body =>
    rintro l pre x W ⟨⟨⟨hc, hc2, hf2⟩, hlen⟩, hB⟩ rfl
    by_cases e : pre.length = p
    · have he : ((pre.length : Int) == (p : Int)) = true := by simp [e]
      gi_wp2
      exact ⟨(KeepsOthers.setCell _ _ _).from _, ⟨rfl, World.cell?_setCell_same' _ _ _ (by rw [hc2]; rfl)⟩, hB.setCell (p := ⟨w.heap.size + 1, 0, none⟩) (by simp) _⟩
    · have he : ((pre.length : Int) == (p : Int)) = false := by simp; omega
      gi_wp2
      exact ⟨(KeepsOthers.refl _).from _, ⟨⟨hc, hc2, hf2⟩, by simp; omega⟩, hB⟩
  case stop =>
    rintro D c pre W hD ⟨⟨rfl, hc⟩, hB⟩ hK
    gi_wp2
    refine ⟨by simp, .inl ⟨_, _, rfl, run_takeDeferred hK, ?_⟩⟩
    have hc5 := cell_kept hc (grownBy_putObj' _ D (.deferred none)) (fun r e => by cases e; exact ⟨_, hK, rfl⟩)
    refine ⟨.int .u64 (rowN p), ?_, rfl, hB.trans (belowK_b (w := w) (Nat.le_refl _) W D _ _ (by simp at hD; omega) hK rfl rfl)⟩
    simp [results, Try.f48, go_sem, hc5]

end Go.Proofs.Ytmfbgcimfmgobaa.Print
