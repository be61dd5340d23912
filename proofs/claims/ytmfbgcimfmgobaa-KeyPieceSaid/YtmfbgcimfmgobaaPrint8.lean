-- Written by a program of this session (wip/gprint/gprint.py) over the kit's print; the parts marked GIVEN by hand.
import Derived.Test.YtmfbgcimfmgobaaPrint0
import Derived.Test.YtmfbgcimfmgobaaPrint1
import Derived.Test.YtmfbgcimfmgobaaPrint5
import Derived.Test.YtmfbgcimfmgobaaPrint6
import Derived.Test.YtmfbgcimfmgobaaPrint7
import Derived.Test.YtmfbgcimfmgobaaKeyMath
import Derived.Test.YtmfbgcimfmgobaaBytes
import Derived.Deep.RegionWith
namespace Go.Proofs.Ytmfbgcimfmgobaa.Print
open Go.RowKit Go.Proofs.YtmfbgcimfmgobaaW.PrintWords Go.Proofs.YtmfbgcimfmgobaaW.PrintLast Go.Proofs.YtmfbgcimfmgobaaW.PrintMore
attribute [local go_sem] max2_int min2_int max_two min_two max_three min_three max_four min_four   -- for this text's walks alone
set_option linter.unusedVariables false
set_option linter.unusedSimpArgs false

/-! GIVEN riverbanklaw10_live -/
-- GIVEN riverbank/riverbanklaw10.live
-- MAKES yes
-- IMPORT Derived.Test.YtmfbgcimfmgobaaKeyMath
-- IMPORT Derived.Test.YtmfbgcimfmgobaaBytes
-- IMPORT Derived.Deep.RegionWith
open Go.Proofs.Ytmfbgcimfmgobaa.KeyMath
def startB : ByteArray := ⟨#[82, 78, 66, 65, 75, 65, 66, 78, 82, 46, 46, 46, 46, 46, 46, 46, 46, 46, 46, 67, 46, 46, 46, 46, 46, 67, 46, 80, 46, 80, 46, 80, 46, 80, 46, 80, 46, 46, 46, 46, 46, 46, 46, 46, 46, 46, 46, 46, 46, 46, 46, 46, 46, 46, 112, 46, 112, 46, 112, 46, 112, 46, 112, 46, 99, 46, 46, 46, 46, 46, 99, 46, 46, 46, 46, 46, 46, 46, 46, 46, 46, 114, 110, 98, 97, 107, 97, 98, 110, 114]⟩
theorem start_is : board_Is.f startB = some true := by decide +kernel
def riverbanklaw10_live.f : Option (Bool) := some true
/-- Two positions in memory: the start, and the start with black to move. -/
structure Boxes (W : World) (b c : Nat) (s : ByteArray) : Prop where
  p0 : W.cell? ⟨b, 0, none⟩ = some (.string s)
  p1 : W.cell? ⟨b, 1, none⟩ = some (.int .i64 0)
  p2 : W.cell? ⟨b, 2, none⟩ = some (.int .i64 0)
  p3 : W.cell? ⟨b, 3, none⟩ = some (.int .i64 1)
  q0 : W.cell? ⟨c, 0, none⟩ = some (.string s)
  q1 : W.cell? ⟨c, 1, none⟩ = some (.int .i64 1)
  q2 : W.cell? ⟨c, 2, none⟩ = some (.int .i64 9)
  q3 : W.cell? ⟨c, 3, none⟩ = some (.int .i64 1)
theorem cell_past {W W' w3 : World} {b o : Nat} {v : Value} (h : W.cell? ⟨b, o, none⟩ = some v) (hh : W'.heap = W.heap) (hb : Below W'.heap.size W' w3) : w3.cell? ⟨b, o, none⟩ = some v := by
  have hlt := World.block_lt_of_cell? W _ h
  have e : W'.cell? ⟨b, o, none⟩ = W.cell? ⟨b, o, none⟩ := by simp only [World.cell?, hh]
  exact (hb.cell (p := ⟨b, o, none⟩) (by rw [hh]; exact hlt)).trans (e.trans h)
theorem Boxes.later {W W' w3 : World} {b c : Nat} {s : ByteArray} (h : Boxes W b c s) (hb : Below W'.heap.size W' w3) (hh : W'.heap = W.heap) : Boxes w3 b c s :=
  ⟨cell_past h.p0 hh hb, cell_past h.p1 hh hb, cell_past h.p2 hh hb, cell_past h.p3 hh hb, cell_past h.q0 hh hb, cell_past h.q1 hh hb, cell_past h.q2 hh hb, cell_past h.q3 hh hb⟩
theorem boxes_new (w : World) (s : ByteArray) : Boxes ((w.alloc (.cells #[.string s, .int .i64 0, .int .i64 0, .int .i64 1] 29)).alloc (.cells #[.string s, .int .i64 1, .int .i64 9, .int .i64 1] 29)) w.heap.size (w.heap.size + 1) s := by
  constructor <;> simp
set_option maxRecDepth 100000 in
set_option maxHeartbeats 6000000 in
theorem riverbanklaw10_live.calls (r : Bool) (w : World) (h : riverbanklaw10_live.f = some r) :
    Calls Try.prog 22 #[] w fun e w' => e = .returned (.bool r) ∧ Below w.heap.size w w' := by
  obtain rfl := Option.some.inj h
  clear h
  have n1 : Aside0 (key_Next.f 1 = some 1082269761) := ⟨by decide +kernel⟩
  have n2 : Aside0 (key_Next.f 7640891576956012809 = some 8225832080697643739) := ⟨by decide +kernel⟩
  have c1 : Aside0 (key_Cell.f 75 0 = some 8225832080697643739) := ⟨by decide +kernel⟩
  have c2 : Aside0 (key_Cell.f 46 0 = some 0) := ⟨by decide +kernel⟩
  have c3 : Aside0 (key_Cell.f 75 90 = some 0) := ⟨by decide +kernel⟩
  have k1 : Aside0 (key_Of.f startB 0 0 1 = some (keyV startB 0 : Int)) := ⟨key_Of_board startB 0 0 1 start_is⟩
  have k2 : Aside0 (key_Of.f startB 1 9 1 = some (keyV startB 1 : Int)) := ⟨key_Of_board startB 1 9 1 start_is⟩
  have k3 : Aside0 (key_Of.f ⟨#[]⟩ 0 0 0 = some 0) := ⟨key_Of_other ⟨#[]⟩ 0 0 0 (by decide +kernel)⟩
  have t1 : Aside0 (key_Turn.f = some (rowNat 1261 : Int)) := ⟨turn_f⟩
  have x1 := key_sides startB
  have x2 := row_nz (i := 1261) (by omega)
  obtain ⟨A, hA⟩ : ∃ A : Int, A = (keyV startB 0 : Int) := ⟨_, rfl⟩
  obtain ⟨B, hB⟩ : ∃ B : Int, B = (keyV startB 1 : Int) := ⟨_, rfl⟩
  obtain ⟨T, hT⟩ : ∃ T : Int, T = (rowNat 1261 : Int) := ⟨_, rfl⟩
  have y1 : (Go.bits .xor .u64 A B == T) = true := by rw [hA, hB, hT, x1]; simp
  have y2 : (T != 0) = true := by rw [hT]; simp; omega
  rw [← hA] at k1
  rw [← hB] at k2
  rw [← hT] at t1
  clear x1 x2 hA hB hT
  unfold startB at k1 k2
  go_enter Try.func22, Try.ntmps22
  go_wp2_with (go_at_call 16; (with_reducible refine (key_Next.calls _ _ _ n2.out).mono ?_); rintro e w' ⟨rfl, ⟨q, rfl⟩⟩)
  have hx0 := boxes_new w startB
  have hB0 : Below w.heap.size w ((w.alloc (.cells #[.string startB, .int .i64 0, .int .i64 0, .int .i64 1] 29)).alloc (.cells #[.string startB, .int .i64 1, .int .i64 9, .int .i64 1] 29)) := ((Below.refl _ w).alloc (Nat.le_refl _) _).alloc (by simp) _
  unfold startB at hx0 hB0
  obtain ⟨W0, hW0⟩ : ∃ W0, W0 = (w.alloc (.cells #[.string ⟨#[82, 78, 66, 65, 75, 65, 66, 78, 82, 46, 46, 46, 46, 46, 46, 46, 46, 46, 46, 67, 46, 46, 46, 46, 46, 67, 46, 80, 46, 80, 46, 80, 46, 80, 46, 80, 46, 46, 46, 46, 46, 46, 46, 46, 46, 46, 46, 46, 46, 46, 46, 46, 46, 46, 112, 46, 112, 46, 112, 46, 112, 46, 112, 46, 99, 46, 46, 46, 46, 46, 99, 46, 46, 46, 46, 46, 46, 46, 46, 46, 46, 114, 110, 98, 97, 107, 97, 98, 110, 114]⟩, .int .i64 0, .int .i64 0, .int .i64 1] 29)).alloc (.cells #[.string ⟨#[82, 78, 66, 65, 75, 65, 66, 78, 82, 46, 46, 46, 46, 46, 46, 46, 46, 46, 46, 67, 46, 46, 46, 46, 46, 67, 46, 80, 46, 80, 46, 80, 46, 80, 46, 80, 46, 46, 46, 46, 46, 46, 46, 46, 46, 46, 46, 46, 46, 46, 46, 46, 46, 46, 112, 46, 112, 46, 112, 46, 112, 46, 112, 46, 99, 46, 46, 46, 46, 46, 99, 46, 46, 46, 46, 46, 46, 46, 46, 46, 46, 114, 110, 98, 97, 107, 97, 98, 110, 114]⟩, .int .i64 1, .int .i64 9, .int .i64 1] 29) := ⟨_, rfl⟩
  rw [← hW0] at hx0 hB0 ⊢
  clear hW0
  have fp0 := hx0.p0
  have fp1 := hx0.p1
  have fp2 := hx0.p2
  have fp3 := hx0.p3
  have fq0 := hx0.q0
  have fq1 := hx0.q1
  have fq2 := hx0.q2
  have fq3 := hx0.q3
  go_region_with (first
    | (go_at_call 16; (with_reducible refine (key_Next.calls _ _ _ n1.out).mono ?_); rintro e w' ⟨rfl, ⟨q1, rfl⟩⟩)
    | (go_at_call 18; (with_reducible refine (key_Cell.calls 75 0 _ _ c1.out).mono ?_); rintro e w1 ⟨rfl, hb1⟩; have hB1 : Below w.heap.size w w1 := (by first | exact below_past hB0 rfl hb1 | exact hB0.trans (hb1.mono hB0.size)); clear hB0; have hx1 := Boxes.later hx0 hb1 rfl; have fp10 := hx1.p0; have fp11 := hx1.p1; have fp12 := hx1.p2; have fp13 := hx1.p3; have fq10 := hx1.q0; have fq11 := hx1.q1; have fq12 := hx1.q2; have fq13 := hx1.q3; clear hx0)
    | (go_at_call 18; (with_reducible refine (key_Cell.calls 46 0 _ _ c2.out).mono ?_); rintro e w2 ⟨rfl, hb2⟩; have hB2 : Below w.heap.size w w2 := (by first | exact below_past hB1 rfl hb2 | exact hB1.trans (hb2.mono hB1.size)); clear hB1; have hx2 := Boxes.later hx1 hb2 rfl; have fp20 := hx2.p0; have fp21 := hx2.p1; have fp22 := hx2.p2; have fp23 := hx2.p3; have fq20 := hx2.q0; have fq21 := hx2.q1; have fq22 := hx2.q2; have fq23 := hx2.q3; clear hx1)
    | (go_at_call 18; (with_reducible refine (key_Cell.calls 75 90 _ _ c3.out).mono ?_); rintro e w3 ⟨rfl, hb3⟩; have hB3 : Below w.heap.size w w3 := (by first | exact below_past hB2 rfl hb3 | exact hB2.trans (hb3.mono hB2.size)); clear hB2; have hx3 := Boxes.later hx2 hb3 rfl; have fp30 := hx3.p0; have fp31 := hx3.p1; have fp32 := hx3.p2; have fp33 := hx3.p3; have fq30 := hx3.q0; have fq31 := hx3.q1; have fq32 := hx3.q2; have fq33 := hx3.q3; clear hx2)
    | (go_at_call 23; (with_reducible refine (key_Of.calls _ _ _ _ A _ k1.out).mono ?_); rintro e w4 ⟨rfl, hb4⟩; have hB4 : Below w.heap.size w w4 := (by first | exact below_past hB3 rfl hb4 | exact hB3.trans (hb4.mono hB3.size)); clear hB3; have hx4 := Boxes.later hx3 hb4 rfl; have fp40 := hx4.p0; have fp41 := hx4.p1; have fp42 := hx4.p2; have fp43 := hx4.p3; have fq40 := hx4.q0; have fq41 := hx4.q1; have fq42 := hx4.q2; have fq43 := hx4.q3; clear hx3)
    | (go_at_call 23; (with_reducible refine (key_Of.calls _ _ _ _ B _ k2.out).mono ?_); rintro e w5 ⟨rfl, hb5⟩; have hB5 : Below w.heap.size w w5 := (by first | exact below_past hB4 rfl hb5 | exact hB4.trans (hb5.mono hB4.size)); clear hB4; have hx5 := Boxes.later hx4 hb5 rfl; have fp50 := hx5.p0; have fp51 := hx5.p1; have fp52 := hx5.p2; have fp53 := hx5.p3; have fq50 := hx5.q0; have fq51 := hx5.q1; have fq52 := hx5.q2; have fq53 := hx5.q3; clear hx4)
    | (go_at_call 20; (with_reducible refine (key_Turn.calls T _ t1.out).mono ?_); rintro e w6 ⟨rfl, hb6⟩; have hB6 : Below w.heap.size w w6 := (by first | exact below_past hB5 rfl hb6 | exact hB5.trans (hb6.mono hB5.size)); clear hB5)
    | (go_at_call 20; (with_reducible refine (key_Turn.calls T _ t1.out).mono ?_); rintro e w7 ⟨rfl, hb7⟩; have hB7 : Below w.heap.size w w7 := (by first | exact below_past hB6 rfl hb7 | exact hB6.trans (hb7.mono hB6.size)); clear hB6)
    | (go_at_call 23; (with_reducible refine (key_Of.calls _ _ _ _ 0 _ k3.out).mono ?_); rintro e w8 ⟨rfl, hb8⟩; have hB8 : Below w.heap.size w w8 := (by first | exact below_past hB7 rfl hb8 | exact hB7.trans (hb8.mono hB7.size)); clear hB7))
  all_goals
    go_wp2
    go_ret
    exact ⟨rfl, by assumption⟩

end Go.Proofs.Ytmfbgcimfmgobaa.Print
