/- Merged by a program of this session (wip/gprint/merge.py): what this claim needs of this session's texts, each part as it was. -/
import Derived.Test.YtkbimiimgcklaaaDoorAllPlaceTurn7
import Derived.Test.YtkbimiimgcklaaaDoorAllPlaceTurn11
import Derived.Test.YtkbimiimgcklaaaDoorAllPlaceTurn14
import Derived.Test.YtkbimiimgcklaaaDoorAllPlaceTurn37
import Derived.Test.YtkbimiimgcklaaaDoorAllPlaceTurn38
import Derived.Test.YtkbimiimgcklaaaDoorAllPlaceTurn39
namespace Go.Proofs.YtkbimiimgcklaaaDoor.Print
end Go.Proofs.YtkbimiimgcklaaaDoor.Print

-- of YtkbimiimgcklaaaDoorPrint46
-- Written by a program of this session (wip/gprint/gprint.py) over the kit's print; the parts marked GIVEN by hand.
namespace Go.Proofs.YtkbimiimgcklaaaDoor.Print
open Go.RowKit Go.Proofs.YtkbimiimgcklaaaDoorW.PrintWords Go.Proofs.YtkbimiimgcklaaaDoorW.PrintLast Go.Proofs.YtkbimiimgcklaaaDoorW.PrintMore
attribute [local go_sem] max2_int min2_int max_two min_two max_three min_three max_four min_four   -- for this text's walks alone
set_option linter.unusedVariables false
set_option linter.unusedSimpArgs false

/-! GIVEN riverbanklaw03_live -/
-- GIVEN riverbank/riverbanklaw03.live
-- MAKES yes
-- NEEDY yes
-- NEEDS riverbank/place.Check
-- NEEDS riverbank/place.Points
-- NEEDS riverbank/place.May
-- NEEDS riverbank/place.Palace
-- NEEDS riverbank/place.Over
-- NEEDS riverbank/place.Most
-- NEEDS riverbank/riverbankref01.Ints
def riverbanklaw03_live.f : Option (Bool) := some true
def start3 : ByteArray := ⟨#[82, 78, 66, 65, 75, 65, 66, 78, 82, 46, 46, 46, 46, 46, 46, 46, 46, 46, 46, 67, 46, 46, 46, 46, 46, 67, 46, 80, 46, 80, 46, 80, 46, 80, 46, 80, 46, 46, 46, 46, 46, 46, 46, 46, 46, 46, 46, 46, 46, 46, 46, 46, 46, 46, 112, 46, 112, 46, 112, 46, 112, 46, 112, 46, 99, 46, 46, 46, 46, 46, 99, 46, 46, 46, 46, 46, 46, 46, 46, 46, 46, 114, 110, 98, 97, 107, 97, 98, 110, 114]⟩
set_option maxRecDepth 100000 in
theorem live3_facts : place_May.f 200 75 4 = some true ∧ place_May.f 200 107 4 = some false ∧ place_Palace.f 200 84 1 = some true ∧ place_Palace.f 200 84 0 = some false ∧ place_Over.f 200 45 0 = some true ∧ place_Over.f 200 45 1 = some false ∧ place_Most.f 112 = some 5 ∧ place_Most.f 46 = some 0 := by decide +kernel
set_option maxRecDepth 100000 in
theorem live3_check : place_Check.f 200 start3 0 0 1 = some 0 ∧ place_Check.f 200 start3 0 0 0 = some 1 := by decide +kernel
set_option maxRecDepth 100000 in
theorem live3_points : place_Points.f 200 66 = some [2, 6, 18, 22, 26, 38, 42] := by decide +kernel
set_option maxRecDepth 100000 in
theorem live3_ints : riverbankref01_Ints.f 10 [2, 6, 18, 22, 26, 38, 42] [2, 6, 18, 22, 26, 38, 42] = some true := by decide +kernel
set_option maxRecDepth 100000 in
theorem live3_pawns : (place_Points.f 200 112).map List.length = some 55 := by decide +kernel
theorem seven_lit (W : World) (t : TypeId) : Kd.C (Kd.int .i64) (W.alloc (.cells #[.int .i64 2, .int .i64 6, .int .i64 18, .int .i64 22, .int .i64 26, .int .i64 38, .int .i64 42] t)) (some ⟨W.heap.size, 0, none⟩) [(2 : Int), 6, 18, 22, 26, 38, 42].length [2, 6, 18, 22, 26, 38, 42] := by
  refine Kd.C_of_reads (d := (0 : Int)) (h1 := fun _ => rfl) ⟨rfl, by decide, fun _ => ⟨_, rfl, fun j hj => ?_⟩⟩
  match j, hj with
  | 0, _ => exact (blk_cell (blk_new W _) 0).trans rfl
  | 1, _ => exact (blk_cell (blk_new W _) 1).trans rfl
  | 2, _ => exact (blk_cell (blk_new W _) 2).trans rfl
  | 3, _ => exact (blk_cell (blk_new W _) 3).trans rfl
  | 4, _ => exact (blk_cell (blk_new W _) 4).trans rfl
  | 5, _ => exact (blk_cell (blk_new W _) 5).trans rfl
  | 6, _ => exact (blk_cell (blk_new W _) 6).trans rfl
theorem PosAt.laid {W : World} {B : Nat} {s : ByteArray} {a1 a2 a3 : Int} (h : PosAt W B s a1 a2 a3) (o : Obj) : PosAt (W.alloc o) B s a1 a2 a3 :=
  h.below ((Below.refl _ _).alloc (Nat.le_refl _) o)
theorem PosAt.drewN {W : World} {B : Nat} {s : ByteArray} {a1 a2 a3 : Int} (h : PosAt W B s a1 a2 a3) (n : Nat) : PosAt (W.drewN n) B s a1 a2 a3 := ⟨h.p0, h.p1, h.p2, h.p3⟩
theorem PosAt.next (W : World) (v u : Array Value) (s : ByteArray) (a1 a2 a3 : Int) (t : TypeId) (hu : u = #[.string s, .int .i64 a1, .int .i64 a2, .int .i64 a3]) : PosAt ((W.alloc (.cells v t)).alloc (.cells u t)) (W.heap.size + 1) s a1 a2 a3 := by
  subst hu
  have := PosAt.new (W.alloc (.cells v t)) s a1 a2 a3 t
  rw [World.size_alloc] at this; exact this
set_option maxRecDepth 100000 in
set_option maxHeartbeats 8000000 in
theorem riverbanklaw03_live.calls (r : Bool) (w : World) (hT : TabHere w) (h : riverbanklaw03_live.f = some r) :
    Calls Tryd.prog 81 #[] w fun e w' => e = .returned (.bool r) ∧ Below w.heap.size w w' := by
  obtain rfl := Option.some.inj h
  clear h
  obtain ⟨m1, m2, a1, a2, o1, o2, s1, s2⟩ := live3_facts
  obtain ⟨c1, c2⟩ := live3_check
  obtain ⟨l, hl, hl55⟩ : ∃ l, place_Points.f 200 112 = some l ∧ l.length = 55 := by
    have := live3_pawns
    cases e : place_Points.f 200 112 with
    | none => rw [e] at this; cases this
    | some l => rw [e] at this; exact ⟨l, rfl, Option.some.inj this⟩
  have hl55' : (l.length : Int) = 55 := by rw [hl55]; rfl
  have HP : Aside0 (PosAt ((w.alloc (.cells #[.string start3, .int .i64 0, .int .i64 0, .int .i64 1] 74)).alloc (.cells #[.string start3, .int .i64 0, .int .i64 0, .int .i64 0] 74)) w.heap.size start3 0 0 1) := ⟨(PosAt.new w start3 0 0 1 74).laid _⟩
  have HQ : Aside0 (PosAt ((w.alloc (.cells #[.string start3, .int .i64 0, .int .i64 0, .int .i64 1] 74)).alloc (.cells #[.string start3, .int .i64 0, .int .i64 0, .int .i64 0] 74)) (w.heap.size + 1) start3 0 0 0) := ⟨PosAt.next w _ _ start3 0 0 0 74 rfl⟩
  have HB : Aside0 (Below w.heap.size w ((w.alloc (.cells #[.string start3, .int .i64 0, .int .i64 0, .int .i64 1] 74)).alloc (.cells #[.string start3, .int .i64 0, .int .i64 0, .int .i64 0] 74))) := ⟨((Below.refl _ w).alloc (Nat.le_refl _) _).alloc (by simp) _⟩
  unfold start3 at c1 c2 HP HQ HB
  have M1 := Aside0.mk m1
  have M2 := Aside0.mk m2
  have A1 := Aside0.mk a1
  have A2 := Aside0.mk a2
  have O1 := Aside0.mk o1
  have O2 := Aside0.mk o2
  have S1 := Aside0.mk s1
  have S2 := Aside0.mk s2
  have C1 := Aside0.mk c1
  have C2 := Aside0.mk c2
  have P1 := Aside0.mk live3_points
  have P2 := Aside0.mk hl
  have FI := Aside0.mk live3_ints
  have HT := Aside0.mk hT
  clear m1 m2 a1 a2 o1 o2 s1 s2 c1 c2 hl hT hl55
  have fp0 := HP.out.p0
  have fp1 := HP.out.p1
  have fp2 := HP.out.p2
  have fp3 := HP.out.p3
  have fq0 := HQ.out.p0
  have fq1 := HQ.out.p1
  have fq2 := HQ.out.p2
  have fq3 := HQ.out.p3
  go_enter Tryd.func81, Tryd.ntmps81
  go_wp2_with (first
    | (go_at_call 73; (with_reducible refine (place_Points.calls 200 66 [2, 6, 18, 22, 26, 38, 42] _ (tab_of HT.out (by repeat (first | (with_reducible first | exact HB.out | apply below_alloc | apply pw_below_drewN | apply below_drew1) | exact HB.out))) P1.out).mono ?_); rintro e w2 ⟨v, rfl, ho, hb⟩; have HO := Aside0.mk ho; clear ho; obtain ⟨Ao, co, eo⟩ := Kd.R_slice HO.out; subst eo; have n0_ := Aside0.mk (below_step (by repeat (first | (with_reducible first | exact HB.out | apply below_alloc | apply pw_below_drewN | apply below_drew1) | exact HB.out)) hb); have n1_ := Aside0.mk (PosAt.below (by repeat (first | (with_reducible first | exact HP.out | apply PosAt.laid | apply PosAt.drewN) | exact HP.out)) hb); have n2_ := Aside0.mk (PosAt.below (by repeat (first | (with_reducible first | exact HQ.out | apply PosAt.laid | apply PosAt.drewN) | exact HQ.out)) hb); clear HB HP HQ; clear fp0 fp1 fp2 fp3 fq0 fq1 fq2 fq3; have HB := n0_; have HP := n1_; have HQ := n2_; have fp0 := HP.out.p0; have fp1 := HP.out.p1; have fp2 := HP.out.p2; have fp3 := HP.out.p3; have fq0 := HQ.out.p0; have fq1 := HQ.out.p1; have fq2 := HQ.out.p2; have fq3 := HQ.out.p3; clear n0_ n1_ n2_ hb)
    | (go_at_call 73; (with_reducible refine (place_Points.calls 200 112 l _ (tab_of HT.out (by repeat (first | (with_reducible first | exact HB.out | apply below_alloc | apply pw_below_drewN | apply below_drew1) | exact HB.out))) P2.out).mono ?_); rintro e w2 ⟨v2, rfl, ho, hb⟩; have HO2 := Aside0.mk ho; clear ho; obtain ⟨Ap, cp, ep⟩ := Kd.R_slice HO2.out; subst ep; have n0_ := Aside0.mk (below_step (by repeat (first | (with_reducible first | exact HB.out | apply below_alloc | apply pw_below_drewN | apply below_drew1) | exact HB.out)) hb); have n1_ := Aside0.mk (PosAt.below (by repeat (first | (with_reducible first | exact HP.out | apply PosAt.laid | apply PosAt.drewN) | exact HP.out)) hb); have n2_ := Aside0.mk (PosAt.below (by repeat (first | (with_reducible first | exact HQ.out | apply PosAt.laid | apply PosAt.drewN) | exact HQ.out)) hb); clear HB HP HQ; clear fp0 fp1 fp2 fp3 fq0 fq1 fq2 fq3; have HB := n0_; have HP := n1_; have HQ := n2_; have fp0 := HP.out.p0; have fp1 := HP.out.p1; have fp2 := HP.out.p2; have fp3 := HP.out.p3; have fq0 := HQ.out.p0; have fq1 := HQ.out.p1; have fq2 := HQ.out.p2; have fq3 := HQ.out.p3; clear n0_ n1_ n2_ hb)
    | (go_at_call 32; (refine (riverbankref01_Ints.calls 10 _ _ [2, 6, 18, 22, 26, 38, 42] _ _ [2, 6, 18, 22, 26, 38, 42] true _ ?side1 ?side2 ?side3 ?side4 FI.out).mono ?_); (case side1 => repeat (first | exact (Kd.R_reads' HO.out).2.2 | (with_reducible refine Kd.C_alloc ?_ _) | (with_reducible refine Kd.C_drewN ?_ _) | (with_reducible refine Kd.C_drew ?_))); (case side2 => exact (Kd.R_reads' HO.out).2.1); (case side3 => exact seven_lit _ _); (case side4 => exact Nat.le_refl _); rintro e w2 ⟨rfl, ⟨nd, rfl⟩⟩)
    | (go_at_call 71; (with_reducible refine (place_May.calls 200 75 4 true _ M1.out).mono ?_); rintro e w2 ⟨rfl, hb⟩; have n0_ := Aside0.mk (below_step (by repeat (first | (with_reducible first | exact HB.out | apply below_alloc | apply pw_below_drewN | apply below_drew1) | exact HB.out)) hb); have n1_ := Aside0.mk (PosAt.below (by repeat (first | (with_reducible first | exact HP.out | apply PosAt.laid | apply PosAt.drewN) | exact HP.out)) hb); have n2_ := Aside0.mk (PosAt.below (by repeat (first | (with_reducible first | exact HQ.out | apply PosAt.laid | apply PosAt.drewN) | exact HQ.out)) hb); clear HB HP HQ; clear fp0 fp1 fp2 fp3 fq0 fq1 fq2 fq3; have HB := n0_; have HP := n1_; have HQ := n2_; have fp0 := HP.out.p0; have fp1 := HP.out.p1; have fp2 := HP.out.p2; have fp3 := HP.out.p3; have fq0 := HQ.out.p0; have fq1 := HQ.out.p1; have fq2 := HQ.out.p2; have fq3 := HQ.out.p3; clear n0_ n1_ n2_ hb)
    | (go_at_call 71; (with_reducible refine (place_May.calls 200 107 4 false _ M2.out).mono ?_); rintro e w2 ⟨rfl, hb⟩; have n0_ := Aside0.mk (below_step (by repeat (first | (with_reducible first | exact HB.out | apply below_alloc | apply pw_below_drewN | apply below_drew1) | exact HB.out)) hb); have n1_ := Aside0.mk (PosAt.below (by repeat (first | (with_reducible first | exact HP.out | apply PosAt.laid | apply PosAt.drewN) | exact HP.out)) hb); have n2_ := Aside0.mk (PosAt.below (by repeat (first | (with_reducible first | exact HQ.out | apply PosAt.laid | apply PosAt.drewN) | exact HQ.out)) hb); clear HB HP HQ; clear fp0 fp1 fp2 fp3 fq0 fq1 fq2 fq3; have HB := n0_; have HP := n1_; have HQ := n2_; have fp0 := HP.out.p0; have fp1 := HP.out.p1; have fp2 := HP.out.p2; have fp3 := HP.out.p3; have fq0 := HQ.out.p0; have fq1 := HQ.out.p1; have fq2 := HQ.out.p2; have fq3 := HQ.out.p3; clear n0_ n1_ n2_ hb)
    | (go_at_call 77; (with_reducible refine (place_Palace.calls 200 84 1 true _ A1.out).mono ?_); rintro e w2 ⟨rfl, hb⟩; have n0_ := Aside0.mk (below_step (by repeat (first | (with_reducible first | exact HB.out | apply below_alloc | apply pw_below_drewN | apply below_drew1) | exact HB.out)) hb); have n1_ := Aside0.mk (PosAt.below (by repeat (first | (with_reducible first | exact HP.out | apply PosAt.laid | apply PosAt.drewN) | exact HP.out)) hb); have n2_ := Aside0.mk (PosAt.below (by repeat (first | (with_reducible first | exact HQ.out | apply PosAt.laid | apply PosAt.drewN) | exact HQ.out)) hb); clear HB HP HQ; clear fp0 fp1 fp2 fp3 fq0 fq1 fq2 fq3; have HB := n0_; have HP := n1_; have HQ := n2_; have fp0 := HP.out.p0; have fp1 := HP.out.p1; have fp2 := HP.out.p2; have fp3 := HP.out.p3; have fq0 := HQ.out.p0; have fq1 := HQ.out.p1; have fq2 := HQ.out.p2; have fq3 := HQ.out.p3; clear n0_ n1_ n2_ hb)
    | (go_at_call 77; (with_reducible refine (place_Palace.calls 200 84 0 false _ A2.out).mono ?_); rintro e w2 ⟨rfl, hb⟩; have n0_ := Aside0.mk (below_step (by repeat (first | (with_reducible first | exact HB.out | apply below_alloc | apply pw_below_drewN | apply below_drew1) | exact HB.out)) hb); have n1_ := Aside0.mk (PosAt.below (by repeat (first | (with_reducible first | exact HP.out | apply PosAt.laid | apply PosAt.drewN) | exact HP.out)) hb); have n2_ := Aside0.mk (PosAt.below (by repeat (first | (with_reducible first | exact HQ.out | apply PosAt.laid | apply PosAt.drewN) | exact HQ.out)) hb); clear HB HP HQ; clear fp0 fp1 fp2 fp3 fq0 fq1 fq2 fq3; have HB := n0_; have HP := n1_; have HQ := n2_; have fp0 := HP.out.p0; have fp1 := HP.out.p1; have fp2 := HP.out.p2; have fp3 := HP.out.p3; have fq0 := HQ.out.p0; have fq1 := HQ.out.p1; have fq2 := HQ.out.p2; have fq3 := HQ.out.p3; clear n0_ n1_ n2_ hb)
    | (go_at_call 79; (with_reducible refine (place_Over.calls 200 45 0 true _ O1.out).mono ?_); rintro e w2 ⟨rfl, hb⟩; have n0_ := Aside0.mk (below_step (by repeat (first | (with_reducible first | exact HB.out | apply below_alloc | apply pw_below_drewN | apply below_drew1) | exact HB.out)) hb); have n1_ := Aside0.mk (PosAt.below (by repeat (first | (with_reducible first | exact HP.out | apply PosAt.laid | apply PosAt.drewN) | exact HP.out)) hb); have n2_ := Aside0.mk (PosAt.below (by repeat (first | (with_reducible first | exact HQ.out | apply PosAt.laid | apply PosAt.drewN) | exact HQ.out)) hb); clear HB HP HQ; clear fp0 fp1 fp2 fp3 fq0 fq1 fq2 fq3; have HB := n0_; have HP := n1_; have HQ := n2_; have fp0 := HP.out.p0; have fp1 := HP.out.p1; have fp2 := HP.out.p2; have fp3 := HP.out.p3; have fq0 := HQ.out.p0; have fq1 := HQ.out.p1; have fq2 := HQ.out.p2; have fq3 := HQ.out.p3; clear n0_ n1_ n2_ hb)
    | (go_at_call 79; (with_reducible refine (place_Over.calls 200 45 1 false _ O2.out).mono ?_); rintro e w2 ⟨rfl, hb⟩; have n0_ := Aside0.mk (below_step (by repeat (first | (with_reducible first | exact HB.out | apply below_alloc | apply pw_below_drewN | apply below_drew1) | exact HB.out)) hb); have n1_ := Aside0.mk (PosAt.below (by repeat (first | (with_reducible first | exact HP.out | apply PosAt.laid | apply PosAt.drewN) | exact HP.out)) hb); have n2_ := Aside0.mk (PosAt.below (by repeat (first | (with_reducible first | exact HQ.out | apply PosAt.laid | apply PosAt.drewN) | exact HQ.out)) hb); clear HB HP HQ; clear fp0 fp1 fp2 fp3 fq0 fq1 fq2 fq3; have HB := n0_; have HP := n1_; have HQ := n2_; have fp0 := HP.out.p0; have fp1 := HP.out.p1; have fp2 := HP.out.p2; have fp3 := HP.out.p3; have fq0 := HQ.out.p0; have fq1 := HQ.out.p1; have fq2 := HQ.out.p2; have fq3 := HQ.out.p3; clear n0_ n1_ n2_ hb)
    | (go_at_call 75; (with_reducible refine (place_Most.calls 112 5 _ S1.out).mono ?_); rintro e w2 ⟨rfl, ⟨nd, rfl⟩⟩)
    | (go_at_call 75; (with_reducible refine (place_Most.calls 46 0 _ S2.out).mono ?_); rintro e w2 ⟨rfl, ⟨nd, rfl⟩⟩)
    | (go_at_call 82; (with_reducible refine (place_Check.calls 200 _ 0 0 1 0 _ C1.out).mono ?_); rintro e w2 ⟨rfl, hb⟩; have n0_ := Aside0.mk (below_step (by repeat (first | (with_reducible first | exact HB.out | apply below_alloc | apply pw_below_drewN | apply below_drew1) | exact HB.out)) hb); have n1_ := Aside0.mk (PosAt.below (by repeat (first | (with_reducible first | exact HP.out | apply PosAt.laid | apply PosAt.drewN) | exact HP.out)) hb); have n2_ := Aside0.mk (PosAt.below (by repeat (first | (with_reducible first | exact HQ.out | apply PosAt.laid | apply PosAt.drewN) | exact HQ.out)) hb); clear HB HP HQ; clear fp0 fp1 fp2 fp3 fq0 fq1 fq2 fq3; have HB := n0_; have HP := n1_; have HQ := n2_; have fp0 := HP.out.p0; have fp1 := HP.out.p1; have fp2 := HP.out.p2; have fp3 := HP.out.p3; have fq0 := HQ.out.p0; have fq1 := HQ.out.p1; have fq2 := HQ.out.p2; have fq3 := HQ.out.p3; clear n0_ n1_ n2_ hb)
    | (go_at_call 82; (with_reducible refine (place_Check.calls 200 _ 0 0 0 1 _ C2.out).mono ?_); rintro e w2 ⟨rfl, hb⟩; have n0_ := Aside0.mk (below_step (by repeat (first | (with_reducible first | exact HB.out | apply below_alloc | apply pw_below_drewN | apply below_drew1) | exact HB.out)) hb); have n1_ := Aside0.mk (PosAt.below (by repeat (first | (with_reducible first | exact HP.out | apply PosAt.laid | apply PosAt.drewN) | exact HP.out)) hb); have n2_ := Aside0.mk (PosAt.below (by repeat (first | (with_reducible first | exact HQ.out | apply PosAt.laid | apply PosAt.drewN) | exact HQ.out)) hb); clear HB HP HQ; clear fp0 fp1 fp2 fp3 fq0 fq1 fq2 fq3; have HB := n0_; have HP := n1_; have HQ := n2_; have fp0 := HP.out.p0; have fp1 := HP.out.p1; have fp2 := HP.out.p2; have fp3 := HP.out.p3; have fq0 := HQ.out.p0; have fq1 := HQ.out.p1; have fq2 := HQ.out.p2; have fq3 := HQ.out.p3; clear n0_ n1_ n2_ hb))
  go_ret
  exact ⟨rfl, (by repeat (first | (with_reducible first | exact HB.out | apply below_alloc | apply pw_below_drewN | apply below_drew1) | exact HB.out))⟩

end Go.Proofs.YtkbimiimgcklaaaDoor.Print
