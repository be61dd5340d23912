/- The law BitsSteps holds of the given program for every input: shifted by two numbers of one sign a set is what it is shifted by both together; no condition. -/
import Derived.Test.YtkbimiimgcklaaaDoorRows
import Derived.Test.YtkbimiimgcklaaaDoorTie
import Derived.Test.YtkbimiimgcklaaaDoorCards
import Derived.Test.YtkbimiimgcklaaaDoorMain
import Derived.Test.YtkbimiimgcklaaaDoorAllBitsSteps21
import Derived.Test.YtkbimiimgcklaaaDoorAllBitsSteps23
import Derived.LaidMore
import Derived.Lib.LaidTab
import Derived.SevenTiedAt
import Derived.Stop.Joined
import Derived.WalkKit
import Derived.ProofKit
import Derived.OpenShut
import Derived.ShutString
import Derived.ChangeOld
import Derived.Below
import Derived.SizedLaws
import Derived.Carry
import Derived.ChangeArms
import Derived.WideShapes
import Derived.KernelRfl
namespace Go.Proofs.YtkbimiimgcklaaaDoor.bitsSteps
open Go.ChangeShapes Go.WideShapes Go.ChangeAt Go.RowKit
open Go.ChangeMaps (open_string shut_string)
set_option linter.unusedVariables false
theorem own : ownKnob Tryd.prog.godebug = none := by kernel_rfl
theorem laidOut : laidOutB Tryd.prog = true := by kernel_rfl
section
variable {H : Type} {enc : TypeId × Value → H} {P : Program} {w : World} {base : Nat} {spare : Nat → Bool} {held : Bool}
theorem fld {t : TypeId} {fs : Array Field} {fuel : Nat} {cs : List Value} {x : DataW H × List MemPlace} (ht : P.underlying t = some (.struct fs)) (h : DataW.trod enc P w base spare held fuel t cs = some x) (i : Nat) (f : Field) (hf : fs[i]? = some f) :
    ∃ n y, DataW.trod enc P w base spare held n f.type ((cs.drop f.offset).take (P.cellsOf f.type)) = some y := by
  obtain ⟨xs, n, _, _, _, hlen, hh⟩ := DataW.trod_struct ht h
  have hi : i < xs.length := by rw [hlen]; exact (Array.getElem?_eq_some_iff.1 hf).1
  exact ⟨n, xs[i], by rw [hh i f hf]; exact List.getElem?_eq_getElem hi⟩
end
theorem cells22 : Tryd.prog.cellsOf 22 = 1 := by kernel_rfl
theorem cells24 : Tryd.prog.cellsOf 24 = 2 := by kernel_rfl
theorem opens24 {H : Type} {enc : TypeId × Value → H} {w : World} {base : Nat} {spare : Nat → Bool} {held : Bool} {fuel : Nat} {c0 c1 : Value} {x : DataW H × List MemPlace} (h : DataW.trod enc Tryd.prog w base spare held fuel 24 [c0, c1] = some x) :
    ∃ (b0 : Int) (b1 : Int), c0 = .int .u64 b0 ∧ c1 = .int .u64 b1 ∧ (Lit.int .u64 b0).wf = true ∧ (Lit.int .u64 b1).wf = true := by
  obtain ⟨n0, y0, g0⟩ := fld Tryd.underlying24 h 0 _ rfl
  replace g0 : DataW.trod enc Tryd.prog w base spare held n0 22 (([c0, c1].drop 0).take (Tryd.prog.cellsOf 22)) = some y0 := g0
  rw [cells22] at g0
  replace g0 : DataW.trod enc Tryd.prog w base spare held n0 22 [c0] = some y0 := g0
  obtain ⟨n1, y1, g1⟩ := fld Tryd.underlying24 h 1 _ rfl
  replace g1 : DataW.trod enc Tryd.prog w base spare held n1 22 (([c0, c1].drop 1).take (Tryd.prog.cellsOf 22)) = some y1 := g1
  rw [cells22] at g1
  replace g1 : DataW.trod enc Tryd.prog w base spare held n1 22 [c1] = some y1 := g1
  obtain ⟨b0, e0, _, wz0⟩ := DataW.trod_int Tryd.underlying22 g0
  obtain rfl : c0 = .int .u64 b0 := by simpa using e0
  obtain ⟨b1, e1, _, wz1⟩ := DataW.trod_int Tryd.underlying22 g1
  obtain rfl : c1 = .int .u64 b1 := by simpa using e1
  exact ⟨b0, b1, rfl, rfl, wz0, wz1⟩
theorem array24 {α : Type} {cs : Array α} (h : cs.size = 2) : ∃ c0 c1, cs = #[c0, c1] := by
  obtain ⟨l⟩ := cs
  match l, h with
  | [c0, c1], _ => exact ⟨c0, c1, rfl⟩
/-- The door's own heap meets the condition: closed facts. -/
theorem door_met (os : Os) (args : Array Value) : laidMetH Tryd.prog [("math/bits.deBruijn64tab", Rows.laid_math_bits_deBruijn64tab)] ((World.doorLaid Tryd.prog 14 os).forCall (fun _ _ => 0) ⟨#[], args, []⟩).memory :=
  laidMetH_of_parts3 (fuel := 8) (laidMet_of_run' 8 (by kernel_rfl) (by kernel_rfl)) (by kernel_rfl) (by kernel_rfl)
/-- The table, out of the condition. -/
theorem tab_met {W : World} (h : laidMetH Tryd.prog [("math/bits.deBruijn64tab", Rows.laid_math_bits_deBruijn64tab)] W) : Print.TabHere W := by
  rw [MakeChecks.laidMetH_plain _ _ _ (by kernel_rfl)] at h
  have h' : laidMet Tryd.prog (("math/bits.deBruijn64tab", Lib.tabData .u8 (Lib.deBruijn64tab.map fun (n : Nat) => (n : Int))) :: []) W := h
  have ht := Lib.tabIs_of_head (g := 0) (by kernel_rfl) (by kernel_rfl : (Tryd.prog.globals[0]?).map (·.type) = some 107) Tryd.underlying107 Tryd.underlying5 (by kernel_rfl) (by kernel_rfl) h'
  intro j hj
  rw [ht.cell (by kernel_rfl : Tryd.prog.globalNamed "math/bits.deBruijn64tab" = some 0) j (by simpa using hj)]
  simp [List.getD, hj]
set_option maxRecDepth 100000 in
theorem lifted (os : Os) (started : os.Started) (H : Type) (enc : TypeId × Value → H) :
    ReturnsInHanded {} Tryd.checked os 8 .any (fun w args => (Rows.bitsStepsSpec.pre enc Tryd.prog Tryd.f8 [] false w args ∧ laidMetH Tryd.prog [("math/bits.deBruijn64tab", Rows.laid_math_bits_deBruijn64tab)] w) ∧ sizedMet enc Tryd.prog Tryd.f8 (OpenSpec.ofChange Rows.bitsStepsSpec) false w args) (Rows.bitsStepsSpec.post enc Tryd.prog Tryd.f8 false true false false) := by
  refine returnsInHanded_of_change_and (C := Tryd.checked) (X := fun w _ => laidMetH Tryd.prog [("math/bits.deBruijn64tab", Rows.laid_math_bits_deBruijn64tab)] w) (fun _ _ _ hh h => h.of_heap hh) own started (by kernel_rfl) Tryd.func8
    (ChangeSpec.witness_shaped (enc := enc) (C := Tryd.checked) (os := os) (X := fun w _ => laidMetH Tryd.prog [("math/bits.deBruijn64tab", Rows.laid_math_bits_deBruijn64tab)] w) false (World.doorLaid Tryd.prog 14 os) #[.agg #[.int .u64 0, .int .u64 0], .int .i64 0, .int .i64 0] 8 rfl (World.shaped_of_RefB (by kernel_rfl) (by kernel_rfl)) (by kernel_rfl) (by kernel_rfl) (by kernel_rfl) (door_met os _)) ?_
  intro W base args ds gs before hval0 hW _ _ hL _
  have hval : ∀ (j : Nat) t v, Tryd.f8.params[j]? = some t → args[j]? = some v → Value.okWide Tryd.prog W .any base t v := hval0
  have hW' := hW
  obtain ⟨p, q, hA0, hV, rfl, hfz, hnd⟩ := hW
  have hA : DataW.TrodAll enc Tryd.prog W 0 (fun _ => true) true Tryd.f8.params.toList args.toList ds p := hA0
  rw [Tryd.params8] at hA hval
  obtain ⟨v0, vs0, d0, ds0, p0, q0, hargs, rfl, rfl, h0, r0⟩ := trodAll_cons hA
  obtain ⟨v1, vs1, d1, ds1, p1, q1, rfl, rfl, rfl, h1, r1⟩ := trodAll_cons r0
  obtain ⟨v2, vs2, d2, ds2, p2, q2, rfl, rfl, rfl, h2, r2⟩ := trodAll_cons r1
  obtain ⟨rfl, rfl, rfl⟩ := trodAll_nil r2
  obtain rfl : args = #[v0, v1, v2] := by cases args; simp_all
  obtain ⟨rfl, rfl⟩ := trodVars_none hV
  have k0 := h0
  have lt0 : ∀ x ∈ p0, x.block < W.heap.size := by obtain ⟨m, hm⟩ := k0; exact DataW.trod_lt m _ _ _ hm
  obtain ⟨cs0, rfl, hsz0⟩ := okWide_struct Tryd.underlying24 (hval 0 24 v0 rfl rfl)
  obtain ⟨c0_0, c0_1, rfl⟩ := array24 (hsz0.trans cells24)
  obtain ⟨fuel0, hf0⟩ := h0
  obtain ⟨a0_0, a0_1, rfl, rfl, w0_0, w0_1⟩ := opens24 hf0
  have k1 := h1
  have lt1 : ∀ x ∈ p1, x.block < W.heap.size := by obtain ⟨m, hm⟩ := k1; exact DataW.trod_lt m _ _ _ hm
  obtain ⟨a1, rfl, rfl, rfl, w1⟩ := open_int Tryd.underlying3 (hval 1 3 v1 rfl rfl) h1
  have k2 := h2
  have lt2 : ∀ x ∈ p2, x.block < W.heap.size := by obtain ⟨m, hm⟩ := k2; exact DataW.trod_lt m _ _ _ hm
  obtain ⟨a2, rfl, rfl, rfl, w2⟩ := open_int Tryd.underlying3 (hval 2 3 v2 rfl rfl) h2
  have hT := tab_met hL
  clear hA0 hval0 hL
  obtain ⟨k, hp⟩ := Pure.BitsSteps a0_0 a0_1 a1 a2 w0_0 w0_1 w1 w2
  refine (Print.riverbanklaw01_BitsSteps.calls k a0_0 a0_1 a1 a2 true W hT hp).mono fun e W' hpost => ?_
  obtain ⟨he, bel0⟩ := hpost
  have bel : Below W.heap.size W W' := bel0
  subst he
  exact ⟨_, rfl, _, _, _, [], _, [], hW', trodAll_mk1 (shut_bool Tryd.underlying4 _), (trodAll_cons_mk (Below.trod laidOut (by kernel_rfl) (of_decide_eq_true (by kernel_rfl)) k0 bel lt0) (trodAll_cons_mk (Below.trod laidOut (by kernel_rfl) (of_decide_eq_true (by kernel_rfl)) k1 bel lt1) (trodAll_cons_mk (Below.trod laidOut (by kernel_rfl) (of_decide_eq_true (by kernel_rfl)) k2 bel lt2) trodAll_mk0))), rfl, bel.frame _, fun h => by cases h⟩
theorem and_tt {a b : Bool} (ha : a = true) (hb : b = true) : (a && b) = true := by rw [ha, hb]; rfl
theorem k0_ : (Rows.bitsStepsRow.wf (OpenSpec.ofChange Rows.bitsStepsSpec)) = true := by kernel_rfl
theorem k1_ : (laidOutB Tryd.prog) = true := by kernel_rfl
theorem k2_ : (mapsRowed Tryd.prog) = true := by kernel_rfl
theorem k3_ : (Tryd.f8.params.all (Tryd.prog.readableRec ·)) = true := by kernel_rfl
theorem k4_ : (namedTie Tryd.prog Rows.bitsStepsRow.named Rows.bitsStepsSpec.vars) = true := by kernel_rfl
theorem k5_ : ((Rows.bitsStepsRow.stops == [])) = true := by kernel_rfl
theorem k6_ : ((Tryd.prog.stops == [])) = true := by kernel_rfl
theorem k7_ : ((Rows.bitsStepsRow.knobs == [])) = true := by kernel_rfl
theorem k8_ : ((Tryd.prog.stopKnobs == [])) = true := by kernel_rfl
theorem k9_ : ((Rows.bitsStepsRow.inPlace == Tryd.prog.inPlace 8)) = true := by kernel_rfl
theorem k10_ : ((Rows.bitsStepsRow.unfollowed == Tryd.prog.unfollowed 8)) = true := by kernel_rfl
theorem k11_ : ((Rows.bitsStepsRow.recurses == Tryd.prog.recurses 8)) = true := by kernel_rfl
theorem k12_ : ((Rows.bitsStepsRow.named == Tryd.prog.varsNamed 8)) = true := by kernel_rfl
theorem k13_ : ((Rows.bitsStepsRow.maps == (Tryd.f8.params.toList ++ Rows.bitsStepsSpec.plain.varTypes Tryd.prog).any (Tryd.prog.mapsRec ·))) = true := by kernel_rfl
theorem k14_ : ((Rows.bitsStepsRow.ifaces == (Tryd.f8.params.toList ++ Rows.bitsStepsSpec.plain.varTypes Tryd.prog).any (Tryd.prog.ifacesRec ·))) = true := by kernel_rfl
theorem k15_ : ((Rows.bitsStepsRow.mapsOut == Tryd.prog.mapsAmong Tryd.f8.resultTypes.toList)) = true := by kernel_rfl
theorem k16_ : ((Rows.bitsStepsRow.loops == (Tryd.f8.params.toList ++ Rows.bitsStepsSpec.plain.varTypes Tryd.prog).any (Tryd.prog.loopsFrom ·))) = true := by kernel_rfl
theorem k17_ : ((Rows.bitsStepsRow.wideKeys == (Tryd.f8.params.toList ++ Rows.bitsStepsSpec.plain.varTypes Tryd.prog ++ Tryd.f8.resultTypes.toList).any (Tryd.prog.wideKeysFrom ·))) = true := by kernel_rfl
theorem k18_ : (Rows.bitsStepsSpec.vars.all (Tryd.prog.varReadable ·)) = true := by kernel_rfl
theorem k19_ : (Tryd.f8.resultTypes.all (fun t => Tryd.prog.readableRec t && decide (t < Tryd.prog.types.size))) = true := by kernel_rfl
theorem k20_ : ((Rows.bitsStepsRow.ifacesOut == Tryd.f8.resultTypes.toList.any (Tryd.prog.ifacesRec ·))) = true := by kernel_rfl
theorem k21_ : ((Rows.bitsStepsRow.loopsOut == Tryd.f8.resultTypes.toList.any (Tryd.prog.loopsFrom ·))) = true := by kernel_rfl
theorem k22_ : ((Rows.bitsStepsRow.plainKeys == Tryd.prog.plainKeys)) = true := by kernel_rfl
theorem k23_ : (Rows.bitsStepsRow.shortTexts.isNone) = true := by kernel_rfl
theorem k24_ : (Tryd.prog.stopsHeard) = true := by kernel_rfl
theorem k25_ : (Tryd.prog.mayEnter) = true := Facts.enter
theorem k26_ : ((Rows.bitsStepsRow.lifted == Tryd.prog.liftsFinal)) = true := by rw [Facts.final]; rfl
theorem k27_ : ((Tryd.prog.make == some Rows.bitsStepsRow.make)) = true := by rw [Facts.made]; rfl
theorem k28_ : ((Rows.bitsStepsRow.kinds == (if Rows.bitsStepsRow.domain.isEmpty then [] else Tryd.f8.params.toList.map fun t => match Tryd.prog.underlying t with | some (.int k) => some k | _ => none))) = true := by kernel_rfl
theorem k29_ : ((Rows.bitsStepsRow.pinned == Rows.bitsStepsRow.pinnedBy)) = true := by kernel_rfl
theorem k30_ : ((Rows.bitsStepsRow.veiled == (Tryd.f8.params.toList ++ Rows.bitsStepsSpec.plain.varTypes Tryd.prog ++ Tryd.f8.resultTypes.toList).any (Tryd.prog.veiledRec ·))) = true := by kernel_rfl
theorem k31_ : (Rows.bitsStepsRow.veiledFits Tryd.prog Tryd.f8.params.toList (Tryd.f8.params.toList ++ Rows.bitsStepsSpec.plain.varTypes Tryd.prog ++ Tryd.f8.resultTypes.toList)) = true := by kernel_rfl
set_option maxRecDepth 100000 in
theorem closed : joinedFacts Tryd.prog 8 Tryd.f8 Rows.bitsStepsSpec Rows.bitsStepsRow = true := (and_tt (and_tt (and_tt (and_tt (and_tt (and_tt (and_tt (and_tt (and_tt (and_tt (and_tt (and_tt (and_tt (and_tt (and_tt (and_tt (and_tt (and_tt (and_tt (and_tt (and_tt (and_tt (and_tt (and_tt (and_tt (and_tt (and_tt (and_tt (and_tt (and_tt (and_tt k0_ k1_) k2_) k3_) k4_) k5_) k6_) k7_) k8_) k9_) k10_) k11_) k12_) k13_) k14_) k15_) k16_) k17_) k18_) k19_) k20_) k21_) k22_) k23_) k24_) k25_) k26_) k27_) k28_) k29_) k30_) k31_)
theorem named_ : Tryd.prog.funcNamed Rows.bitsStepsRow.func = some 8 := by kernel_rfl
theorem laidIn_ : Rows.bitsStepsRow.wfByText (OpenSpec.ofChange Rows.bitsStepsSpec) = true := by kernel_rfl
theorem looks_ : false = Tryd.prog.looks [] := by kernel_rfl
theorem goes_ : false = Rows.bitsStepsRow.goesBy Tryd.prog := by kernel_rfl
theorem inst_ : Tryd.f8.isInstance Tryd.prog Rows.bitsStepsRow.origin Rows.bitsStepsRow.targs := of_decide_eq_true (by kernel_rfl)
theorem wrap_ : Tryd.f8.isWrapper Tryd.prog Rows.bitsStepsRow.wrapper Rows.bitsStepsRow.mainSum := by unfold Func.isWrapper; first | (rw [if_pos (by decide +kernel)]; kernel_rfl) | (rw [if_neg (by decide +kernel)]; exact ⟨rfl, rfl⟩)
theorem over : Rows.bitsStepsRow.holds Tryd.pinned (OpenSpec.ofChange Rows.bitsStepsSpec) :=
  OpenClaim.holds_of_wide 8 Tryd.f8 rfl rfl rfl rfl rfl rfl rfl ⟨rfl, rfl, rfl, rfl, rfl⟩ rfl rfl rfl rfl rfl named_ Tryd.func8 closed inst_ wrap_
    (fun os started H enc _ => lifted os started H enc)
/-- The tied card. -/
theorem proved : Rows.BitsStepsCardSaid :=
  Claim7.holds_tied_plain_at .later [] [.data] true (true, "d485a3c20bb517b6c85b095eb4961d443513c9e6e27a0d45b3e18e2222c32954") false
    over (fun _ h => by cases h) laidIn_ (fun _ h => by cases h) bitsSteps_row_tie rfl ⟨rfl, rfl⟩ Facts.mainIs rfl
    (fun f fn hf hfn => by
      obtain rfl : f = 8 := Option.some.inj (named_.symm.trans hf) |>.symm
      obtain rfl : fn = Tryd.f8 := (Option.some.inj (Tryd.func8.symm.trans hfn)).symm
      exact ⟨looks_, fun j t ht => by
        rw [Tryd.params8] at ht
        have hm : t ∈ [24, 3, 3] := by simpa using Array.mem_of_getElem? ht
        have hall : ([24, 3, 3].all fun u => !Tryd.prog.wantsStandIn u) = true := by kernel_rfl
        exact (show Tryd.prog.wantsStandIn t = false by simpa using List.all_eq_true.1 hall t hm)⟩)
    goes_
#print axioms proved
end Go.Proofs.YtkbimiimgcklaaaDoor.bitsSteps
namespace Go.Proofs.YtkbimiimgcklaaaDoor
/-- The card, under a short name, for the claim. -/
theorem bitsSteps_holds : Rows.BitsStepsCardSaid := bitsSteps.proved
end Go.Proofs.YtkbimiimgcklaaaDoor
