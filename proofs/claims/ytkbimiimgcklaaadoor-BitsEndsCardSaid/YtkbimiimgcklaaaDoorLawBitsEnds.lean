/- The law BitsEnds holds of the given program for every input: without its first and its last square a set has what lies between them; no condition. -/
import Derived.Test.YtkbimiimgcklaaaDoorRows
import Derived.Test.YtkbimiimgcklaaaDoorTie
import Derived.Test.YtkbimiimgcklaaaDoorCards
import Derived.Test.YtkbimiimgcklaaaDoorMain
import Derived.Test.YtkbimiimgcklaaaDoorAllBitsEnds21
import Derived.Test.YtkbimiimgcklaaaDoorAllBitsEnds24
import Derived.LaidMore
import Derived.Lib.LaidTab
import Derived.SevenTiedAt
import Derived.Stop.Joined
import Derived.WalkKit
import Derived.ProofKit
import Derived.OpenShut
import Derived.ShutString
import Derived.ChangeOld
import Derived.Below
import Derived.SizedLaws
import Derived.Carry
import Derived.ChangeArms
import Derived.WideShapes
import Derived.KernelRfl
namespace Go.Proofs.YtkbimiimgcklaaaDoor.bitsEnds
open Go.ChangeShapes Go.WideShapes Go.ChangeAt Go.RowKit
open Go.ChangeMaps (open_string shut_string)
set_option linter.unusedVariables false
theorem own : ownKnob Tryd.prog.godebug = none := by kernel_rfl
theorem laidOut : laidOutB Tryd.prog = true := by kernel_rfl
section
variable {H : Type} {enc : TypeId × Value → H} {P : Program} {w : World} {base : Nat} {spare : Nat → Bool} {held : Bool}
theorem fld {t : TypeId} {fs : Array Field} {fuel : Nat} {cs : List Value} {x : DataW H × List MemPlace} (ht : P.underlying t = some (.struct fs)) (h : DataW.trod enc P w base spare held fuel t cs = some x) (i : Nat) (f : Field) (hf : fs[i]? = some f) :
    ∃ n y, DataW.trod enc P w base spare held n f.type ((cs.drop f.offset).take (P.cellsOf f.type)) = some y := by
  obtain ⟨xs, n, _, _, _, hlen, hh⟩ := DataW.trod_struct ht h
  have hi : i < xs.length := by rw [hlen]; exact (Array.getElem?_eq_some_iff.1 hf).1
  exact ⟨n, xs[i], by rw [hh i f hf]; exact List.getElem?_eq_getElem hi⟩
end
theorem cells22 : Tryd.prog.cellsOf 22 = 1 := by kernel_rfl
theorem cells24 : Tryd.prog.cellsOf 24 = 2 := by kernel_rfl
theorem opens24 {H : Type} {enc : TypeId × Value → H} {w : World} {base : Nat} {spare : Nat → Bool} {held : Bool} {fuel : Nat} {c0 c1 : Value} {x : DataW H × List MemPlace} (h : DataW.trod enc Tryd.prog w base spare held fuel 24 [c0, c1] = some x) :
    ∃ (b0 : Int) (b1 : Int), c0 = .int .u64 b0 ∧ c1 = .int .u64 b1 ∧ (Lit.int .u64 b0).wf = true ∧ (Lit.int .u64 b1).wf = true := by
  obtain ⟨n0, y0, g0⟩ := fld Tryd.underlying24 h 0 _ rfl
  replace g0 : DataW.trod enc Tryd.prog w base spare held n0 22 (([c0, c1].drop 0).take (Tryd.prog.cellsOf 22)) = some y0 := g0
  rw [cells22] at g0
  replace g0 : DataW.trod enc Tryd.prog w base spare held n0 22 [c0] = some y0 := g0
  obtain ⟨n1, y1, g1⟩ := fld Tryd.underlying24 h 1 _ rfl
  replace g1 : DataW.trod enc Tryd.prog w base spare held n1 22 (([c0, c1].drop 1).take (Tryd.prog.cellsOf 22)) = some y1 := g1
  rw [cells22] at g1
  replace g1 : DataW.trod enc Tryd.prog w base spare held n1 22 [c1] = some y1 := g1
  obtain ⟨b0, e0, _, wz0⟩ := DataW.trod_int Tryd.underlying22 g0
  obtain rfl : c0 = .int .u64 b0 := by simpa using e0
  obtain ⟨b1, e1, _, wz1⟩ := DataW.trod_int Tryd.underlying22 g1
  obtain rfl : c1 = .int .u64 b1 := by simpa using e1
  exact ⟨b0, b1, rfl, rfl, wz0, wz1⟩
theorem array24 {α : Type} {cs : Array α} (h : cs.size = 2) : ∃ c0 c1, cs = #[c0, c1] := by
  obtain ⟨l⟩ := cs
  match l, h with
  | [c0, c1], _ => exact ⟨c0, c1, rfl⟩
/-- The door's own heap meets the condition: closed facts. -/
theorem door_met (os : Os) (args : Array Value) : laidMetH Tryd.prog [("math/bits.deBruijn64tab", Rows.laid_math_bits_deBruijn64tab)] ((World.doorLaid Tryd.prog 14 os).forCall (fun _ _ => 0) ⟨#[], args, []⟩).memory :=
  laidMetH_of_parts3 (fuel := 8) (laidMet_of_run' 8 (by kernel_rfl) (by kernel_rfl)) (by kernel_rfl) (by kernel_rfl)
/-- The table, out of the condition. -/
theorem tab_met {W : World} (h : laidMetH Tryd.prog [("math/bits.deBruijn64tab", Rows.laid_math_bits_deBruijn64tab)] W) : Print.TabHere W := by
  rw [MakeChecks.laidMetH_plain _ _ _ (by kernel_rfl)] at h
  have h' : laidMet Tryd.prog (("math/bits.deBruijn64tab", Lib.tabData .u8 (Lib.deBruijn64tab.map fun (n : Nat) => (n : Int))) :: []) W := h
  have ht := Lib.tabIs_of_head (g := 0) (by kernel_rfl) (by kernel_rfl : (Tryd.prog.globals[0]?).map (·.type) = some 107) Tryd.underlying107 Tryd.underlying5 (by kernel_rfl) (by kernel_rfl) h'
  intro j hj
  rw [ht.cell (by kernel_rfl : Tryd.prog.globalNamed "math/bits.deBruijn64tab" = some 0) j (by simpa using hj)]
  simp [List.getD, hj]
set_option maxRecDepth 100000 in
theorem lifted (os : Os) (started : os.Started) (H : Type) (enc : TypeId × Value → H) :
    ReturnsInHanded {} Tryd.checked os 9 .any (fun w args => (Rows.bitsEndsSpec.pre enc Tryd.prog Tryd.f9 [] false w args ∧ laidMetH Tryd.prog [("math/bits.deBruijn64tab", Rows.laid_math_bits_deBruijn64tab)] w) ∧ sizedMet enc Tryd.prog Tryd.f9 (OpenSpec.ofChange Rows.bitsEndsSpec) false w args) (Rows.bitsEndsSpec.post enc Tryd.prog Tryd.f9 false true false false) := by
  refine returnsInHanded_of_change_and (C := Tryd.checked) (X := fun w _ => laidMetH Tryd.prog [("math/bits.deBruijn64tab", Rows.laid_math_bits_deBruijn64tab)] w) (fun _ _ _ hh h => h.of_heap hh) own started (by kernel_rfl) Tryd.func9
    (ChangeSpec.witness_shaped (enc := enc) (C := Tryd.checked) (os := os) (X := fun w _ => laidMetH Tryd.prog [("math/bits.deBruijn64tab", Rows.laid_math_bits_deBruijn64tab)] w) false (World.doorLaid Tryd.prog 14 os) #[.agg #[.int .u64 0, .int .u64 0]] 8 rfl (World.shaped_of_RefB (by kernel_rfl) (by kernel_rfl)) (by kernel_rfl) (by kernel_rfl) (by kernel_rfl) (door_met os _)) ?_
  intro W base args ds gs before hval0 hW _ _ hL _
  have hval : ∀ (j : Nat) t v, Tryd.f9.params[j]? = some t → args[j]? = some v → Value.okWide Tryd.prog W .any base t v := hval0
  have hW' := hW
  obtain ⟨p, q, hA0, hV, rfl, hfz, hnd⟩ := hW
  have hA : DataW.TrodAll enc Tryd.prog W 0 (fun _ => true) true Tryd.f9.params.toList args.toList ds p := hA0
  rw [Tryd.params9] at hA hval
  obtain ⟨v0, vs0, d0, ds0, p0, q0, hargs, rfl, rfl, h0, r0⟩ := trodAll_cons hA
  obtain ⟨rfl, rfl, rfl⟩ := trodAll_nil r0
  obtain rfl : args = #[v0] := by cases args; simp_all
  obtain ⟨rfl, rfl⟩ := trodVars_none hV
  have k0 := h0
  have lt0 : ∀ x ∈ p0, x.block < W.heap.size := by obtain ⟨m, hm⟩ := k0; exact DataW.trod_lt m _ _ _ hm
  obtain ⟨cs0, rfl, hsz0⟩ := okWide_struct Tryd.underlying24 (hval 0 24 v0 rfl rfl)
  obtain ⟨c0_0, c0_1, rfl⟩ := array24 (hsz0.trans cells24)
  obtain ⟨fuel0, hf0⟩ := h0
  obtain ⟨a0_0, a0_1, rfl, rfl, w0_0, w0_1⟩ := opens24 hf0
  have hT := tab_met hL
  clear hA0 hval0 hL
  obtain ⟨k, hp⟩ := Pure.BitsEnds a0_0 a0_1 w0_0 w0_1
  refine (Print.riverbanklaw01_BitsEnds.calls k a0_0 a0_1 true W hT hp).mono fun e W' hpost => ?_
  obtain ⟨he, bel0⟩ := hpost
  have bel : Below W.heap.size W W' := bel0
  subst he
  exact ⟨_, rfl, _, _, _, [], _, [], hW', trodAll_mk1 (shut_bool Tryd.underlying4 _), (trodAll_cons_mk (Below.trod laidOut (by kernel_rfl) (of_decide_eq_true (by kernel_rfl)) k0 bel lt0) trodAll_mk0), rfl, bel.frame _, fun h => by cases h⟩
theorem and_tt {a b : Bool} (ha : a = true) (hb : b = true) : (a && b) = true := by rw [ha, hb]; rfl
theorem k0_ : (Rows.bitsEndsRow.wf (OpenSpec.ofChange Rows.bitsEndsSpec)) = true := by kernel_rfl
theorem k1_ : (laidOutB Tryd.prog) = true := by kernel_rfl
theorem k2_ : (mapsRowed Tryd.prog) = true := by kernel_rfl
theorem k3_ : (Tryd.f9.params.all (Tryd.prog.readableRec ·)) = true := by kernel_rfl
theorem k4_ : (namedTie Tryd.prog Rows.bitsEndsRow.named Rows.bitsEndsSpec.vars) = true := by kernel_rfl
theorem k5_ : ((Rows.bitsEndsRow.stops == [])) = true := by kernel_rfl
theorem k6_ : ((Tryd.prog.stops == [])) = true := by kernel_rfl
theorem k7_ : ((Rows.bitsEndsRow.knobs == [])) = true := by kernel_rfl
theorem k8_ : ((Tryd.prog.stopKnobs == [])) = true := by kernel_rfl
theorem k9_ : ((Rows.bitsEndsRow.inPlace == Tryd.prog.inPlace 9)) = true := by kernel_rfl
theorem k10_ : ((Rows.bitsEndsRow.unfollowed == Tryd.prog.unfollowed 9)) = true := by kernel_rfl
theorem k11_ : ((Rows.bitsEndsRow.recurses == Tryd.prog.recurses 9)) = true := by kernel_rfl
theorem k12_ : ((Rows.bitsEndsRow.named == Tryd.prog.varsNamed 9)) = true := by kernel_rfl
theorem k13_ : ((Rows.bitsEndsRow.maps == (Tryd.f9.params.toList ++ Rows.bitsEndsSpec.plain.varTypes Tryd.prog).any (Tryd.prog.mapsRec ·))) = true := by kernel_rfl
theorem k14_ : ((Rows.bitsEndsRow.ifaces == (Tryd.f9.params.toList ++ Rows.bitsEndsSpec.plain.varTypes Tryd.prog).any (Tryd.prog.ifacesRec ·))) = true := by kernel_rfl
theorem k15_ : ((Rows.bitsEndsRow.mapsOut == Tryd.prog.mapsAmong Tryd.f9.resultTypes.toList)) = true := by kernel_rfl
theorem k16_ : ((Rows.bitsEndsRow.loops == (Tryd.f9.params.toList ++ Rows.bitsEndsSpec.plain.varTypes Tryd.prog).any (Tryd.prog.loopsFrom ·))) = true := by kernel_rfl
theorem k17_ : ((Rows.bitsEndsRow.wideKeys == (Tryd.f9.params.toList ++ Rows.bitsEndsSpec.plain.varTypes Tryd.prog ++ Tryd.f9.resultTypes.toList).any (Tryd.prog.wideKeysFrom ·))) = true := by kernel_rfl
theorem k18_ : (Rows.bitsEndsSpec.vars.all (Tryd.prog.varReadable ·)) = true := by kernel_rfl
theorem k19_ : (Tryd.f9.resultTypes.all (fun t => Tryd.prog.readableRec t && decide (t < Tryd.prog.types.size))) = true := by kernel_rfl
theorem k20_ : ((Rows.bitsEndsRow.ifacesOut == Tryd.f9.resultTypes.toList.any (Tryd.prog.ifacesRec ·))) = true := by kernel_rfl
theorem k21_ : ((Rows.bitsEndsRow.loopsOut == Tryd.f9.resultTypes.toList.any (Tryd.prog.loopsFrom ·))) = true := by kernel_rfl
theorem k22_ : ((Rows.bitsEndsRow.plainKeys == Tryd.prog.plainKeys)) = true := by kernel_rfl
theorem k23_ : (Rows.bitsEndsRow.shortTexts.isNone) = true := by kernel_rfl
theorem k24_ : (Tryd.prog.stopsHeard) = true := by kernel_rfl
theorem k25_ : (Tryd.prog.mayEnter) = true := Facts.enter
theorem k26_ : ((Rows.bitsEndsRow.lifted == Tryd.prog.liftsFinal)) = true := by rw [Facts.final]; rfl
theorem k27_ : ((Tryd.prog.make == some Rows.bitsEndsRow.make)) = true := by rw [Facts.made]; rfl
theorem k28_ : ((Rows.bitsEndsRow.kinds == (if Rows.bitsEndsRow.domain.isEmpty then [] else Tryd.f9.params.toList.map fun t => match Tryd.prog.underlying t with | some (.int k) => some k | _ => none))) = true := by kernel_rfl
theorem k29_ : ((Rows.bitsEndsRow.pinned == Rows.bitsEndsRow.pinnedBy)) = true := by kernel_rfl
theorem k30_ : ((Rows.bitsEndsRow.veiled == (Tryd.f9.params.toList ++ Rows.bitsEndsSpec.plain.varTypes Tryd.prog ++ Tryd.f9.resultTypes.toList).any (Tryd.prog.veiledRec ·))) = true := by kernel_rfl
theorem k31_ : (Rows.bitsEndsRow.veiledFits Tryd.prog Tryd.f9.params.toList (Tryd.f9.params.toList ++ Rows.bitsEndsSpec.plain.varTypes Tryd.prog ++ Tryd.f9.resultTypes.toList)) = true := by kernel_rfl
set_option maxRecDepth 100000 in
theorem closed : joinedFacts Tryd.prog 9 Tryd.f9 Rows.bitsEndsSpec Rows.bitsEndsRow = true := (and_tt (and_tt (and_tt (and_tt (and_tt (and_tt (and_tt (and_tt (and_tt (and_tt (and_tt (and_tt (and_tt (and_tt (and_tt (and_tt (and_tt (and_tt (and_tt (and_tt (and_tt (and_tt (and_tt (and_tt (and_tt (and_tt (and_tt (and_tt (and_tt (and_tt (and_tt k0_ k1_) k2_) k3_) k4_) k5_) k6_) k7_) k8_) k9_) k10_) k11_) k12_) k13_) k14_) k15_) k16_) k17_) k18_) k19_) k20_) k21_) k22_) k23_) k24_) k25_) k26_) k27_) k28_) k29_) k30_) k31_)
theorem named_ : Tryd.prog.funcNamed Rows.bitsEndsRow.func = some 9 := by kernel_rfl
theorem laidIn_ : Rows.bitsEndsRow.wfByText (OpenSpec.ofChange Rows.bitsEndsSpec) = true := by kernel_rfl
theorem looks_ : false = Tryd.prog.looks [] := by kernel_rfl
theorem goes_ : false = Rows.bitsEndsRow.goesBy Tryd.prog := by kernel_rfl
theorem inst_ : Tryd.f9.isInstance Tryd.prog Rows.bitsEndsRow.origin Rows.bitsEndsRow.targs := of_decide_eq_true (by kernel_rfl)
theorem wrap_ : Tryd.f9.isWrapper Tryd.prog Rows.bitsEndsRow.wrapper Rows.bitsEndsRow.mainSum := by unfold Func.isWrapper; first | (rw [if_pos (by decide +kernel)]; kernel_rfl) | (rw [if_neg (by decide +kernel)]; exact ⟨rfl, rfl⟩)
theorem over : Rows.bitsEndsRow.holds Tryd.pinned (OpenSpec.ofChange Rows.bitsEndsSpec) :=
  OpenClaim.holds_of_wide 9 Tryd.f9 rfl rfl rfl rfl rfl rfl rfl ⟨rfl, rfl, rfl, rfl, rfl⟩ rfl rfl rfl rfl rfl named_ Tryd.func9 closed inst_ wrap_
    (fun os started H enc _ => lifted os started H enc)
/-- The tied card. -/
theorem proved : Rows.BitsEndsCardSaid :=
  Claim7.holds_tied_plain_at .later [] [.data] true (true, "d485a3c20bb517b6c85b095eb4961d443513c9e6e27a0d45b3e18e2222c32954") false
    over (fun _ h => by cases h) laidIn_ (fun _ h => by cases h) bitsEnds_row_tie rfl ⟨rfl, rfl⟩ Facts.mainIs rfl
    (fun f fn hf hfn => by
      obtain rfl : f = 9 := Option.some.inj (named_.symm.trans hf) |>.symm
      obtain rfl : fn = Tryd.f9 := (Option.some.inj (Tryd.func9.symm.trans hfn)).symm
      exact ⟨looks_, fun j t ht => by
        rw [Tryd.params9] at ht
        have hm : t ∈ [24] := by simpa using Array.mem_of_getElem? ht
        have hall : ([24].all fun u => !Tryd.prog.wantsStandIn u) = true := by kernel_rfl
        exact (show Tryd.prog.wantsStandIn t = false by simpa using List.all_eq_true.1 hall t hm)⟩)
    goes_
#print axioms proved
end Go.Proofs.YtkbimiimgcklaaaDoor.bitsEnds
namespace Go.Proofs.YtkbimiimgcklaaaDoor
/-- The card, under a short name, for the claim. -/
theorem bitsEnds_holds : Rows.BitsEndsCardSaid := bitsEnds.proved
end Go.Proofs.YtkbimiimgcklaaaDoor
