/- The law BitsBack holds of the given program for every input: a set made of a list has just the squares of that, and made of its own list it is the same; no condition. -/
import Derived.Test.YtkbimiimgcklaaaDoorRows
import Derived.Test.YtkbimiimgcklaaaDoorTie
import Derived.Test.YtkbimiimgcklaaaDoorCards
import Derived.Test.YtkbimiimgcklaaaDoorMain
import Derived.Test.YtkbimiimgcklaaaDoorAllBitsBack24
import Derived.Test.YtkbimiimgcklaaaDoorAllBitsBack27
import Derived.Test.YtkbimiimgcklaaaDoorAllBitsBack1
import Derived.LaidMore
import Derived.Lib.LaidTab
import Derived.SevenTiedAt
import Derived.Stop.Joined
import Derived.WalkKit
import Derived.ProofKit
import Derived.OpenShut
import Derived.ShutString
import Derived.ChangeOld
import Derived.Below
import Derived.SizedLaws
import Derived.Carry
import Derived.ChangeArms
import Derived.WideShapes
import Derived.KernelRfl
namespace Go.Proofs.YtkbimiimgcklaaaDoor.bitsBack
open Go.ChangeShapes Go.WideShapes Go.ChangeAt Go.RowKit
open Go.ChangeMaps (open_string shut_string)
set_option linter.unusedVariables false
theorem own : ownKnob Tryd.prog.godebug = none := by kernel_rfl
theorem laidOut : laidOutB Tryd.prog = true := by kernel_rfl
section
variable {H : Type} {enc : TypeId × Value → H} {P : Program} {w : World} {base : Nat} {spare : Nat → Bool} {held : Bool}
theorem fld {t : TypeId} {fs : Array Field} {fuel : Nat} {cs : List Value} {x : DataW H × List MemPlace} (ht : P.underlying t = some (.struct fs)) (h : DataW.trod enc P w base spare held fuel t cs = some x) (i : Nat) (f : Field) (hf : fs[i]? = some f) :
    ∃ n y, DataW.trod enc P w base spare held n f.type ((cs.drop f.offset).take (P.cellsOf f.type)) = some y := by
  obtain ⟨xs, n, _, _, _, hlen, hh⟩ := DataW.trod_struct ht h
  have hi : i < xs.length := by rw [hlen]; exact (Array.getElem?_eq_some_iff.1 hf).1
  exact ⟨n, xs[i], by rw [hh i f hf]; exact List.getElem?_eq_getElem hi⟩
end
def IsRow (k : IntKind) (w : World) (a : Option Addr) (len cap : Nat) (zs : List Int) : Prop :=
  (a = none ∧ len = 0 ∧ cap = 0 ∧ zs = []) ∨
  ∃ x, a = some x ∧ len ≤ cap ∧ cap ≤ maxLen ∧ zs.length = cap ∧ (∀ i, i < zs.length → w.cell? (x.add i) = some (.int k (zs.getD i 0))) ∧ ∀ n ∈ zs, (Lit.int k n).wf = true
/-- The door's own heap meets the condition: closed facts. -/
theorem door_met (os : Os) (args : Array Value) : laidMetH Tryd.prog [("math/bits.deBruijn64tab", Rows.laid_math_bits_deBruijn64tab)] ((World.doorLaid Tryd.prog 14 os).forCall (fun _ _ => 0) ⟨#[], args, []⟩).memory :=
  laidMetH_of_parts3 (fuel := 8) (laidMet_of_run' 8 (by kernel_rfl) (by kernel_rfl)) (by kernel_rfl) (by kernel_rfl)
/-- The table, out of the condition. -/
theorem tab_met {W : World} (h : laidMetH Tryd.prog [("math/bits.deBruijn64tab", Rows.laid_math_bits_deBruijn64tab)] W) : Print.TabHere W := by
  rw [MakeChecks.laidMetH_plain _ _ _ (by kernel_rfl)] at h
  have h' : laidMet Tryd.prog (("math/bits.deBruijn64tab", Lib.tabData .u8 (Lib.deBruijn64tab.map fun (n : Nat) => (n : Int))) :: []) W := h
  have ht := Lib.tabIs_of_head (g := 0) (by kernel_rfl) (by kernel_rfl : (Tryd.prog.globals[0]?).map (·.type) = some 107) Tryd.underlying107 Tryd.underlying5 (by kernel_rfl) (by kernel_rfl) h'
  intro j hj
  rw [ht.cell (by kernel_rfl : Tryd.prog.globalNamed "math/bits.deBruijn64tab" = some 0) j (by simpa using hj)]
  simp [List.getD, hj]
set_option maxRecDepth 100000 in
theorem lifted (os : Os) (started : os.Started) (H : Type) (enc : TypeId × Value → H) :
    ReturnsInHanded {} Tryd.checked os 6 .any (fun w args => (Rows.bitsBackSpec.pre enc Tryd.prog Tryd.f6 [] false w args ∧ laidMetH Tryd.prog [("math/bits.deBruijn64tab", Rows.laid_math_bits_deBruijn64tab)] w) ∧ sizedMet enc Tryd.prog Tryd.f6 (OpenSpec.ofChange Rows.bitsBackSpec) false w args) (Rows.bitsBackSpec.post enc Tryd.prog Tryd.f6 false true false false) := by
  refine returnsInHanded_of_change_and (C := Tryd.checked) (X := fun w _ => laidMetH Tryd.prog [("math/bits.deBruijn64tab", Rows.laid_math_bits_deBruijn64tab)] w) (fun _ _ _ hh h => h.of_heap hh) own started (by kernel_rfl) Tryd.func6
    (ChangeSpec.witness_shaped (enc := enc) (C := Tryd.checked) (os := os) (X := fun w _ => laidMetH Tryd.prog [("math/bits.deBruijn64tab", Rows.laid_math_bits_deBruijn64tab)] w) false (World.doorLaid Tryd.prog 14 os) #[.slice none 0 0] 8 rfl (World.shaped_of_RefB (by kernel_rfl) (by kernel_rfl)) (by kernel_rfl) (by kernel_rfl) (by kernel_rfl) (door_met os _)) ?_
  intro W base args ds gs before hval0 hW _ hszA hL _
  have hsz : (DataW.weightsEach Tryd.prog (Tryd.f6.params.toList ++ Rows.bitsBackSpec.plain.varTypes Tryd.prog) (ds ++ gs)).all (· ≤ reachBytes) = true := hszA
  have hval : ∀ (j : Nat) t v, Tryd.f6.params[j]? = some t → args[j]? = some v → Value.okWide Tryd.prog W .any base t v := hval0
  have hW' := hW
  obtain ⟨p, q, hA0, hV, rfl, hfz, hnd⟩ := hW
  have hA : DataW.TrodAll enc Tryd.prog W 0 (fun _ => true) true Tryd.f6.params.toList args.toList ds p := hA0
  rw [Tryd.params6] at hA hval hsz
  obtain ⟨v0, vs0, d0, ds0, p0, q0, hargs, rfl, rfl, h0, r0⟩ := trodAll_cons hA
  obtain ⟨rfl, rfl, rfl⟩ := trodAll_nil r0
  obtain rfl : args = #[v0] := by cases args; simp_all
  obtain ⟨rfl, rfl⟩ := trodVars_none hV
  have k0 := h0
  have lt0 : ∀ x ∈ p0, x.block < W.heap.size := by obtain ⟨m, hm⟩ := k0; exact DataW.trod_lt m _ _ _ hm
  obtain ⟨a0, len0, cap0, rfl⟩ := okWide_slice Tryd.underlying33 (hval 0 33 v0 rfl rfl)
  obtain ⟨z0, w0⟩ : ∃ zs, IsRow .i64 W a0 len0 cap0 zs := by
    obtain ⟨fuel, hf⟩ := h0
    rcases open_ints Tryd.underlying33 Tryd.underlying3 (by kernel_rfl) hf with ⟨hcs, _⟩ | ⟨x, l, c, zs, hcs, _, hl, hm, hz, _, hcell, hwz⟩
    · simp [Value.cells] at hcs
      obtain ⟨rfl, rfl, rfl⟩ := hcs
      exact ⟨[], .inl ⟨rfl, rfl, rfl, rfl⟩⟩
    · simp [Value.cells] at hcs
      obtain ⟨rfl, rfl, rfl⟩ := hcs
      exact ⟨zs, .inr ⟨_, rfl, hl, hm, by simpa using hz, hcell, hwz⟩⟩
  have y0 : len0 * 8 ≤ 140737488351232 := Go.Proofs.YtkbimiimgcklaaaDoorW.PrintWords.sized_ints hsz (j := 0) (t := 33) rfl rfl Tryd.underlying33 Tryd.underlying3 (by kernel_rfl) (by kernel_rfl) h0
  have hT := tab_met hL
  clear hA0 hval0 hL
  refine (Print.riverbanklaw01_BitsBack.walk Pure.BitsBack a0 len0 cap0 z0 W hT w0 y0).mono fun e W' hpost => ?_
  obtain ⟨he, bel0⟩ := hpost
  have bel : Below W.heap.size W W' := bel0
  subst he
  exact ⟨_, rfl, _, _, _, [], _, [], hW', trodAll_mk1 (shut_bool Tryd.underlying4 _), (trodAll_cons_mk (Below.trod laidOut (by kernel_rfl) (of_decide_eq_true (by kernel_rfl)) k0 bel lt0) trodAll_mk0), rfl, bel.frame _, fun h => by cases h⟩
theorem and_tt {a b : Bool} (ha : a = true) (hb : b = true) : (a && b) = true := by rw [ha, hb]; rfl
theorem k0_ : (Rows.bitsBackRow.wf (OpenSpec.ofChange Rows.bitsBackSpec)) = true := by kernel_rfl
theorem k1_ : (laidOutB Tryd.prog) = true := by kernel_rfl
theorem k2_ : (mapsRowed Tryd.prog) = true := by kernel_rfl
theorem k3_ : (Tryd.f6.params.all (Tryd.prog.readableRec ·)) = true := by kernel_rfl
theorem k4_ : (namedTie Tryd.prog Rows.bitsBackRow.named Rows.bitsBackSpec.vars) = true := by kernel_rfl
theorem k5_ : ((Rows.bitsBackRow.stops == [])) = true := by kernel_rfl
theorem k6_ : ((Tryd.prog.stops == [])) = true := by kernel_rfl
theorem k7_ : ((Rows.bitsBackRow.knobs == [])) = true := by kernel_rfl
theorem k8_ : ((Tryd.prog.stopKnobs == [])) = true := by kernel_rfl
theorem k9_ : ((Rows.bitsBackRow.inPlace == Tryd.prog.inPlace 6)) = true := by kernel_rfl
theorem k10_ : ((Rows.bitsBackRow.unfollowed == Tryd.prog.unfollowed 6)) = true := by kernel_rfl
theorem k11_ : ((Rows.bitsBackRow.recurses == Tryd.prog.recurses 6)) = true := by kernel_rfl
theorem k12_ : ((Rows.bitsBackRow.named == Tryd.prog.varsNamed 6)) = true := by kernel_rfl
theorem k13_ : ((Rows.bitsBackRow.maps == (Tryd.f6.params.toList ++ Rows.bitsBackSpec.plain.varTypes Tryd.prog).any (Tryd.prog.mapsRec ·))) = true := by kernel_rfl
theorem k14_ : ((Rows.bitsBackRow.ifaces == (Tryd.f6.params.toList ++ Rows.bitsBackSpec.plain.varTypes Tryd.prog).any (Tryd.prog.ifacesRec ·))) = true := by kernel_rfl
theorem k15_ : ((Rows.bitsBackRow.mapsOut == Tryd.prog.mapsAmong Tryd.f6.resultTypes.toList)) = true := by kernel_rfl
theorem k16_ : ((Rows.bitsBackRow.loops == (Tryd.f6.params.toList ++ Rows.bitsBackSpec.plain.varTypes Tryd.prog).any (Tryd.prog.loopsFrom ·))) = true := by kernel_rfl
theorem k17_ : ((Rows.bitsBackRow.wideKeys == (Tryd.f6.params.toList ++ Rows.bitsBackSpec.plain.varTypes Tryd.prog ++ Tryd.f6.resultTypes.toList).any (Tryd.prog.wideKeysFrom ·))) = true := by kernel_rfl
theorem k18_ : (Rows.bitsBackSpec.vars.all (Tryd.prog.varReadable ·)) = true := by kernel_rfl
theorem k19_ : (Tryd.f6.resultTypes.all (fun t => Tryd.prog.readableRec t && decide (t < Tryd.prog.types.size))) = true := by kernel_rfl
theorem k20_ : ((Rows.bitsBackRow.ifacesOut == Tryd.f6.resultTypes.toList.any (Tryd.prog.ifacesRec ·))) = true := by kernel_rfl
theorem k21_ : ((Rows.bitsBackRow.loopsOut == Tryd.f6.resultTypes.toList.any (Tryd.prog.loopsFrom ·))) = true := by kernel_rfl
theorem k22_ : ((Rows.bitsBackRow.plainKeys == Tryd.prog.plainKeys)) = true := by kernel_rfl
theorem k23_ : (Rows.bitsBackRow.shortTexts.isNone) = true := by kernel_rfl
theorem k24_ : (Tryd.prog.stopsHeard) = true := by kernel_rfl
theorem k25_ : (Tryd.prog.mayEnter) = true := Facts.enter
theorem k26_ : ((Rows.bitsBackRow.lifted == Tryd.prog.liftsFinal)) = true := by rw [Facts.final]; rfl
theorem k27_ : ((Tryd.prog.make == some Rows.bitsBackRow.make)) = true := by rw [Facts.made]; rfl
theorem k28_ : ((Rows.bitsBackRow.kinds == (if Rows.bitsBackRow.domain.isEmpty then [] else Tryd.f6.params.toList.map fun t => match Tryd.prog.underlying t with | some (.int k) => some k | _ => none))) = true := by kernel_rfl
theorem k29_ : ((Rows.bitsBackRow.pinned == Rows.bitsBackRow.pinnedBy)) = true := by kernel_rfl
theorem k30_ : ((Rows.bitsBackRow.veiled == (Tryd.f6.params.toList ++ Rows.bitsBackSpec.plain.varTypes Tryd.prog ++ Tryd.f6.resultTypes.toList).any (Tryd.prog.veiledRec ·))) = true := by kernel_rfl
theorem k31_ : (Rows.bitsBackRow.veiledFits Tryd.prog Tryd.f6.params.toList (Tryd.f6.params.toList ++ Rows.bitsBackSpec.plain.varTypes Tryd.prog ++ Tryd.f6.resultTypes.toList)) = true := by kernel_rfl
set_option maxRecDepth 100000 in
theorem closed : joinedFacts Tryd.prog 6 Tryd.f6 Rows.bitsBackSpec Rows.bitsBackRow = true := (and_tt (and_tt (and_tt (and_tt (and_tt (and_tt (and_tt (and_tt (and_tt (and_tt (and_tt (and_tt (and_tt (and_tt (and_tt (and_tt (and_tt (and_tt (and_tt (and_tt (and_tt (and_tt (and_tt (and_tt (and_tt (and_tt (and_tt (and_tt (and_tt (and_tt (and_tt k0_ k1_) k2_) k3_) k4_) k5_) k6_) k7_) k8_) k9_) k10_) k11_) k12_) k13_) k14_) k15_) k16_) k17_) k18_) k19_) k20_) k21_) k22_) k23_) k24_) k25_) k26_) k27_) k28_) k29_) k30_) k31_)
theorem named_ : Tryd.prog.funcNamed Rows.bitsBackRow.func = some 6 := by kernel_rfl
theorem laidIn_ : Rows.bitsBackRow.wfByText (OpenSpec.ofChange Rows.bitsBackSpec) = true := by kernel_rfl
theorem looks_ : false = Tryd.prog.looks [] := by kernel_rfl
theorem goes_ : false = Rows.bitsBackRow.goesBy Tryd.prog := by kernel_rfl
theorem inst_ : Tryd.f6.isInstance Tryd.prog Rows.bitsBackRow.origin Rows.bitsBackRow.targs := of_decide_eq_true (by kernel_rfl)
theorem wrap_ : Tryd.f6.isWrapper Tryd.prog Rows.bitsBackRow.wrapper Rows.bitsBackRow.mainSum := by unfold Func.isWrapper; first | (rw [if_pos (by decide +kernel)]; kernel_rfl) | (rw [if_neg (by decide +kernel)]; exact ⟨rfl, rfl⟩)
theorem over : Rows.bitsBackRow.holds Tryd.pinned (OpenSpec.ofChange Rows.bitsBackSpec) :=
  OpenClaim.holds_of_wide 6 Tryd.f6 rfl rfl rfl rfl rfl rfl rfl ⟨rfl, rfl, rfl, rfl, rfl⟩ rfl rfl rfl rfl rfl named_ Tryd.func6 closed inst_ wrap_
    (fun os started H enc _ => lifted os started H enc)
/-- The tied card. -/
theorem proved : Rows.BitsBackCardSaid :=
  Claim7.holds_tied_plain_at .later [] [.data] true (true, "d485a3c20bb517b6c85b095eb4961d443513c9e6e27a0d45b3e18e2222c32954") false
    over (fun _ h => by cases h) laidIn_ (fun _ h => by cases h) bitsBack_row_tie rfl ⟨rfl, rfl⟩ Facts.mainIs rfl
    (fun f fn hf hfn => by
      obtain rfl : f = 6 := Option.some.inj (named_.symm.trans hf) |>.symm
      obtain rfl : fn = Tryd.f6 := (Option.some.inj (Tryd.func6.symm.trans hfn)).symm
      exact ⟨looks_, fun j t ht => by
        rw [Tryd.params6] at ht
        have hm : t ∈ [33] := by simpa using Array.mem_of_getElem? ht
        have hall : ([33].all fun u => !Tryd.prog.wantsStandIn u) = true := by kernel_rfl
        exact (show Tryd.prog.wantsStandIn t = false by simpa using List.all_eq_true.1 hall t hm)⟩)
    goes_
#print axioms proved
end Go.Proofs.YtkbimiimgcklaaaDoor.bitsBack
namespace Go.Proofs.YtkbimiimgcklaaaDoor
/-- The card, under a short name, for the claim. -/
theorem bitsBack_holds : Rows.BitsBackCardSaid := bitsBack.proved
end Go.Proofs.YtkbimiimgcklaaaDoor
