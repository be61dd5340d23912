/- The row of the law KeyFollows, out of the plain statement and the walk. -/
import Derived.Test.YtmfbgcimfmgobaaRows
import Derived.Test.YtmfbgcimfmgobaaAllKeyFollows8
import Derived.WalkKit
import Derived.ProofKit
import Derived.OpenShut
import Derived.ShutString
import Derived.ChangeOld
import Derived.Below
import Derived.SizedLaws
import Derived.Carry
import Derived.ChangeArms
import Derived.WideShapes
import Derived.KernelRfl
namespace Go.Proofs.Ytmfbgcimfmgobaa.keyFollows
open Go.ChangeShapes Go.WideShapes Go.ChangeAt Go.RowKit
open Go.ChangeMaps (open_string shut_string)
set_option linter.unusedVariables false
theorem own : ownKnob Try.prog.godebug = none := by kernel_rfl
theorem laidOut : laidOutB Try.prog = true := by kernel_rfl
section
variable {H : Type} {enc : TypeId × Value → H} {P : Program} {w : World} {base : Nat} {spare : Nat → Bool} {held : Bool}
theorem fld {t : TypeId} {fs : Array Field} {fuel : Nat} {cs : List Value} {x : DataW H × List MemPlace} (ht : P.underlying t = some (.struct fs)) (h : DataW.trod enc P w base spare held fuel t cs = some x) (i : Nat) (f : Field) (hf : fs[i]? = some f) :
    ∃ n y, DataW.trod enc P w base spare held n f.type ((cs.drop f.offset).take (P.cellsOf f.type)) = some y := by
  obtain ⟨xs, n, _, _, _, hlen, hh⟩ := DataW.trod_struct ht h
  have hi : i < xs.length := by rw [hlen]; exact (Array.getElem?_eq_some_iff.1 hf).1
  exact ⟨n, xs[i], by rw [hh i f hf]; exact List.getElem?_eq_getElem hi⟩
end
theorem cells3 : Try.prog.cellsOf 3 = 1 := by kernel_rfl
theorem cells9 : Try.prog.cellsOf 9 = 1 := by kernel_rfl
theorem cells29 : Try.prog.cellsOf 29 = 4 := by kernel_rfl
theorem opens29 {H : Type} {enc : TypeId × Value → H} {w : World} {base : Nat} {spare : Nat → Bool} {held : Bool} {fuel : Nat} {c0 c1 c2 c3 : Value} {x : DataW H × List MemPlace} (h : DataW.trod enc Try.prog w base spare held fuel 29 [c0, c1, c2, c3] = some x) :
    ∃ (b0 : ByteArray) (b1 : Int) (b2 : Int) (b3 : Int), c0 = .string b0 ∧ c1 = .int .i64 b1 ∧ c2 = .int .i64 b2 ∧ c3 = .int .i64 b3 ∧ (Lit.int .i64 b1).wf = true ∧ (Lit.int .i64 b2).wf = true ∧ (Lit.int .i64 b3).wf = true ∧ b0.size ≤ maxLen := by
  obtain ⟨n0, y0, g0⟩ := fld Try.underlying29 h 0 _ rfl
  replace g0 : DataW.trod enc Try.prog w base spare held n0 9 (([c0, c1, c2, c3].drop 0).take (Try.prog.cellsOf 9)) = some y0 := g0
  rw [cells9] at g0
  replace g0 : DataW.trod enc Try.prog w base spare held n0 9 [c0] = some y0 := g0
  obtain ⟨n1, y1, g1⟩ := fld Try.underlying29 h 1 _ rfl
  replace g1 : DataW.trod enc Try.prog w base spare held n1 3 (([c0, c1, c2, c3].drop 1).take (Try.prog.cellsOf 3)) = some y1 := g1
  rw [cells3] at g1
  replace g1 : DataW.trod enc Try.prog w base spare held n1 3 [c1] = some y1 := g1
  obtain ⟨n2, y2, g2⟩ := fld Try.underlying29 h 2 _ rfl
  replace g2 : DataW.trod enc Try.prog w base spare held n2 3 (([c0, c1, c2, c3].drop 2).take (Try.prog.cellsOf 3)) = some y2 := g2
  rw [cells3] at g2
  replace g2 : DataW.trod enc Try.prog w base spare held n2 3 [c2] = some y2 := g2
  obtain ⟨n3, y3, g3⟩ := fld Try.underlying29 h 3 _ rfl
  replace g3 : DataW.trod enc Try.prog w base spare held n3 3 (([c0, c1, c2, c3].drop 3).take (Try.prog.cellsOf 3)) = some y3 := g3
  rw [cells3] at g3
  replace g3 : DataW.trod enc Try.prog w base spare held n3 3 [c3] = some y3 := g3
  obtain ⟨b0, e0, _, wz0⟩ := DataW.trod_string Try.underlying9 g0
  obtain rfl : c0 = .string b0 := by simpa using e0
  obtain ⟨b1, e1, _, wz1⟩ := DataW.trod_int Try.underlying3 g1
  obtain rfl : c1 = .int .i64 b1 := by simpa using e1
  obtain ⟨b2, e2, _, wz2⟩ := DataW.trod_int Try.underlying3 g2
  obtain rfl : c2 = .int .i64 b2 := by simpa using e2
  obtain ⟨b3, e3, _, wz3⟩ := DataW.trod_int Try.underlying3 g3
  obtain rfl : c3 = .int .i64 b3 := by simpa using e3
  exact ⟨b0, b1, b2, b3, rfl, rfl, rfl, rfl, wz1, wz2, wz3, wz0⟩
theorem array29 {α : Type} {cs : Array α} (h : cs.size = 4) : ∃ c0 c1 c2 c3, cs = #[c0, c1, c2, c3] := by
  obtain ⟨l⟩ := cs
  match l, h with
  | [c0, c1, c2, c3], _ => exact ⟨c0, c1, c2, c3, rfl⟩
set_option maxRecDepth 100000 in
theorem lifted (os : Os) (started : os.Started) (H : Type) (enc : TypeId × Value → H) :
    ReturnsInHanded {} Try.checked os 9 .any (Rows.keyFollowsSpec.pre6 enc Try.prog Try.f9 Rows.keyFollowsRow.domain false) (Rows.keyFollowsSpec.post enc Try.prog Try.f9 false true false false) := by
  refine returnsInHanded_of_change_sized (C := Try.checked) own started (by kernel_rfl) Try.func9
    (ChangeSpec.witness6 (enc := enc) (C := Try.checked) false ⟨#[], #[.agg #[.string ByteArray.empty, .int .i64 0, .int .i64 0, .int .i64 0]], []⟩ 8 (by kernel_rfl) (by kernel_rfl) (by kernel_rfl) (by kernel_rfl)) ?_
  intro W base args ds gs before hval0 hW hcnd hsz0 _
  have hval : ∀ (j : Nat) t v, Try.f9.params[j]? = some t → args[j]? = some v → Value.okWide Try.prog W .any base t v := hval0
  have hW' := hW
  obtain ⟨p, q, hA0, hV, rfl, hfz, hnd⟩ := hW
  have hA : DataW.TrodAll enc Try.prog W 0 (fun _ => true) true Try.f9.params.toList args.toList ds p := hA0
  rw [Try.params9] at hA hval
  obtain ⟨v0, vs0, d0, ds0, p0, q0, hargs, rfl, rfl, h0, r0⟩ := trodAll_cons hA
  obtain ⟨rfl, rfl, rfl⟩ := trodAll_nil r0
  obtain rfl : args = #[v0] := by cases args; simp_all
  obtain ⟨rfl, rfl⟩ := trodVars_none hV
  have k0 := h0
  have lt0 : ∀ x ∈ p0, x.block < W.heap.size := by obtain ⟨m, hm⟩ := k0; exact DataW.trod_lt m _ _ _ hm
  obtain ⟨cs0, rfl, hsz0⟩ := okWide_struct Try.underlying29 (hval 0 29 v0 rfl rfl)
  obtain ⟨c0_0, c0_1, c0_2, c0_3, rfl⟩ := array29 (hsz0.trans cells29)
  obtain ⟨fuel0, hf0⟩ := h0
  obtain ⟨a0_0, a0_1, a0_2, a0_3, rfl, rfl, rfl, rfl, w0_1, w0_2, w0_3, w0_0⟩ := opens29 hf0
  clear hA0 hval0 hsz0
  obtain ⟨k, hp⟩ := Pure.KeyFollows a0_0 a0_1 a0_2 a0_3 w0_1 w0_2 w0_3
  refine (Print.riverbanklaw10_KeyFollows.calls k a0_0 a0_1 a0_2 a0_3 true W hp).mono fun e W' hpost => ?_
  obtain ⟨he, bel0⟩ := hpost
  have bel : Below W.heap.size W W' := bel0
  subst he
  exact ⟨_, rfl, _, _, _, [], _, [], hW', trodAll_mk1 (shut_bool Try.underlying4 _), (trodAll_cons_mk (Below.trod laidOut (by kernel_rfl) (of_decide_eq_true (by kernel_rfl)) k0 bel lt0) trodAll_mk0), rfl, bel.frame _, fun h => by cases h⟩
theorem over : Rows.keyFollowsRow.holds Try.pinned (OpenSpec.ofChange Rows.keyFollowsSpec) :=
  OpenClaim.holds_of_wide 9 Try.f9 rfl rfl rfl rfl rfl rfl rfl ⟨rfl, rfl, rfl, rfl, rfl⟩ rfl rfl rfl rfl rfl (by kernel_rfl) Try.func9 (by kernel_rfl)
    (of_decide_eq_true (by kernel_rfl)) (by unfold Func.isWrapper; first | (rw [if_pos (by decide +kernel)]; kernel_rfl) | (rw [if_neg (by decide +kernel)]; exact ⟨rfl, rfl⟩))
    (fun os started H enc _ => lifted os started H enc)
theorem proved : Rows.KeyFollowsSaid := over
#print axioms proved
end Go.Proofs.Ytmfbgcimfmgobaa.keyFollows
namespace Go.Proofs.Ytmfbgcimfmgobaa
/-- The row, under a short name, for the claim. -/
theorem keyFollows_holds : Rows.KeyFollowsSaid := keyFollows.proved
end Go.Proofs.Ytmfbgcimfmgobaa
