/- The row of the law KeyMoved, out of the plain statement and the walk. -/
import Derived.Test.YtmfbgcimfmgobaaRows
import Derived.Test.YtmfbgcimfmgobaaPrint16
import Derived.Test.YtmfbgcimfmgobaaPureKeyMoved
import Derived.WalkKit
import Derived.ProofKit
import Derived.OpenShut
import Derived.ShutString
import Derived.ChangeOld
import Derived.Below
import Derived.SizedLaws
import Derived.Carry
import Derived.ChangeArms
import Derived.WideShapes
import Derived.KernelRfl
namespace Go.Proofs.Ytmfbgcimfmgobaa.keyMoved
open Go.ChangeShapes Go.WideShapes Go.ChangeAt Go.RowKit
open Go.ChangeMaps (open_string shut_string)
set_option linter.unusedVariables false
theorem own : ownKnob Try.prog.godebug = none := by kernel_rfl
theorem laidOut : laidOutB Try.prog = true := by kernel_rfl
section
variable {H : Type} {enc : TypeId × Value → H} {P : Program} {w : World} {base : Nat} {spare : Nat → Bool} {held : Bool}
theorem fld {t : TypeId} {fs : Array Field} {fuel : Nat} {cs : List Value} {x : DataW H × List MemPlace} (ht : P.underlying t = some (.struct fs)) (h : DataW.trod enc P w base spare held fuel t cs = some x) (i : Nat) (f : Field) (hf : fs[i]? = some f) :
    ∃ n y, DataW.trod enc P w base spare held n f.type ((cs.drop f.offset).take (P.cellsOf f.type)) = some y := by
  obtain ⟨xs, n, _, _, _, hlen, hh⟩ := DataW.trod_struct ht h
  have hi : i < xs.length := by rw [hlen]; exact (Array.getElem?_eq_some_iff.1 hf).1
  exact ⟨n, xs[i], by rw [hh i f hf]; exact List.getElem?_eq_getElem hi⟩
end
theorem cells3 : Try.prog.cellsOf 3 = 1 := by kernel_rfl
theorem cells5 : Try.prog.cellsOf 5 = 1 := by kernel_rfl
theorem cells22 : Try.prog.cellsOf 22 = 1 := by kernel_rfl
theorem cells41 : Try.prog.cellsOf 41 = 2 := by kernel_rfl
theorem cells43 : Try.prog.cellsOf 43 = 5 := by kernel_rfl
theorem opens41 {H : Type} {enc : TypeId × Value → H} {w : World} {base : Nat} {spare : Nat → Bool} {held : Bool} {fuel : Nat} {c0 c1 : Value} {x : DataW H × List MemPlace} (h : DataW.trod enc Try.prog w base spare held fuel 41 [c0, c1] = some x) :
    ∃ (b0 : Int) (b1 : Int), c0 = .int .i64 b0 ∧ c1 = .int .i64 b1 ∧ (Lit.int .i64 b0).wf = true ∧ (Lit.int .i64 b1).wf = true := by
  obtain ⟨n0, y0, g0⟩ := fld Try.underlying41 h 0 _ rfl
  replace g0 : DataW.trod enc Try.prog w base spare held n0 3 (([c0, c1].drop 0).take (Try.prog.cellsOf 3)) = some y0 := g0
  rw [cells3] at g0
  replace g0 : DataW.trod enc Try.prog w base spare held n0 3 [c0] = some y0 := g0
  obtain ⟨n1, y1, g1⟩ := fld Try.underlying41 h 1 _ rfl
  replace g1 : DataW.trod enc Try.prog w base spare held n1 3 (([c0, c1].drop 1).take (Try.prog.cellsOf 3)) = some y1 := g1
  rw [cells3] at g1
  replace g1 : DataW.trod enc Try.prog w base spare held n1 3 [c1] = some y1 := g1
  obtain ⟨b0, e0, _, wz0⟩ := DataW.trod_int Try.underlying3 g0
  obtain rfl : c0 = .int .i64 b0 := by simpa using e0
  obtain ⟨b1, e1, _, wz1⟩ := DataW.trod_int Try.underlying3 g1
  obtain rfl : c1 = .int .i64 b1 := by simpa using e1
  exact ⟨b0, b1, rfl, rfl, wz0, wz1⟩
theorem array41 {α : Type} {cs : Array α} (h : cs.size = 2) : ∃ c0 c1, cs = #[c0, c1] := by
  obtain ⟨l⟩ := cs
  match l, h with
  | [c0, c1], _ => exact ⟨c0, c1, rfl⟩
theorem opens43 {H : Type} {enc : TypeId × Value → H} {w : World} {base : Nat} {spare : Nat → Bool} {held : Bool} {fuel : Nat} {c0 c1 c2 c3 c4 : Value} {x : DataW H × List MemPlace} (h : DataW.trod enc Try.prog w base spare held fuel 43 [c0, c1, c2, c3, c4] = some x) :
    ∃ (b0 : Int) (b1 : Int) (b2 : Int) (b3 : Int) (b4 : Int), c0 = .int .u64 b0 ∧ c1 = .int .u8 b1 ∧ c2 = .int .i64 b2 ∧ c3 = .int .i64 b3 ∧ c4 = .int .u8 b4 ∧ (Lit.int .u64 b0).wf = true ∧ (Lit.int .u8 b1).wf = true ∧ (Lit.int .i64 b2).wf = true ∧ (Lit.int .i64 b3).wf = true ∧ (Lit.int .u8 b4).wf = true := by
  obtain ⟨n0, y0, g0⟩ := fld Try.underlying43 h 0 _ rfl
  replace g0 : DataW.trod enc Try.prog w base spare held n0 22 (([c0, c1, c2, c3, c4].drop 0).take (Try.prog.cellsOf 22)) = some y0 := g0
  rw [cells22] at g0
  replace g0 : DataW.trod enc Try.prog w base spare held n0 22 [c0] = some y0 := g0
  obtain ⟨n1, y1, g1⟩ := fld Try.underlying43 h 1 _ rfl
  replace g1 : DataW.trod enc Try.prog w base spare held n1 5 (([c0, c1, c2, c3, c4].drop 1).take (Try.prog.cellsOf 5)) = some y1 := g1
  rw [cells5] at g1
  replace g1 : DataW.trod enc Try.prog w base spare held n1 5 [c1] = some y1 := g1
  obtain ⟨n2, y2, g2⟩ := fld Try.underlying43 h 2 _ rfl
  replace g2 : DataW.trod enc Try.prog w base spare held n2 41 (([c0, c1, c2, c3, c4].drop 2).take (Try.prog.cellsOf 41)) = some y2 := g2
  rw [cells41] at g2
  replace g2 : DataW.trod enc Try.prog w base spare held n2 41 [c2, c3] = some y2 := g2
  obtain ⟨n3, y3, g3⟩ := fld Try.underlying43 h 3 _ rfl
  replace g3 : DataW.trod enc Try.prog w base spare held n3 5 (([c0, c1, c2, c3, c4].drop 4).take (Try.prog.cellsOf 5)) = some y3 := g3
  rw [cells5] at g3
  replace g3 : DataW.trod enc Try.prog w base spare held n3 5 [c4] = some y3 := g3
  obtain ⟨b0, e0, _, wz0⟩ := DataW.trod_int Try.underlying22 g0
  obtain rfl : c0 = .int .u64 b0 := by simpa using e0
  obtain ⟨b1, e1, _, wz1⟩ := DataW.trod_int Try.underlying5 g1
  obtain rfl : c1 = .int .u8 b1 := by simpa using e1
  obtain ⟨b2, b3, rfl, rfl, wz2, wz3⟩ := opens41 g2
  obtain ⟨b4, e4, _, wz4⟩ := DataW.trod_int Try.underlying5 g3
  obtain rfl : c4 = .int .u8 b4 := by simpa using e4
  exact ⟨b0, b1, b2, b3, b4, rfl, rfl, rfl, rfl, rfl, wz0, wz1, wz2, wz3, wz4⟩
theorem array43 {α : Type} {cs : Array α} (h : cs.size = 5) : ∃ c0 c1 c2 c3 c4, cs = #[c0, c1, c2, c3, c4] := by
  obtain ⟨l⟩ := cs
  match l, h with
  | [c0, c1, c2, c3, c4], _ => exact ⟨c0, c1, c2, c3, c4, rfl⟩
set_option maxRecDepth 100000 in
theorem lifted (os : Os) (started : os.Started) (H : Type) (enc : TypeId × Value → H) :
    ReturnsInHanded {} Try.checked os 8 .any (Rows.keyMovedSpec.pre6 enc Try.prog Try.f8 Rows.keyMovedRow.domain false) (Rows.keyMovedSpec.post enc Try.prog Try.f8 false true false false) := by
  refine returnsInHanded_of_change_sized (C := Try.checked) own started (by kernel_rfl) Try.func8
    (ChangeSpec.witness6 (enc := enc) (C := Try.checked) false ⟨#[], #[.agg #[.int .u64 0, .int .u8 0, .int .i64 0, .int .i64 0, .int .u8 0]], []⟩ 8 (by kernel_rfl) (by kernel_rfl) (by kernel_rfl) (by kernel_rfl)) ?_
  intro W base args ds gs before hval0 hW hcnd hsz0 _
  have hval : ∀ (j : Nat) t v, Try.f8.params[j]? = some t → args[j]? = some v → Value.okWide Try.prog W .any base t v := hval0
  have hW' := hW
  obtain ⟨p, q, hA0, hV, rfl, hfz, hnd⟩ := hW
  have hA : DataW.TrodAll enc Try.prog W 0 (fun _ => true) true Try.f8.params.toList args.toList ds p := hA0
  rw [Try.params8] at hA hval
  obtain ⟨v0, vs0, d0, ds0, p0, q0, hargs, rfl, rfl, h0, r0⟩ := trodAll_cons hA
  obtain ⟨rfl, rfl, rfl⟩ := trodAll_nil r0
  obtain rfl : args = #[v0] := by cases args; simp_all
  obtain ⟨rfl, rfl⟩ := trodVars_none hV
  have k0 := h0
  have lt0 : ∀ x ∈ p0, x.block < W.heap.size := by obtain ⟨m, hm⟩ := k0; exact DataW.trod_lt m _ _ _ hm
  obtain ⟨cs0, rfl, hsz0⟩ := okWide_struct Try.underlying43 (hval 0 43 v0 rfl rfl)
  obtain ⟨c0_0, c0_1, c0_2, c0_3, c0_4, rfl⟩ := array43 (hsz0.trans cells43)
  obtain ⟨fuel0, hf0⟩ := h0
  obtain ⟨a0_0, a0_1, a0_2, a0_3, a0_4, rfl, rfl, rfl, rfl, rfl, w0_0, w0_1, w0_2, w0_3, w0_4⟩ := opens43 hf0
  clear hA0 hval0 hsz0
  obtain ⟨k, hp⟩ := Pure.KeyMoved a0_0 a0_1 a0_2 a0_3 a0_4 w0_0 w0_1 w0_2 w0_3 w0_4
  refine (Print.riverbanklaw10_KeyMoved.calls k a0_0 a0_1 a0_2 a0_3 a0_4 true W hp).mono fun e W' hpost => ?_
  obtain ⟨he, bel0⟩ := hpost
  have bel : Below W.heap.size W W' := bel0
  subst he
  exact ⟨_, rfl, _, _, _, [], _, [], hW', trodAll_mk1 (shut_bool Try.underlying4 _), (trodAll_cons_mk (Below.trod laidOut (by kernel_rfl) (of_decide_eq_true (by kernel_rfl)) k0 bel lt0) trodAll_mk0), rfl, bel.frame _, fun h => by cases h⟩
theorem over : Rows.keyMovedRow.holds Try.pinned (OpenSpec.ofChange Rows.keyMovedSpec) :=
  OpenClaim.holds_of_wide 8 Try.f8 rfl rfl rfl rfl rfl rfl rfl ⟨rfl, rfl, rfl, rfl, rfl⟩ rfl rfl rfl rfl rfl (by kernel_rfl) Try.func8 (by kernel_rfl)
    (of_decide_eq_true (by kernel_rfl)) (by unfold Func.isWrapper; first | (rw [if_pos (by decide +kernel)]; kernel_rfl) | (rw [if_neg (by decide +kernel)]; exact ⟨rfl, rfl⟩))
    (fun os started H enc _ => lifted os started H enc)
theorem proved : Rows.KeyMovedSaid := over
#print axioms proved
end Go.Proofs.Ytmfbgcimfmgobaa.keyMoved
namespace Go.Proofs.Ytmfbgcimfmgobaa
/-- The row, under a short name, for the claim. -/
theorem keyMoved_holds : Rows.KeyMovedSaid := keyMoved.proved
end Go.Proofs.Ytmfbgcimfmgobaa
