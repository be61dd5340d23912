/- Merged by a program of this session (wip/gprint/merge.py): what this claim needs of this session's texts, each part as it was. -/
import Derived.Test.YtmfbgcimfmgobaaProg
import Derived.Below
import Derived.Deep.Draws
import Derived.Deep.AppendLies
import Derived.Maps.AppendAt
import Derived.OwnWalk
import Derived.Laws.BytesArg
import Derived.Laws.MakeOwn
import Derived.Laws.OwnMore
import Derived.Deep.OwnRows
import Derived.Tactics
import Derived.Lib.ConvBytes
import Derived.Laws.Slices
import Derived.WalkKit
import Derived.KernelRfl
import Derived.RowKit3
import Derived.Deep.LoopGhost
import Derived.Deep.QuietTactic
import Derived.BigQuiet
import Derived.WideLaws
import Derived.Deep.DeepCutAuto
import Derived.Deep.CutBlock
import Derived.Deep.RegionHeld3
import Derived.Laws.Rows
import Derived.Lib.AppendStr
import Derived.ArgAppend
import Derived.Laws.IdiomCopy
import Derived.OrdersHeld
import Derived.Laws.BitsLemmas
import Derived.RowKit
import Derived.Test.YtmfbgcimfmgobaaWWords
import Derived.Test.YtmfbgcimfmgobaaWLast
import Derived.Test.YtmfbgcimfmgobaaWTab
import Derived.Test.YtmfbgcimfmgobaaWFour
import Derived.Test.YtmfbgcimfmgobaaWQPut
import Derived.Test.YtmfbgcimfmgobaaWApart
import Derived.Test.YtmfbgcimfmgobaaWArr
import Derived.Test.YtmfbgcimfmgobaaWZeros
import Derived.Test.YtmfbgcimfmgobaaWFoot
import Derived.Test.YtmfbgcimfmgobaaWKept
import Derived.Test.YtmfbgcimfmgobaaWShare
import Derived.Test.YtmfbgcimfmgobaaWN
import Derived.Test.YtmfbgcimfmgobaaWFootNe
import Derived.Test.YtmfbgcimfmgobaaWAt
import Derived.Test.YtmfbgcimfmgobaaWEqStruct
import Derived.Test.YtmfbgcimfmgobaaWRepsOne
import Derived.Test.YtmfbgcimfmgobaaWInv
import Derived.Test.YtmfbgcimfmgobaaWInvWords
import Derived.Test.YtmfbgcimfmgobaaWGuard
import Derived.Test.YtmfbgcimfmgobaaWNEv
import Derived.Test.YtmfbgcimfmgobaaWMore
import Derived.Shelf.Small.Strs
import Derived.Shelf.Strings.Search1
import Derived.Shelf.GgClosure.StringsIndexFunc
import Derived.Ground.GgwProg
import Derived.Shelf.GgClosure.StringsIndexFuncTop
import Derived.Laws.IdiomStrings
import Derived.Deep.RegionWith
import Derived.RegionTactic
import Derived.BigRegion
import Derived.RangeFuncNested
import Derived.RangeFuncLeaves
import Derived.RangeFuncBound
import Derived.Shelf.Abstract
import Derived.Shelf.RegionOpen
import Derived.OwnWalkIn
import Derived.TacticsInMore
import Derived.LoopNIn
import Derived.LoopIn
import Derived.Maps.OwnIn
import Derived.Laws.Bits64
import Derived.WalkSpells
namespace Go.Proofs.Ytmfbgcimfmgobaa.KeyMath
end Go.Proofs.Ytmfbgcimfmgobaa.KeyMath
namespace Go.Proofs.Ytmfbgcimfmgobaa.KeyRef
end Go.Proofs.Ytmfbgcimfmgobaa.KeyRef
namespace Go.Proofs.Ytmfbgcimfmgobaa.Print
end Go.Proofs.Ytmfbgcimfmgobaa.Print
namespace Go.Proofs.Ytmfbgcimfmgobaa.Pure
end Go.Proofs.Ytmfbgcimfmgobaa.Pure
namespace Go.Proofs.Ytmfbgcimfmgobaa.RangeB
end Go.Proofs.Ytmfbgcimfmgobaa.RangeB
namespace Go.Proofs.Ytmfbgcimfmgobaa.ValueMath
end Go.Proofs.Ytmfbgcimfmgobaa.ValueMath

-- of YtmfbgcimfmgobaaPrint0
-- Written by a program of this session (wip/gprint/gprint.py) over the kit's print; the parts marked GIVEN by hand.
namespace Go.Proofs.Ytmfbgcimfmgobaa.Print
open Go.RowKit Go.Proofs.YtmfbgcimfmgobaaW.PrintWords Go.Proofs.YtmfbgcimfmgobaaW.PrintLast Go.Proofs.YtmfbgcimfmgobaaW.PrintMore
attribute [local go_sem] max2_int min2_int max_two min_two max_three min_three max_four min_four   -- for this text's walks alone
set_option linter.unusedVariables false
set_option linter.unusedSimpArgs false



def errW : Option Int → Value
  | none => .nilIface
  | some c => .iface 0 (.int .i64 c)
theorem errW_none : errW none = .nilIface := rfl
theorem errW_some (c : Int) : errW (some c) = .iface 0 (.int .i64 c) := rfl

theorem info3 : (Try.prog.info? 3).map (fun i => (i.zero, i.size, i.bytes)) = some (some (.int .i64 0), 1, 8) := by kernel_rfl
theorem info5 : (Try.prog.info? 5).map (fun i => (i.zero, i.size, i.bytes)) = some (some (.int .u8 0), 1, 1) := by kernel_rfl
theorem info22 : (Try.prog.info? 22).map (fun i => (i.zero, i.size, i.bytes)) = some (some (.int .u64 0), 1, 8) := by kernel_rfl
theorem info41 : (Try.prog.info? 41).map (fun i => (i.zero, i.size, i.bytes)) = some (some (.agg #[(.int .i64 0), (.int .i64 0)]), 2, 16) := by kernel_rfl
-- the values' own types
/-! #### struct type 41 -/
structure S41 where
  f0 : Int
  f1 : Int
def z41 : S41 := ⟨(0 : Int), (0 : Int)⟩
def k41 : Kd S41 := Kd.iso (Kd.pair (Kd.int .i64) (Kd.int .i64)) (fun x : S41 => (x.f0, x.f1))
theorem k41_open {w : World} {x : S41} {cs : List Value} (h : k41.K w x cs) : cs = [.int .i64 x.f0, .int .i64 x.f1] := by
  obtain ⟨_, _, rfl, rfl, rfl⟩ := h
  exact rfl
theorem k41_openM {w : World} {base : Nat} {ok : Nat → Prop} {x : S41} {cs : List Value} (h : k41.M w base ok x cs) : cs = [.int .i64 x.f0, .int .i64 x.f1] := by
  obtain ⟨_, _, rfl, rfl, rfl⟩ := h
  exact rfl
theorem k41_mk (w : World) (x : S41)  : k41.K w x [.int .i64 x.f0, .int .i64 x.f1] := ⟨[.int .i64 x.f0], [.int .i64 x.f1], rfl, rfl, rfl⟩
theorem k41_mkM (w : World) (base : Nat) (ok : Nat → Prop) (x : S41)  : k41.M w base ok x [.int .i64 x.f0, .int .i64 x.f1] := ⟨[.int .i64 x.f0], [.int .i64 x.f1], rfl, rfl, rfl⟩
def rd_T41 (xs : List S41) (i : Int) : S41 := xs.getD i.toNat z41
theorem at_T41 {w : World} {A : Option Addr} {n : Nat} {xs : List S41} (h : Kd.C k41 w A n xs) (i : Int) (h0 : 0 ≤ i) (h1 : i < n) : ∃ ad , A = some ad ∧ w.cell? (ad.add (i.toNat * 2)) = some (.int .i64 (rd_T41 xs i).f0) ∧ w.cell? ⟨(ad.add (i.toNat * 2)).block, (ad.add (i.toNat * 2)).off + 1, none⟩ = some (.int .i64 (rd_T41 xs i).f1) := by
  obtain ⟨ad, c, e, _, hK, hc0⟩ := Kd.C_get h z41 i h0 h1
  have hc : ∀ j u, c[j]? = some u → w.cell? (ad.add (i.toNat * 2 + j)) = some u := hc0
  obtain rfl := k41_open hK
  exact ⟨ad, e, hc 0 _ rfl, by rw [← add_field _ _ 1 (by omega)]; exact hc 1 _ rfl⟩

end Go.Proofs.Ytmfbgcimfmgobaa.Print

-- of YtmfbgcimfmgobaaShelf
/-
  DERIVED: THE SHELF's CONTRACTS AT THIS DUMP, IN PLAIN WORDS (tools/lay-plain.mjs out of 'TryShelf.lean', which tools/lay-shelf.mjs wrote): THE SAME DECLARATIONS UNDER THE SAME NAMES: 'import', 'namespace', 'open', 'def', 'theorem' AND NOTHING ELSE: no command of the shelf's: FOR A HAND-IN. Each laying: the table of numbers ('.._ren') and one theorem, a field a fact of the dump's own or the kernel's comparison; each contract: ONE APPLICATION.
-/
namespace Go.Proofs
open Go.Shelf
def Try.lays137_ren : Go.Shelf.Ren := ⟨fun | 137 => 56 | 217 => 77 | 266 => 91 | n => n, fun | 9 => 9 | 5 => 5 | 3 => 3 | n => n, fun | n => n⟩
theorem Try.lays137 : Go.Proofs.Lays.n137 Try.prog Try.lays137_ren := {
  mixed := by kernel_rfl
  f137 := Try.func56.trans (congrArg some (by kernel_rfl))
  f217 := Try.func77.trans (congrArg some (by kernel_rfl))
  f266 := Try.func91.trans (congrArg some (by kernel_rfl))
  t3 := Try.underlying3
  a3 := Try.isAgg3
  z3 := Try.sizeOf3
  v3 := Try.zeroValue3
  t5 := Try.underlying5
  a5 := Try.isAgg5
  z5 := Try.sizeOf5
  v5 := Try.zeroValue5
  t9 := Try.underlying9
  a9 := Try.isAgg9
  z9 := Try.sizeOf9
  v9 := Try.zeroValue9 }
open Go.RowKit in
/-- strings.IndexByte: "IndexByte returns the index of the first instance of c in s, or -1 if c is not present in s.": IT RETURNS 'Lib.indexByte s c'; the world is as it was. (LAID: no walk: one application.) -/
theorem Try.strings_IndexByte (s : ByteArray) (c : Int) (w : World) :
    Calls Try.prog 56 #[.string s, .int .u8 c] w fun e w' => e = .returned (.int .i64 (Lib.indexByte s.data.toList c.toNat.toUInt8)) ∧ w' = w := Any.strings_IndexByte Try.lays137 s c w
def Try.lays217_ren : Go.Shelf.Ren := ⟨fun | 217 => 77 | 266 => 91 | n => n, fun | 9 => 9 | 5 => 5 | 3 => 3 | n => n, fun | n => n⟩
theorem Try.lays217 : Go.Proofs.Lays.n217 Try.prog Try.lays217_ren := {
  mixed := by kernel_rfl
  f217 := Try.func77.trans (congrArg some (by kernel_rfl))
  f266 := Try.func91.trans (congrArg some (by kernel_rfl))
  t3 := Try.underlying3
  a3 := Try.isAgg3
  z3 := Try.sizeOf3
  v3 := Try.zeroValue3
  t5 := Try.underlying5
  a5 := Try.isAgg5
  z5 := Try.sizeOf5
  v5 := Try.zeroValue5
  t9 := Try.underlying9
  a9 := Try.isAgg9
  z9 := Try.sizeOf9
  v9 := Try.zeroValue9 }
open Go.RowKit Go.Lib in
/-- internal/stringslite.IndexByte (what strings.IndexByte calls): IT RETURNS 'Lib.indexByte s c'; the world is as it was. (LAID: no walk: one application.) -/
theorem Try.stringslite_IndexByte (s : ByteArray) (c : Int) (w : World) :
    Calls Try.prog 77 #[.string s, .int .u8 c] w fun e w' => e = .returned (.int .i64 (Lib.indexByte s.data.toList c.toNat.toUInt8)) ∧ w' = w := Any.stringslite_IndexByte Try.lays217 s c w
def Try.lays315_ren : Go.Shelf.Ren := ⟨fun | 315 => 82 | n => n, fun | 9 => 9 | 40 => 81 | 4 => 4 | 3 => 3 | 0 => 0 | 21 => 21 | n => n, fun | n => n⟩
theorem Try.lays315 : Go.Proofs.Lays.n315 Try.prog Try.lays315_ren := {
  mixed := by kernel_rfl
  f315 := Try.func82.trans (congrArg some (by kernel_rfl))
  t0 := Try.underlying0
  a0 := Try.isAgg0
  z0 := Try.sizeOf0
  v0 := Try.zeroValue0
  t3 := Try.underlying3
  a3 := Try.isAgg3
  z3 := Try.sizeOf3
  v3 := Try.zeroValue3
  t4 := Try.underlying4
  a4 := Try.isAgg4
  z4 := Try.sizeOf4
  v4 := Try.zeroValue4
  t9 := Try.underlying9
  a9 := Try.isAgg9
  z9 := Try.sizeOf9
  v9 := Try.zeroValue9
  t21 := Try.underlying21
  a21 := Try.isAgg21
  z21 := Try.sizeOf21
  v21 := Try.zeroValue21
  t40 := Try.underlying81
  a40 := Try.isAgg81
  z40 := Try.sizeOf81
  v40 := Try.zeroValue81 }
open Go.RowKit Go.Lib in
theorem Try.strings_indexFunc (g : Nat) (lb : Array Value) (eg : ∀ args w, (callFunc g args).run Try.prog w = .ok (.enter g args) w) (p : Nat → Bool) (truth : Bool) (s : ByteArray) (w : World) (hp : PredAt Try.prog g lb encR p w) :
    Calls Try.prog 82 #[.string s, .func (.func g) #[] lb, .bool truth] w fun e w' => e = .returned (.int .i64 (Lib.idxFunc p truth s)) ∧ Below w.heap.size w w' := Any.strings_indexFunc Try.lays315 g lb eg p truth s w hp
def Try.laysGw15_ren : Go.Shelf.Ren := ⟨fun | 15 => 64 | 20 => 82 | n => n, fun | 9 => 9 | 23 => 81 | 3 => 3 | 4 => 4 | 0 => 0 | 21 => 21 | n => n, fun | n => n⟩
theorem Try.laysGw15 : Go.Proofs.LaysGw.n15 Try.prog Try.laysGw15_ren := {
  mixed := by kernel_rfl
  f15 := Try.func64.trans (congrArg some (by kernel_rfl))
  f20 := Try.func82.trans (congrArg some (by kernel_rfl))
  t0 := Try.underlying0
  a0 := Try.isAgg0
  z0 := Try.sizeOf0
  v0 := Try.zeroValue0
  i0 := by kernel_rfl
  t3 := Try.underlying3
  a3 := Try.isAgg3
  z3 := Try.sizeOf3
  v3 := Try.zeroValue3
  i3 := by kernel_rfl
  t4 := Try.underlying4
  a4 := Try.isAgg4
  z4 := Try.sizeOf4
  v4 := Try.zeroValue4
  i4 := by kernel_rfl
  t9 := Try.underlying9
  a9 := Try.isAgg9
  z9 := Try.sizeOf9
  v9 := Try.zeroValue9
  i9 := by kernel_rfl
  t21 := Try.underlying21
  a21 := Try.isAgg21
  z21 := Try.sizeOf21
  v21 := Try.zeroValue21
  i21 := by kernel_rfl
  t23 := Try.underlying81
  a23 := Try.isAgg81
  z23 := Try.sizeOf81
  v23 := Try.zeroValue81
  i23 := by kernel_rfl }
open Go.RowKit Go.Lib in
theorem Try.strings_IndexFunc (g : Nat) (lb : Array Value) (eg : ∀ args w, (callFunc g args).run Try.prog w = .ok (.enter g args) w) (p : Nat → Bool) (s : ByteArray) (w : World) (hp : PredAt Try.prog g lb encR p w) :
    Calls Try.prog 64 #[.string s, .func (.func g) #[] lb] w fun e w' => e = .returned (.int .i64 (Lib.idxFunc p true s)) ∧ Below w.heap.size w w' := Any.strings_IndexFunc Try.laysGw15 g lb eg p s w hp
end Go.Proofs

-- of YtmfbgcimfmgobaaPrint2
-- Written by a program of this session (wip/gprint/gprint.py) over the kit's print; the parts marked GIVEN by hand.
namespace Go.Proofs.Ytmfbgcimfmgobaa.Print
open Go.RowKit Go.Proofs.YtmfbgcimfmgobaaW.PrintWords Go.Proofs.YtmfbgcimfmgobaaW.PrintLast Go.Proofs.YtmfbgcimfmgobaaW.PrintMore
attribute [local go_sem] max2_int min2_int max_two min_two max_three min_three max_four min_four   -- for this text's walks alone
set_option linter.unusedVariables false
set_option linter.unusedSimpArgs false
/-! GIVEN strings_IndexByte -/
-- GIVEN strings.IndexByte
-- MAKES no
-- IMPORT Derived.Test.YtmfbgcimfmgobaaShelf
def strings_IndexByte.f (a0 : ByteArray) (a1 : Int) : Option (Int) := some (Lib.indexByte a0.data.toList a1.toNat.toUInt8)
theorem strings_IndexByte.calls (a0 : ByteArray) (a1 : Int) (r : Int) (w : World) (h : strings_IndexByte.f a0 a1 = some r) :
    Calls Try.prog 56 #[.string a0, .int .u8 a1] w fun e w' => e = .returned (.int .i64 r) ∧ Drawn0 w w' := by
  obtain rfl := Option.some.inj h
  exact (Try.strings_IndexByte a0 a1 w).mono fun e w' ⟨he, hw⟩ => ⟨he, by subst hw; exact Drawn0.refl _⟩
theorem w64 (x : Int) (h0 : -9223372036854775808 ≤ x) (h1 : x ≤ 9223372036854775807) : wrap64 x = x := by unfold wrap64; omega
theorem idx_lt (l : List UInt8) (c : UInt8) : Lib.indexByte l c < l.length := by
  induction l with
  | nil => simp [Lib.indexByte]
  | cons b l ih =>
    unfold Lib.indexByte
    have := Lib.indexByte_ge l c
    have hl : ((b :: l).length : Int) = l.length + 1 := by simp
    rw [hl]
    split
    · omega
    · split <;> omega
theorem u8_all (p : UInt8 → Bool) (h : ∀ n : Fin 256, p (UInt8.ofNat n.val) = true) (b : UInt8) : p b = true := by
  have := h ⟨b.toNat, b.toNat_lt⟩
  simpa using this

end Go.Proofs.Ytmfbgcimfmgobaa.Print

-- of YtmfbgcimfmgobaaPrint3
-- Written by a program of this session (wip/gprint/gprint.py) over the kit's print; the parts marked GIVEN by hand.
namespace Go.Proofs.Ytmfbgcimfmgobaa.Print
open Go.RowKit Go.Proofs.YtmfbgcimfmgobaaW.PrintWords Go.Proofs.YtmfbgcimfmgobaaW.PrintLast Go.Proofs.YtmfbgcimfmgobaaW.PrintMore
attribute [local go_sem] max2_int min2_int max_two min_two max_three min_three max_four min_four   -- for this text's walks alone
set_option linter.unusedVariables false
set_option linter.unusedSimpArgs false
/-! ### board_isSquare: function 68 -/
def board_isSquare.f (a0 : Int) : Option (Bool) := if a0 ≥ 0 then (some (decide (a0 < 90))) else (some false)
set_option maxHeartbeats 8000000 in
set_option maxRecDepth 100000 in
theorem board_isSquare.calls (a0 : Int) (r : Bool) (w : World) (h : board_isSquare.f a0 = some r) :
    Calls Try.prog 68 #[.int .i64 a0] w fun e w' => e = .returned (.bool r) ∧ Drawn0 w w' := by
  have H : (if a0 ≥ 0 then (some (decide (a0 < 90))) else (some false)) = some r := h
  clear h
  by_cases c2 : a0 ≥ 0
  · rw [if_pos c2] at H
    have c2b0 : decide (0 ≤ a0) = true := decide_eq_true c2
    clear c2
    obtain rfl := Option.some.inj H
    go_enter Try.func68, Try.ntmps68
    go_wp2
    go_ret
    exact ⟨by first | rfl | (simp; done) | (simp [*]; done), by repeat (first | exact Drawn0.refl _ | apply Drawn0.step)⟩
  · rw [if_neg c2] at H
    have c2b0 : decide (0 ≤ a0) = false := decide_eq_false c2
    clear c2
    obtain rfl := Option.some.inj H
    go_enter Try.func68, Try.ntmps68
    go_wp2
    go_ret
    exact ⟨by first | rfl | (simp; done) | (simp [*]; done), by repeat (first | exact Drawn0.refl _ | apply Drawn0.step)⟩

/-! ### board_File: function 58 -/
def board_File.f (a0 : Int) : Option (Int) := (board_isSquare.f a0).bind fun t101 => (if t101 = true then (some (Int.tmod a0 9)) else (some (-1)))
set_option maxHeartbeats 8000000 in
set_option maxRecDepth 100000 in
theorem board_File.calls (a0 : Int) (r : Int) (w : World) (h : board_File.f a0 = some r) :
    Calls Try.prog 58 #[.int .i64 a0] w fun e w' => e = .returned (.int .i64 r) ∧ Drawn0 w w' := by
  have H : ((board_isSquare.f a0).bind fun t101 => (if t101 = true then (some (Int.tmod a0 9)) else (some (-1)))) = some r := h
  clear h
  replace H := Option.bind_eq_some_iff.mp H
  obtain ⟨t101, A20, H⟩ := H
  replace H : (if t101 = true then (some (Int.tmod a0 9)) else (some (-1))) = some r := H
  have A2 := Aside0.mk A20
  clear A20
  by_cases c3 : t101 = true
  · subst c3
    have H1 : (some (Int.tmod a0 9)) = some r := by rw [if_pos rfl] at H; exact H
    clear H
    have H := H1
    clear H1
    obtain rfl := Option.some.inj H
    go_enter Try.func58, Try.ntmps58
    go_wp2_with (first | ((with_reducible refine gate_callee (f := 68) rfl ?_); refine goesL_ (some 4) rfl rfl Try.func68 (by kernel_rfl) rfl #[.int .i64 a0] rfl (by (try simp only [List.map_toArray, List.map_cons, List.map_nil]); first | done | rfl | (simp only [List.length_drop, List.length_take]; rfl)) ?_; (with_reducible refine (board_isSquare.calls a0 true _ A2.out).mono ?_); rintro e w' ⟨rfl, ⟨nd, rfl⟩⟩; refine ⟨_, rfl, ?_⟩))
    go_ret
    exact ⟨by first | rfl | (simp; done) | (simp [*]; done), by repeat (first | exact Drawn0.refl _ | apply Drawn0.step)⟩
  · replace c3 := Bool.eq_false_iff.mpr c3
    subst c3
    have H1 : (some (-1)) = some r := by rw [if_neg (show ¬ (false = true) by decide)] at H; exact H
    clear H
    have H := H1
    clear H1
    obtain rfl := Option.some.inj H
    go_enter Try.func58, Try.ntmps58
    go_wp2_with (first | ((with_reducible refine gate_callee (f := 68) rfl ?_); refine goesL_ (some 4) rfl rfl Try.func68 (by kernel_rfl) rfl #[.int .i64 a0] rfl (by (try simp only [List.map_toArray, List.map_cons, List.map_nil]); first | done | rfl | (simp only [List.length_drop, List.length_take]; rfl)) ?_; (with_reducible refine (board_isSquare.calls a0 false _ A2.out).mono ?_); rintro e w' ⟨rfl, ⟨nd, rfl⟩⟩; refine ⟨_, rfl, ?_⟩))
    go_ret
    exact ⟨by first | rfl | (simp; done) | (simp [*]; done), by repeat (first | exact Drawn0.refl _ | apply Drawn0.step)⟩

end Go.Proofs.Ytmfbgcimfmgobaa.Print

-- of YtmfbgcimfmgobaaPrint5
-- Written by a program of this session (wip/gprint/gprint.py) over the kit's print; the parts marked GIVEN by hand.
namespace Go.Proofs.Ytmfbgcimfmgobaa.Print
open Go.RowKit Go.Proofs.YtmfbgcimfmgobaaW.PrintWords Go.Proofs.YtmfbgcimfmgobaaW.PrintLast Go.Proofs.YtmfbgcimfmgobaaW.PrintMore
attribute [local go_sem] max2_int min2_int max_two min_two max_three min_three max_four min_four   -- for this text's walks alone
set_option linter.unusedVariables false
set_option linter.unusedSimpArgs false
/-! ### board_Side: function 43 -/
def board_Side.f (a0 : Int) : Option (Int) := (strings_IndexByte.f (⟨#[75, 65, 66, 78, 82, 67, 80]⟩ : ByteArray) a0).bind fun t121 => (if t121 ≥ 0 then (some 0) else ((strings_IndexByte.f (⟨#[107, 97, 98, 110, 114, 99, 112]⟩ : ByteArray) a0).bind fun t122 => (if t122 ≥ 0 then (some 1) else (some (-1)))))
set_option maxHeartbeats 8000000 in
set_option maxRecDepth 100000 in
theorem board_Side.calls (a0 : Int) (r : Int) (w : World) (h : board_Side.f a0 = some r) :
    Calls Try.prog 43 #[.int .u8 a0] w fun e w' => e = .returned (.int .i64 r) ∧ Drawn0 w w' := by
  have H : ((strings_IndexByte.f (⟨#[75, 65, 66, 78, 82, 67, 80]⟩ : ByteArray) a0).bind fun t121 => (if t121 ≥ 0 then (some 0) else ((strings_IndexByte.f (⟨#[107, 97, 98, 110, 114, 99, 112]⟩ : ByteArray) a0).bind fun t122 => (if t122 ≥ 0 then (some 1) else (some (-1)))))) = some r := h
  clear h
  replace H := Option.bind_eq_some_iff.mp H
  obtain ⟨t121, A20, H⟩ := H
  replace H : (if t121 ≥ 0 then (some 0) else ((strings_IndexByte.f (⟨#[107, 97, 98, 110, 114, 99, 112]⟩ : ByteArray) a0).bind fun t122 => (if t122 ≥ 0 then (some 1) else (some (-1))))) = some r := H
  have A2 := Aside0.mk A20
  clear A20
  by_cases c3 : t121 ≥ 0
  · rw [if_pos c3] at H
    have c3b0 : decide (0 ≤ t121) = true := decide_eq_true c3
    clear c3
    obtain rfl := Option.some.inj H
    go_enter Try.func43, Try.ntmps43
    go_wp2_with (first | ((with_reducible refine gate_callee (f := 56) rfl ?_); refine goesL_ (some 5) rfl rfl Try.func56 (by kernel_rfl) rfl #[.string (⟨#[75, 65, 66, 78, 82, 67, 80]⟩ : ByteArray), .int .u8 a0] rfl (by (try simp only [List.map_toArray, List.map_cons, List.map_nil]); first | done | rfl | (simp only [List.length_drop, List.length_take]; rfl)) ?_; (with_reducible refine (strings_IndexByte.calls (⟨#[75, 65, 66, 78, 82, 67, 80]⟩ : ByteArray) a0 t121 _ A2.out).mono ?_); rintro e w' ⟨rfl, ⟨nd, rfl⟩⟩; refine ⟨_, rfl, ?_⟩))
    go_ret
    exact ⟨by first | rfl | (simp; done) | (simp [*]; done), by repeat (first | exact Drawn0.refl _ | apply Drawn0.step)⟩
  · rw [if_neg c3] at H
    have c3b0 : decide (0 ≤ t121) = false := decide_eq_false c3
    clear c3
    replace H := Option.bind_eq_some_iff.mp H
    obtain ⟨t122, A40, H⟩ := H
    replace H : (if t122 ≥ 0 then (some 1) else (some (-1))) = some r := H
    have A4 := Aside0.mk A40
    clear A40
    by_cases c5 : t122 ≥ 0
    · rw [if_pos c5] at H
      have c5b0 : decide (0 ≤ t122) = true := decide_eq_true c5
      clear c5
      obtain rfl := Option.some.inj H
      go_enter Try.func43, Try.ntmps43
      go_wp2_with (first | ((with_reducible refine gate_callee (f := 56) rfl ?_); refine goesL_ (some 5) rfl rfl Try.func56 (by kernel_rfl) rfl #[.string (⟨#[75, 65, 66, 78, 82, 67, 80]⟩ : ByteArray), .int .u8 a0] rfl (by (try simp only [List.map_toArray, List.map_cons, List.map_nil]); first | done | rfl | (simp only [List.length_drop, List.length_take]; rfl)) ?_; (with_reducible refine (strings_IndexByte.calls (⟨#[75, 65, 66, 78, 82, 67, 80]⟩ : ByteArray) a0 t121 _ A2.out).mono ?_); rintro e w' ⟨rfl, ⟨nd, rfl⟩⟩; refine ⟨_, rfl, ?_⟩) | ((with_reducible refine gate_callee (f := 56) rfl ?_); refine goesL_ (some 9) rfl rfl Try.func56 (by kernel_rfl) rfl #[.string (⟨#[107, 97, 98, 110, 114, 99, 112]⟩ : ByteArray), .int .u8 a0] rfl (by (try simp only [List.map_toArray, List.map_cons, List.map_nil]); first | done | rfl | (simp only [List.length_drop, List.length_take]; rfl)) ?_; (with_reducible refine (strings_IndexByte.calls (⟨#[107, 97, 98, 110, 114, 99, 112]⟩ : ByteArray) a0 t122 _ A4.out).mono ?_); rintro e w' ⟨rfl, ⟨nd, rfl⟩⟩; refine ⟨_, rfl, ?_⟩))
      go_ret
      exact ⟨by first | rfl | (simp; done) | (simp [*]; done), by repeat (first | exact Drawn0.refl _ | apply Drawn0.step)⟩
    · rw [if_neg c5] at H
      have c5b0 : decide (0 ≤ t122) = false := decide_eq_false c5
      clear c5
      obtain rfl := Option.some.inj H
      go_enter Try.func43, Try.ntmps43
      go_wp2_with (first | ((with_reducible refine gate_callee (f := 56) rfl ?_); refine goesL_ (some 5) rfl rfl Try.func56 (by kernel_rfl) rfl #[.string (⟨#[75, 65, 66, 78, 82, 67, 80]⟩ : ByteArray), .int .u8 a0] rfl (by (try simp only [List.map_toArray, List.map_cons, List.map_nil]); first | done | rfl | (simp only [List.length_drop, List.length_take]; rfl)) ?_; (with_reducible refine (strings_IndexByte.calls (⟨#[75, 65, 66, 78, 82, 67, 80]⟩ : ByteArray) a0 t121 _ A2.out).mono ?_); rintro e w' ⟨rfl, ⟨nd, rfl⟩⟩; refine ⟨_, rfl, ?_⟩) | ((with_reducible refine gate_callee (f := 56) rfl ?_); refine goesL_ (some 9) rfl rfl Try.func56 (by kernel_rfl) rfl #[.string (⟨#[107, 97, 98, 110, 114, 99, 112]⟩ : ByteArray), .int .u8 a0] rfl (by (try simp only [List.map_toArray, List.map_cons, List.map_nil]); first | done | rfl | (simp only [List.length_drop, List.length_take]; rfl)) ?_; (with_reducible refine (strings_IndexByte.calls (⟨#[107, 97, 98, 110, 114, 99, 112]⟩ : ByteArray) a0 t122 _ A4.out).mono ?_); rintro e w' ⟨rfl, ⟨nd, rfl⟩⟩; refine ⟨_, rfl, ?_⟩))
      go_ret
      exact ⟨by first | rfl | (simp; done) | (simp [*]; done), by repeat (first | exact Drawn0.refl _ | apply Drawn0.step)⟩

/-! ### board_isCell: function 66 -/
def board_isCell.f (a0 : Int) : Option (Bool) := if a0 = 46 then (some true) else ((board_Side.f a0).bind fun t123 => (some (decide (t123 ≥ 0))))
set_option maxHeartbeats 8000000 in
set_option maxRecDepth 100000 in
theorem board_isCell.calls (a0 : Int) (r : Bool) (w : World) (h : board_isCell.f a0 = some r) :
    Calls Try.prog 66 #[.int .u8 a0] w fun e w' => e = .returned (.bool r) ∧ Drawn0 w w' := by
  have H : (if a0 = 46 then (some true) else ((board_Side.f a0).bind fun t123 => (some (decide (t123 ≥ 0))))) = some r := h
  clear h
  by_cases c2 : a0 = 46
  · rw [if_pos c2] at H
    have c2b0 : (a0 == 46) = true := beq_iff_eq.mpr c2
    have c2b1 : (a0 != 46) = false := bne_eq_false_iff_eq.mpr c2
    clear c2
    obtain rfl := Option.some.inj H
    go_enter Try.func66, Try.ntmps66
    go_wp2
    go_ret
    exact ⟨by first | rfl | (simp; done) | (simp [*]; done), by repeat (first | exact Drawn0.refl _ | apply Drawn0.step)⟩
  · rw [if_neg c2] at H
    have c2b0 : (a0 == 46) = false := beq_eq_false_iff_ne.mpr c2
    have c2b1 : (a0 != 46) = true := bne_iff_ne.mpr c2
    replace H := Option.bind_eq_some_iff.mp H
    obtain ⟨t123, A30, H⟩ := H
    replace H : (some (decide (t123 ≥ 0))) = some r := H
    have A3 := Aside0.mk A30
    clear A30
    obtain rfl := Option.some.inj H
    go_enter Try.func66, Try.ntmps66
    go_wp2_with (first | (go_at_call 43; (with_reducible refine (board_Side.calls a0 t123 _ A3.out).mono ?_); rintro e w' ⟨rfl, ⟨nd, rfl⟩⟩))
    go_ret
    exact ⟨by first | rfl | (simp; done) | (simp [*]; done), by repeat (first | exact Drawn0.refl _ | apply Drawn0.step)⟩

end Go.Proofs.Ytmfbgcimfmgobaa.Print

-- of YtmfbgcimfmgobaaPrint6
-- Written by a program of this session (wip/gprint/gprint.py) over the kit's print; the parts marked GIVEN by hand.
namespace Go.Proofs.Ytmfbgcimfmgobaa.Print
open Go.RowKit Go.Proofs.YtmfbgcimfmgobaaW.PrintWords Go.Proofs.YtmfbgcimfmgobaaW.PrintLast Go.Proofs.YtmfbgcimfmgobaaW.PrintMore
attribute [local go_sem] max2_int min2_int max_two min_two max_three min_three max_four min_four   -- for this text's walks alone
set_option linter.unusedVariables false
set_option linter.unusedSimpArgs false
/-! GIVEN board_Is -/
-- GIVEN riverbank/board.Is
-- MAKES yes
-- NEEDS riverbank/board.isCell
-- IMPORT Derived.Test.YtmfbgcimfmgobaaShelf
/-- A byte that may stand on a square. -/
def okCell (b : UInt8) : Bool := b == 46 || b == 75 || b == 65 || b == 66 || b == 78 || b == 67 || b == 82 || b == 80 || b == 107 || b == 97 || b == 98 || b == 110 || b == 99 || b == 114 || b == 112
def strange (r : Nat) : Bool := decide (122 < r) || !okCell r.toUInt8

theorem decode_low (s : ByteArray) (i : Nat) (h : (s.get! i).toNat < 128) : Utf8.decode s i = ((s.get! i).toNat, 1) := by
  unfold Utf8.decode; simp [h]
theorem decode_high (s : ByteArray) (i : Nat) (h : ¬ (s.get! i).toNat < 128) : 122 < (Utf8.decode s i).1 := by
  rw [Lib.decode_at]; unfold Lib.decodeN
  repeat' split
  all_goals (simp; try omega)

theorem okCell_low (b : UInt8) (h : okCell b = true) : b.toNat ≤ 122 := by
  have := u8_all (fun b => !okCell b || decide (b.toNat ≤ 122)) (by decide +kernel) b
  simpa [h] using this
theorem okCell_hi (b : UInt8) (h : 122 < b.toNat) : okCell b = false := by
  cases e : okCell b with
  | false => rfl
  | true => have := okCell_low b e; omega

theorem idx_from (s : ByteArray) : ∀ (f pos : Nat), s.size - pos ≤ f → (Lib.idxFuncFrom strange true s f pos < 0 ↔ ∀ j, pos ≤ j → j < s.size → okCell (s.get! j) = true) := by
  intro f
  induction f with
  | zero => intro pos h; simp [Lib.idxFuncFrom]; intro j h1 h2; omega
  | succ f ih =>
    intro pos h
    unfold Lib.idxFuncFrom
    by_cases hp : pos < s.size
    · rw [if_pos hp]
      by_cases hb : (s.get! pos).toNat < 128
      · rw [decode_low s pos hb]
        simp only
        have e : strange (s.get! pos).toNat = !okCell (s.get! pos) := by
          unfold strange
          have : ((s.get! pos).toNat).toUInt8 = s.get! pos := by simp
          rw [this]
          by_cases h1 : 122 < (s.get! pos).toNat
          · simp [h1, okCell_hi _ h1]
          · simp [h1]
        rw [e]
        by_cases hk : okCell (s.get! pos) = true
        · rw [if_neg (by simp [hk]), ih (pos + 1) (by omega)]
          constructor
          · intro hh j h1 h2
            by_cases hj : j = pos
            · subst hj; exact hk
            · exact hh j (by omega) h2
          · intro hh j h1 h2; exact hh j (by omega) h2
        · rw [if_pos (by simp [hk])]
          constructor
          · intro hh; omega
          · intro hh; exact absurd (hh pos (Nat.le_refl _) hp) hk
      · have hd := decode_high s pos hb
        rw [if_pos (by unfold strange; simp [hd])]
        constructor
        · intro hh; omega
        · intro hh
          have := okCell_low _ (hh pos (Nat.le_refl _) hp); omega
    · rw [if_neg hp]
      constructor
      · intro _ j h1 h2; omega
      · intro _; decide

theorem all_okCell (s : ByteArray) : s.data.toList.all okCell = true ↔ ∀ j, j < s.size → okCell (s.get! j) = true := by
  rw [List.all_eq_true]
  constructor
  · intro h j hj
    have e : s.get! j = s.data[j]'hj := by
      simp [ByteArray.get!, hj]
    rw [e]; exact h _ (by simp)
  · intro h x hx
    obtain ⟨j, hj, rfl⟩ := List.getElem_of_mem hx
    have hj' : j < s.size := by simpa using hj
    have := h j hj'
    have e : s.get! j = s.data[j]'hj' := by simp [ByteArray.get!, hj']
    rw [e] at this
    exact this

theorem idx_board (s : ByteArray) : (Lib.idxFunc strange true s < 0) = (s.data.toList.all okCell = true) := by
  rw [all_okCell]; unfold Lib.idxFunc
  rw [idx_from s s.size 0 (by omega)]
  simp
theorem isCell_eq (b : UInt8) : board_isCell.f (b.toNat : Int) = some (okCell b) := by
  have := u8_all (fun b => board_isCell.f (b.toNat : Int) == some (okCell b)) (by decide +kernel) b
  simpa using this
set_option maxHeartbeats 1000000 in
theorem strange_pays (w : World) : PredAt Try.prog 65 #[] encR strange w := fun W r _ => by
  unfold FnGives
  by_cases h : 122 < r
  · have e : strange r = true := by simp [strange, h]
    rw [e]
    have hz : decide ((122 : Int) < (r : Int)) = true := decide_eq_true (by omega)
    go_enter Try.func65, Try.ntmps65
    go_wp2
    go_ret
    exact ⟨rfl, 0, rfl⟩
  · have hz : decide ((122 : Int) < (r : Int)) = false := decide_eq_false (by omega)
    have hm : (r : Int) % 256 = r := by omega
    have hu : (r.toUInt8.toNat : Int) = r := by simp; omega
    have e : strange r = !okCell r.toUInt8 := by simp [strange, h]
    rw [e]
    have hc := isCell_eq r.toUInt8
    rw [hu] at hc
    obtain ⟨b, hb⟩ : ∃ b, b = okCell r.toUInt8 := ⟨_, rfl⟩
    rw [← hb] at hc ⊢
    have HC := Aside0.mk hc
    clear hc hb e hu
    go_enter Try.func65, Try.ntmps65
    go_wp2_with (go_at_call 66; refine (board_isCell.calls _ b _ HC.out).mono ?_; rintro e w' ⟨rfl, ⟨q, rfl⟩⟩)
    go_ret
    exact ⟨rfl, _, rfl⟩
def board_Is.f (a0 : ByteArray) : Option (Bool) := some (decide (a0.size = 90) && a0.data.toList.all okCell)
set_option maxHeartbeats 1000000 in
theorem board_Is.calls (a0 : ByteArray) (r : Bool) (w : World) (h : board_Is.f a0 = some r) :
    Calls Try.prog 41 #[.string a0] w fun e w' => e = .returned (.bool r) ∧ Below w.heap.size w w' := by
  obtain rfl := Option.some.inj h
  by_cases hs : a0.size = 90
  · have hs0 : ((a0.size : Int) == 90) = true := by simp [hs]
    have hI := Try.strings_IndexFunc 65 #[] (enters_of Try.func65 (by kernel_rfl) rfl) strange a0 w (strange_pays w)
    obtain ⟨z, hz⟩ : ∃ z, z = Lib.idxFunc strange true a0 := ⟨_, rfl⟩
    rw [← hz] at hI
    have e : (decide (a0.size = 90) && a0.data.toList.all okCell) = decide (z < 0) := by
      rw [hz]; simp only [hs, decide_true, Bool.true_and, idx_board]; simp
    rw [e]
    clear hz e h
    have HI := Aside0.mk hI
    clear hI hs
    go_enter Try.func41, Try.ntmps41
    go_wp2_with (go_at_call 64; refine HI.out.mono ?_; rintro e w' ⟨rfl, hb⟩)
    go_ret
    exact ⟨rfl, hb⟩
  · have hs0 : ((a0.size : Int) == 90) = false := by simp; omega
    have e : (decide (a0.size = 90) && a0.data.toList.all okCell) = false := by simp [hs]
    rw [e]
    clear e h hs
    go_enter Try.func41, Try.ntmps41
    go_wp2
    go_ret
    exact ⟨rfl, Below.refl _ _⟩

end Go.Proofs.Ytmfbgcimfmgobaa.Print

-- of YtmfbgcimfmgobaaBytes
/- What is known of the block of a text's bytes. -/
namespace Go.Proofs.Ytmfbgcimfmgobaa.Print
open Go.RowKit

theorem below_past {w wr W w3 : World} {n : Nat} (hB : Below w.heap.size w wr) (hW : W = wr.drewN n) (hb : Below W.heap.size W w3) : Below w.heap.size w w3 := by
  subst hW
  exact (⟨hB.os, hB.tape, hB.output, hB.size, hB.block⟩ : Below w.heap.size w (wr.drewN n)).trans (hb.mono hB.size)
/-- What is known of the block of a text's bytes. -/
structure HasBytes (W : World) (B : Nat) (l : List UInt8) : Prop where
  cell : ∀ j (h : j < l.length), W.cell? ⟨B, j, none⟩ = some (.int .u8 (l[j].toNat : Int))
  free : ∀ j, j < l.length → W.frozen? ⟨B, j, none⟩ = false
theorem HasBytes.start (w : World) (e : TypeId) (s : ByteArray) : HasBytes (Lib.bytesWorld w e s) w.heap.size s.data.toList := by
  refine ⟨fun j h => ?_, fun j h => ?_⟩
  · have hj : j < s.size := by simpa using h
    rw [Lib.bytesWorld_cell w e s j hj]
    simp [List.getD, hj]
  · have hn := Lib.bytesWorld_at_new w e s
    have hj : j < s.data.size := by simpa using h
    have hb : j < (Lib.bytesCells w e s).size := by
      have h2 : s.data.size = s.size := rfl
      unfold Lib.bytesCells; simp; omega
    obtain ⟨m, hm⟩ : ∃ m, m = Lib.bytesCells w e s := ⟨_, rfl⟩
    rw [← hm] at hn hb
    simp only [World.frozen?, hn]
    rw [show decide (m.size ≤ j) = false from decide_eq_false (by omega)]
    rfl
theorem HasBytes.set {W : World} {B : Nat} {l : List UInt8} (h : HasBytes W B l) (i : Nat) (hi : i < l.length) (c : UInt8) : HasBytes (W.setCell ⟨B, i, none⟩ (.int .u8 (c.toNat : Int))) B (l.set i c) := by
  refine ⟨fun j hj => ?_, fun j hj => ?_⟩
  · have hj' : j < l.length := by simpa using hj
    by_cases e : i = j
    · subst e
      rw [World.cell?_setCell_same' _ _ _ (by rw [h.cell i hi]; rfl)]
      simp
    · rw [World.cell?_setCell_other W ⟨B, i, none⟩ ⟨B, j, none⟩ _ (by intro x; injection x; omega), h.cell j hj']
      simp [e]
  · rw [World.frozen?_setCell]; exact h.free j (by simpa using hj)

theorem HasBytes.drewN {W : World} {B : Nat} {l : List UInt8} (h : HasBytes W B l) (n : Nat) : HasBytes (W.drewN n) B l := ⟨h.cell, h.free⟩
theorem below_bytes (w : World) (e : TypeId) (s : ByteArray) : Below w.heap.size w (Lib.bytesWorld w e s) :=
  ⟨rfl, rfl, rfl, by rw [Lib.bytesWorld_size]; omega, fun j hj => Lib.bytesWorld_at_old w e s j hj⟩

theorem addr_add0 (B k : Nat) : (⟨B, 0, none⟩ : Addr).add k = ⟨B, k, none⟩ := by
  unfold Addr.add; split <;> simp_all
theorem one_back {P : Program} (W : World) (src dst e : TypeId) (g : Nat) (c : UInt8) (hs : P.underlying src = some (.slice e)) (he : P.underlying e = some (.int .u8)) (hd : P.underlying dst = some .string)
    (hg : W.cell? ⟨g, 0, none⟩ = some (.int .u8 (c.toNat : Int))) : (convert src dst (.slice (some ⟨g, 0, none⟩) 1 1)).run P W = .ok (.string ⟨#[c]⟩) W := by
  refine run_convert_bytes_back W src dst e ⟨g, 0, none⟩ 1 [c] hs he hd (fun k hk => ?_)
  have hk0 : k = 0 := by simpa using hk
  subst hk0
  rw [addr_add0]; exact hg
end Go.Proofs.Ytmfbgcimfmgobaa.Print

-- of YtmfbgcimfmgobaaPrint9
-- Written by a program of this session (wip/gprint/gprint.py) over the kit's print; the parts marked GIVEN by hand.
namespace Go.Proofs.Ytmfbgcimfmgobaa.Print
open Go.RowKit Go.Proofs.YtmfbgcimfmgobaaW.PrintWords Go.Proofs.YtmfbgcimfmgobaaW.PrintLast Go.Proofs.YtmfbgcimfmgobaaW.PrintMore
attribute [local go_sem] max2_int min2_int max_two min_two max_three min_three max_four min_four   -- for this text's walks alone
set_option linter.unusedVariables false
set_option linter.unusedSimpArgs false
/-! ### riverbankref02_Side: function 26 -/
def riverbankref02_Side.j0 : Nat → Int → Bool → Option (Int)
  | 0, _, _ => none
  | k + 1, x3, x4 => if x4 = true then (some 0) else (if x3 = 107 then (some 1) else (if x3 = 97 then (some 1) else (if x3 = 98 then (some 1) else (if x3 = 110 then (some 1) else (if x3 = 114 then (some 1) else (if x3 = 99 then (some 1) else (if x3 = 112 then (some 1) else (some (-1)))))))))
def riverbankref02_Side.f (k : Nat) (a0 : Int) : Option (Int) := if a0 = 75 then (riverbankref02_Side.j0 k a0 (a0 == 75)) else (if a0 = 65 then (riverbankref02_Side.j0 k a0 (a0 == 65)) else (if a0 = 66 then (riverbankref02_Side.j0 k a0 (a0 == 66)) else (if a0 = 78 then (riverbankref02_Side.j0 k a0 (a0 == 78)) else (if a0 = 82 then (riverbankref02_Side.j0 k a0 (a0 == 82)) else (if a0 = 67 then (riverbankref02_Side.j0 k a0 (a0 == 67)) else (riverbankref02_Side.j0 k a0 (a0 == 80)))))))
theorem riverbankref02_Side.mono_l : ∀ k, (∀ y0 y1, LeO (riverbankref02_Side.j0 k y0 y1) (riverbankref02_Side.j0 (k + 1) y0 y1))
  | 0 => fun _ _ r h => by simp [riverbankref02_Side.j0] at h
  | k + 1 => by
    have ih0 := riverbankref02_Side.mono_l k
    · intro y0 y1
      unfold riverbankref02_Side.j0
      repeat' first
      | (with_reducible exact ih0 _ _)
      | (with_reducible exact LeO.refl _)
      | (with_reducible exact LeO.none _)
      | (with_reducible refine LeO.ite ?_ ?_)
      | (with_reducible refine LeO.bind ?_ (fun _ => ?_))
      | exact ih0 _ _
      | exact LeO.none _
      | refine LeO.ite ?_ ?_
      | refine LeO.bind ?_ (fun _ => ?_)
theorem riverbankref02_Side.mono : ∀ a0 k, LeO (riverbankref02_Side.f k a0) (riverbankref02_Side.f (k + 1) a0) := by
  intro a0 k
  have ih0 := riverbankref02_Side.mono_l k
  unfold riverbankref02_Side.f
  repeat' first
      | (with_reducible exact ih0 _ _)
      | (with_reducible exact LeO.refl _)
      | (with_reducible exact LeO.none _)
      | (with_reducible refine LeO.ite ?_ ?_)
      | (with_reducible refine LeO.bind ?_ (fun _ => ?_))
      | exact ih0 _ _
      | exact LeO.none _
      | refine LeO.ite ?_ ?_
      | refine LeO.bind ?_ (fun _ => ?_)
set_option maxHeartbeats 8000000 in
set_option maxRecDepth 100000 in
theorem riverbankref02_Side.calls (k : Nat) (a0 : Int) (r : Int) (w : World) (h : riverbankref02_Side.f k a0 = some r) :
    Calls Try.prog 26 #[.int .u8 a0] w fun e w' => e = .returned (.int .i64 r) ∧ Drawn0 w w' := by
  have H : (if a0 = 75 then (riverbankref02_Side.j0 k a0 (a0 == 75)) else (if a0 = 65 then (riverbankref02_Side.j0 k a0 (a0 == 65)) else (if a0 = 66 then (riverbankref02_Side.j0 k a0 (a0 == 66)) else (if a0 = 78 then (riverbankref02_Side.j0 k a0 (a0 == 78)) else (if a0 = 82 then (riverbankref02_Side.j0 k a0 (a0 == 82)) else (if a0 = 67 then (riverbankref02_Side.j0 k a0 (a0 == 67)) else (riverbankref02_Side.j0 k a0 (a0 == 80)))))))) = some r := h
  clear h
  have HC2 := Aside0.mk H
  clear H
  go_enter Try.func26, Try.ntmps26
  go_upto_if 4 with (fail)
  go_cut [4] (fun v4 wc => ∃ (kq : Nat) (x4_1 : Bool), v4 = .bool x4_1 ∧ Aside0 (riverbankref02_Side.j0 kq a0 x4_1 = some r) ∧ Aside0 (kq ≤ k) ∧ Drawn0 w wc)
  case first =>
    have H := HC2.out
    clear HC2
    by_cases c3 : a0 = 75
    · rw [if_pos c3] at H
      have c3b0 : (a0 == 75) = true := beq_iff_eq.mpr c3
      have c3b1 : (a0 != 75) = false := bne_eq_false_iff_eq.mpr c3
      clear c3
      (first | rw [c3b0] | (simp only [i64_w, i32_w]; rw [c3b0]) | skip)
      have H' := Aside0.mk H
      clear H
      go_wp2
      go_meet
      case rel => exact ⟨_, ((a0 == 75)), (by first | rfl | (simp; done) | (simp [*]; done)), H', ⟨by first | omega | exact Nat.le_refl _⟩, by repeat (first | exact Drawn0.refl _ | apply Drawn0.step)⟩
    · rw [if_neg c3] at H
      have c3b0 : (a0 == 75) = false := beq_eq_false_iff_ne.mpr c3
      have c3b1 : (a0 != 75) = true := bne_iff_ne.mpr c3
      (first | rw [c3b0] | (simp only [i64_w, i32_w]; rw [c3b0]) | skip)
      by_cases c4 : a0 = 65
      · rw [if_pos c4] at H
        have c4b0 : (a0 == 65) = true := beq_iff_eq.mpr c4
        have c4b1 : (a0 != 65) = false := bne_eq_false_iff_eq.mpr c4
        clear c4
        have H' := Aside0.mk H
        clear H
        go_wp2
        go_meet
        case rel => exact ⟨_, ((a0 == 65)), (by first | rfl | (simp; done) | (simp [*]; done)), H', ⟨by first | omega | exact Nat.le_refl _⟩, by repeat (first | exact Drawn0.refl _ | apply Drawn0.step)⟩
      · rw [if_neg c4] at H
        have c4b0 : (a0 == 65) = false := beq_eq_false_iff_ne.mpr c4
        have c4b1 : (a0 != 65) = true := bne_iff_ne.mpr c4
        by_cases c5 : a0 = 66
        · rw [if_pos c5] at H
          have c5b0 : (a0 == 66) = true := beq_iff_eq.mpr c5
          have c5b1 : (a0 != 66) = false := bne_eq_false_iff_eq.mpr c5
          clear c5
          have H' := Aside0.mk H
          clear H
          go_wp2
          go_meet
          case rel => exact ⟨_, ((a0 == 66)), (by first | rfl | (simp; done) | (simp [*]; done)), H', ⟨by first | omega | exact Nat.le_refl _⟩, by repeat (first | exact Drawn0.refl _ | apply Drawn0.step)⟩
        · rw [if_neg c5] at H
          have c5b0 : (a0 == 66) = false := beq_eq_false_iff_ne.mpr c5
          have c5b1 : (a0 != 66) = true := bne_iff_ne.mpr c5
          by_cases c6 : a0 = 78
          · rw [if_pos c6] at H
            have c6b0 : (a0 == 78) = true := beq_iff_eq.mpr c6
            have c6b1 : (a0 != 78) = false := bne_eq_false_iff_eq.mpr c6
            clear c6
            have H' := Aside0.mk H
            clear H
            go_wp2
            go_meet
            case rel => exact ⟨_, ((a0 == 78)), (by first | rfl | (simp; done) | (simp [*]; done)), H', ⟨by first | omega | exact Nat.le_refl _⟩, by repeat (first | exact Drawn0.refl _ | apply Drawn0.step)⟩
          · rw [if_neg c6] at H
            have c6b0 : (a0 == 78) = false := beq_eq_false_iff_ne.mpr c6
            have c6b1 : (a0 != 78) = true := bne_iff_ne.mpr c6
            by_cases c7 : a0 = 82
            · rw [if_pos c7] at H
              have c7b0 : (a0 == 82) = true := beq_iff_eq.mpr c7
              have c7b1 : (a0 != 82) = false := bne_eq_false_iff_eq.mpr c7
              clear c7
              have H' := Aside0.mk H
              clear H
              go_wp2
              go_meet
              case rel => exact ⟨_, ((a0 == 82)), (by first | rfl | (simp; done) | (simp [*]; done)), H', ⟨by first | omega | exact Nat.le_refl _⟩, by repeat (first | exact Drawn0.refl _ | apply Drawn0.step)⟩
            · rw [if_neg c7] at H
              have c7b0 : (a0 == 82) = false := beq_eq_false_iff_ne.mpr c7
              have c7b1 : (a0 != 82) = true := bne_iff_ne.mpr c7
              by_cases c8 : a0 = 67
              · rw [if_pos c8] at H
                have c8b0 : (a0 == 67) = true := beq_iff_eq.mpr c8
                have c8b1 : (a0 != 67) = false := bne_eq_false_iff_eq.mpr c8
                clear c8
                have H' := Aside0.mk H
                clear H
                go_wp2
                go_meet
                case rel => exact ⟨_, ((a0 == 67)), (by first | rfl | (simp; done) | (simp [*]; done)), H', ⟨by first | omega | exact Nat.le_refl _⟩, by repeat (first | exact Drawn0.refl _ | apply Drawn0.step)⟩
              · rw [if_neg c8] at H
                have c8b0 : (a0 == 67) = false := beq_eq_false_iff_ne.mpr c8
                have c8b1 : (a0 != 67) = true := bne_iff_ne.mpr c8
                have H' := Aside0.mk H
                clear H
                go_wp2
                go_meet
                case rel => exact ⟨_, ((a0 == 80)), (by first | rfl | (simp; done) | (simp [*]; done)), H', ⟨by first | omega | exact Nat.le_refl _⟩, by repeat (first | exact Drawn0.refl _ | apply Drawn0.step)⟩
  case rest =>
    clear HC2
    try clear c2
    try clear p2
    try clear c3
    try clear c3b0
    try clear c3b1
    try clear c4
    try clear c4b0
    try clear c4b1
    try clear c5
    try clear c5b0
    try clear c5b1
    try clear c6
    try clear c6b0
    try clear c6b1
    try clear c7
    try clear c7b0
    try clear c7b1
    try clear c8
    try clear c8b0
    try clear c8b1
    obtain ⟨kq, x4_1, rfl, HA, HJ1, ⟨mc1, rfl⟩⟩ := hcut
    cases kq with
    | zero => exact absurd HA.out (by simp [riverbankref02_Side.j0])
    | succ kj1 =>
      have H := HA.out
      clear HA
      simp only [riverbankref02_Side.j0] at H
      by_cases c9 : x4_1 = true
      · subst c9
        have H1 : (some 0) = some r := by rw [if_pos rfl] at H; exact H
        clear H
        have H := H1
        clear H1
        obtain rfl := Option.some.inj H
        go_wp2
        go_ret
        exact ⟨by first | rfl | (simp; done) | (simp [*]; done), by repeat (first | exact Drawn0.refl _ | apply Drawn0.step)⟩
      · replace c9 := Bool.eq_false_iff.mpr c9
        subst c9
        have H1 : (if a0 = 107 then (some 1) else (if a0 = 97 then (some 1) else (if a0 = 98 then (some 1) else (if a0 = 110 then (some 1) else (if a0 = 114 then (some 1) else (if a0 = 99 then (some 1) else (if a0 = 112 then (some 1) else (some (-1))))))))) = some r := by rw [if_neg (show ¬ (false = true) by decide)] at H; exact H
        clear H
        have H := H1
        clear H1
        by_cases c10 : a0 = 107
        · rw [if_pos c10] at H
          have c10b0 : (a0 == 107) = true := beq_iff_eq.mpr c10
          have c10b1 : (a0 != 107) = false := bne_eq_false_iff_eq.mpr c10
          clear c10
          obtain rfl := Option.some.inj H
          go_wp2
          go_ret
          exact ⟨by first | rfl | (simp; done) | (simp [*]; done), by repeat (first | exact Drawn0.refl _ | apply Drawn0.step)⟩
        · rw [if_neg c10] at H
          have c10b0 : (a0 == 107) = false := beq_eq_false_iff_ne.mpr c10
          have c10b1 : (a0 != 107) = true := bne_iff_ne.mpr c10
          by_cases c11 : a0 = 97
          · rw [if_pos c11] at H
            have c11b0 : (a0 == 97) = true := beq_iff_eq.mpr c11
            have c11b1 : (a0 != 97) = false := bne_eq_false_iff_eq.mpr c11
            clear c11
            obtain rfl := Option.some.inj H
            go_wp2
            go_ret
            exact ⟨by first | rfl | (simp; done) | (simp [*]; done), by repeat (first | exact Drawn0.refl _ | apply Drawn0.step)⟩
          · rw [if_neg c11] at H
            have c11b0 : (a0 == 97) = false := beq_eq_false_iff_ne.mpr c11
            have c11b1 : (a0 != 97) = true := bne_iff_ne.mpr c11
            by_cases c12 : a0 = 98
            · rw [if_pos c12] at H
              have c12b0 : (a0 == 98) = true := beq_iff_eq.mpr c12
              have c12b1 : (a0 != 98) = false := bne_eq_false_iff_eq.mpr c12
              clear c12
              obtain rfl := Option.some.inj H
              go_wp2
              go_ret
              exact ⟨by first | rfl | (simp; done) | (simp [*]; done), by repeat (first | exact Drawn0.refl _ | apply Drawn0.step)⟩
            · rw [if_neg c12] at H
              have c12b0 : (a0 == 98) = false := beq_eq_false_iff_ne.mpr c12
              have c12b1 : (a0 != 98) = true := bne_iff_ne.mpr c12
              by_cases c13 : a0 = 110
              · rw [if_pos c13] at H
                have c13b0 : (a0 == 110) = true := beq_iff_eq.mpr c13
                have c13b1 : (a0 != 110) = false := bne_eq_false_iff_eq.mpr c13
                clear c13
                obtain rfl := Option.some.inj H
                go_wp2
                go_ret
                exact ⟨by first | rfl | (simp; done) | (simp [*]; done), by repeat (first | exact Drawn0.refl _ | apply Drawn0.step)⟩
              · rw [if_neg c13] at H
                have c13b0 : (a0 == 110) = false := beq_eq_false_iff_ne.mpr c13
                have c13b1 : (a0 != 110) = true := bne_iff_ne.mpr c13
                by_cases c14 : a0 = 114
                · rw [if_pos c14] at H
                  have c14b0 : (a0 == 114) = true := beq_iff_eq.mpr c14
                  have c14b1 : (a0 != 114) = false := bne_eq_false_iff_eq.mpr c14
                  clear c14
                  obtain rfl := Option.some.inj H
                  go_wp2
                  go_ret
                  exact ⟨by first | rfl | (simp; done) | (simp [*]; done), by repeat (first | exact Drawn0.refl _ | apply Drawn0.step)⟩
                · rw [if_neg c14] at H
                  have c14b0 : (a0 == 114) = false := beq_eq_false_iff_ne.mpr c14
                  have c14b1 : (a0 != 114) = true := bne_iff_ne.mpr c14
                  by_cases c15 : a0 = 99
                  · rw [if_pos c15] at H
                    have c15b0 : (a0 == 99) = true := beq_iff_eq.mpr c15
                    have c15b1 : (a0 != 99) = false := bne_eq_false_iff_eq.mpr c15
                    clear c15
                    obtain rfl := Option.some.inj H
                    go_wp2
                    go_ret
                    exact ⟨by first | rfl | (simp; done) | (simp [*]; done), by repeat (first | exact Drawn0.refl _ | apply Drawn0.step)⟩
                  · rw [if_neg c15] at H
                    have c15b0 : (a0 == 99) = false := beq_eq_false_iff_ne.mpr c15
                    have c15b1 : (a0 != 99) = true := bne_iff_ne.mpr c15
                    by_cases c16 : a0 = 112
                    · rw [if_pos c16] at H
                      have c16b0 : (a0 == 112) = true := beq_iff_eq.mpr c16
                      have c16b1 : (a0 != 112) = false := bne_eq_false_iff_eq.mpr c16
                      clear c16
                      obtain rfl := Option.some.inj H
                      go_wp2
                      go_ret
                      exact ⟨by first | rfl | (simp; done) | (simp [*]; done), by repeat (first | exact Drawn0.refl _ | apply Drawn0.step)⟩
                    · rw [if_neg c16] at H
                      have c16b0 : (a0 == 112) = false := beq_eq_false_iff_ne.mpr c16
                      have c16b1 : (a0 != 112) = true := bne_iff_ne.mpr c16
                      obtain rfl := Option.some.inj H
                      go_wp2
                      go_ret
                      exact ⟨by first | rfl | (simp; done) | (simp [*]; done), by repeat (first | exact Drawn0.refl _ | apply Drawn0.step)⟩

end Go.Proofs.Ytmfbgcimfmgobaa.Print

-- of YtmfbgcimfmgobaaPrint17
-- Written by a program of this session (wip/gprint/gprint.py) over the kit's print; the parts marked GIVEN by hand.
namespace Go.Proofs.Ytmfbgcimfmgobaa.Print
open Go.RowKit Go.Proofs.YtmfbgcimfmgobaaW.PrintWords Go.Proofs.YtmfbgcimfmgobaaW.PrintLast Go.Proofs.YtmfbgcimfmgobaaW.PrintMore
attribute [local go_sem] max2_int min2_int max_two min_two max_three min_three max_four min_four   -- for this text's walks alone
set_option linter.unusedVariables false
set_option linter.unusedSimpArgs false
/-! ### riverbankref02_Kind: function 57 -/
def riverbankref02_Kind.f (k : Nat) (a0 : Int) : Option (Int) := (riverbankref02_Side.f k a0).bind fun t191 => (if t191 = 0 then (some a0) else (if t191 = 1 then (some ((((a0 - 97) % 256) + 65) % 256)) else (some 0)))
theorem riverbankref02_Kind.mono : ∀ a0 k, LeO (riverbankref02_Kind.f k a0) (riverbankref02_Kind.f (k + 1) a0) := by
  intro a0 k
  unfold riverbankref02_Kind.f
  repeat' first
      | (with_reducible exact riverbankref02_Side.mono _ _)
      | (with_reducible exact LeO.refl _)
      | (with_reducible exact LeO.none _)
      | (with_reducible refine LeO.ite ?_ ?_)
      | (with_reducible refine LeO.bind ?_ (fun _ => ?_))
      | exact riverbankref02_Side.mono _ _
      | exact LeO.none _
      | refine LeO.ite ?_ ?_
      | refine LeO.bind ?_ (fun _ => ?_)
set_option maxHeartbeats 8000000 in
set_option maxRecDepth 100000 in
theorem riverbankref02_Kind.calls (k : Nat) (a0 : Int) (r : Int) (w : World) (h : riverbankref02_Kind.f k a0 = some r) :
    Calls Try.prog 57 #[.int .u8 a0] w fun e w' => e = .returned (.int .u8 r) ∧ Drawn0 w w' := by
  have H : ((riverbankref02_Side.f k a0).bind fun t191 => (if t191 = 0 then (some a0) else (if t191 = 1 then (some ((((a0 - 97) % 256) + 65) % 256)) else (some 0)))) = some r := h
  clear h
  replace H := Option.bind_eq_some_iff.mp H
  obtain ⟨t191, A20, H⟩ := H
  replace H : (if t191 = 0 then (some a0) else (if t191 = 1 then (some ((((a0 - 97) % 256) + 65) % 256)) else (some 0))) = some r := H
  have A2 := Aside0.mk A20
  clear A20
  by_cases c3 : t191 = 0
  · rw [if_pos c3] at H
    have c3b0 : (t191 == 0) = true := beq_iff_eq.mpr c3
    have c3b1 : (t191 != 0) = false := bne_eq_false_iff_eq.mpr c3
    clear c3
    obtain rfl := Option.some.inj H
    go_enter Try.func57, Try.ntmps57
    go_wp2_with (first | ((with_reducible refine gate_callee (f := 26) rfl ?_); refine goesL_ (some 4) rfl rfl Try.func26 (by kernel_rfl) rfl #[.int .u8 a0] rfl (by (try simp only [List.map_toArray, List.map_cons, List.map_nil]); first | done | rfl | (simp only [List.length_drop, List.length_take]; rfl)) ?_; (with_reducible refine (riverbankref02_Side.calls k a0 t191 _ A2.out).mono ?_); rintro e w' ⟨rfl, ⟨nd, rfl⟩⟩; refine ⟨_, rfl, ?_⟩))
    go_ret
    exact ⟨by first | rfl | (simp; done) | (simp [*]; done), by repeat (first | exact Drawn0.refl _ | apply Drawn0.step)⟩
  · rw [if_neg c3] at H
    have c3b0 : (t191 == 0) = false := beq_eq_false_iff_ne.mpr c3
    have c3b1 : (t191 != 0) = true := bne_iff_ne.mpr c3
    by_cases c4 : t191 = 1
    · rw [if_pos c4] at H
      have c4b0 : (t191 == 1) = true := beq_iff_eq.mpr c4
      have c4b1 : (t191 != 1) = false := bne_eq_false_iff_eq.mpr c4
      clear c4
      obtain rfl := Option.some.inj H
      go_enter Try.func57, Try.ntmps57
      go_wp2_with (first | ((with_reducible refine gate_callee (f := 26) rfl ?_); refine goesL_ (some 4) rfl rfl Try.func26 (by kernel_rfl) rfl #[.int .u8 a0] rfl (by (try simp only [List.map_toArray, List.map_cons, List.map_nil]); first | done | rfl | (simp only [List.length_drop, List.length_take]; rfl)) ?_; (with_reducible refine (riverbankref02_Side.calls k a0 t191 _ A2.out).mono ?_); rintro e w' ⟨rfl, ⟨nd, rfl⟩⟩; refine ⟨_, rfl, ?_⟩))
      go_ret
      exact ⟨by first | rfl | (simp; done) | (simp [*]; done), by repeat (first | exact Drawn0.refl _ | apply Drawn0.step)⟩
    · rw [if_neg c4] at H
      have c4b0 : (t191 == 1) = false := beq_eq_false_iff_ne.mpr c4
      have c4b1 : (t191 != 1) = true := bne_iff_ne.mpr c4
      obtain rfl := Option.some.inj H
      go_enter Try.func57, Try.ntmps57
      go_wp2_with (first | ((with_reducible refine gate_callee (f := 26) rfl ?_); refine goesL_ (some 4) rfl rfl Try.func26 (by kernel_rfl) rfl #[.int .u8 a0] rfl (by (try simp only [List.map_toArray, List.map_cons, List.map_nil]); first | done | rfl | (simp only [List.length_drop, List.length_take]; rfl)) ?_; (with_reducible refine (riverbankref02_Side.calls k a0 t191 _ A2.out).mono ?_); rintro e w' ⟨rfl, ⟨nd, rfl⟩⟩; refine ⟨_, rfl, ?_⟩))
      go_ret
      exact ⟨by first | rfl | (simp; done) | (simp [*]; done), by repeat (first | exact Drawn0.refl _ | apply Drawn0.step)⟩

/-! ### riverbankref02_File: function 61 -/
def riverbankref02_File.f (a0 : Int) : Option (Int) := if a0 < 0 then (some (-1)) else (if a0 > 89 then (some (-1)) else (some (Int.tmod a0 9)))
set_option maxHeartbeats 8000000 in
set_option maxRecDepth 100000 in
theorem riverbankref02_File.calls (a0 : Int) (r : Int) (w : World) (h : riverbankref02_File.f a0 = some r) :
    Calls Try.prog 61 #[.int .i64 a0] w fun e w' => e = .returned (.int .i64 r) ∧ Drawn0 w w' := by
  have H : (if a0 < 0 then (some (-1)) else (if a0 > 89 then (some (-1)) else (some (Int.tmod a0 9)))) = some r := h
  clear h
  by_cases c2 : a0 < 0
  · rw [if_pos c2] at H
    have c2b0 : decide (a0 < 0) = true := decide_eq_true c2
    clear c2
    obtain rfl := Option.some.inj H
    go_enter Try.func61, Try.ntmps61
    go_wp2
    go_ret
    exact ⟨by first | rfl | (simp; done) | (simp [*]; done), by repeat (first | exact Drawn0.refl _ | apply Drawn0.step)⟩
  · rw [if_neg c2] at H
    have c2b0 : decide (a0 < 0) = false := decide_eq_false c2
    clear c2
    by_cases c3 : a0 > 89
    · rw [if_pos c3] at H
      have c3b0 : decide (89 < a0) = true := decide_eq_true c3
      clear c3
      obtain rfl := Option.some.inj H
      go_enter Try.func61, Try.ntmps61
      go_wp2
      go_ret
      exact ⟨by first | rfl | (simp; done) | (simp [*]; done), by repeat (first | exact Drawn0.refl _ | apply Drawn0.step)⟩
    · rw [if_neg c3] at H
      have c3b0 : decide (89 < a0) = false := decide_eq_false c3
      clear c3
      obtain rfl := Option.some.inj H
      go_enter Try.func61, Try.ntmps61
      go_wp2
      go_ret
      exact ⟨by first | rfl | (simp; done) | (simp [*]; done), by repeat (first | exact Drawn0.refl _ | apply Drawn0.step)⟩

/-! ### riverbankref03_real: function 80 -/
def riverbankref03_real.f (a0 : Int) (a1 : Int) : Option (Bool) := if a0 ≥ 0 then (if a0 < 90 then (if a1 = 0 then (some true) else (some (a1 == 1))) else (some false)) else (some false)
set_option maxHeartbeats 8000000 in
set_option maxRecDepth 100000 in
theorem riverbankref03_real.calls (a0 : Int) (a1 : Int) (r : Bool) (w : World) (h : riverbankref03_real.f a0 a1 = some r) :
    Calls Try.prog 80 #[.int .i64 a0, .int .i64 a1] w fun e w' => e = .returned (.bool r) ∧ Drawn0 w w' := by
  have H : (if a0 ≥ 0 then (if a0 < 90 then (if a1 = 0 then (some true) else (some (a1 == 1))) else (some false)) else (some false)) = some r := h
  clear h
  by_cases c3 : a0 ≥ 0
  · rw [if_pos c3] at H
    have c3b0 : decide (0 ≤ a0) = true := decide_eq_true c3
    clear c3
    by_cases c4 : a0 < 90
    · rw [if_pos c4] at H
      have c4b0 : decide (a0 < 90) = true := decide_eq_true c4
      clear c4
      by_cases c5 : a1 = 0
      · rw [if_pos c5] at H
        have c5b0 : (a1 == 0) = true := beq_iff_eq.mpr c5
        have c5b1 : (a1 != 0) = false := bne_eq_false_iff_eq.mpr c5
        clear c5
        obtain rfl := Option.some.inj H
        go_enter Try.func80, Try.ntmps80
        go_wp2
        go_ret
        exact ⟨by first | rfl | (simp; done) | (simp [*]; done), by repeat (first | exact Drawn0.refl _ | apply Drawn0.step)⟩
      · rw [if_neg c5] at H
        have c5b0 : (a1 == 0) = false := beq_eq_false_iff_ne.mpr c5
        have c5b1 : (a1 != 0) = true := bne_iff_ne.mpr c5
        obtain rfl := Option.some.inj H
        go_enter Try.func80, Try.ntmps80
        go_wp2
        go_ret
        exact ⟨by first | rfl | (simp; done) | (simp [*]; done), by repeat (first | exact Drawn0.refl _ | apply Drawn0.step)⟩
    · rw [if_neg c4] at H
      have c4b0 : decide (a0 < 90) = false := decide_eq_false c4
      clear c4
      obtain rfl := Option.some.inj H
      go_enter Try.func80, Try.ntmps80
      go_wp2
      go_ret
      exact ⟨by first | rfl | (simp; done) | (simp [*]; done), by repeat (first | exact Drawn0.refl _ | apply Drawn0.step)⟩
  · rw [if_neg c3] at H
    have c3b0 : decide (0 ≤ a0) = false := decide_eq_false c3
    clear c3
    obtain rfl := Option.some.inj H
    go_enter Try.func80, Try.ntmps80
    go_wp2
    go_ret
    exact ⟨by first | rfl | (simp; done) | (simp [*]; done), by repeat (first | exact Drawn0.refl _ | apply Drawn0.step)⟩

/-! ### riverbankref02_Rank: function 62 -/
def riverbankref02_Rank.f (a0 : Int) : Option (Int) := if a0 < 0 then (some (-1)) else (if a0 > 89 then (some (-1)) else (some (wrap64 (Int.tdiv a0 9))))
set_option maxHeartbeats 8000000 in
set_option maxRecDepth 100000 in
theorem riverbankref02_Rank.calls (a0 : Int) (r : Int) (w : World) (h : riverbankref02_Rank.f a0 = some r) :
    Calls Try.prog 62 #[.int .i64 a0] w fun e w' => e = .returned (.int .i64 r) ∧ Drawn0 w w' := by
  have H : (if a0 < 0 then (some (-1)) else (if a0 > 89 then (some (-1)) else (some (wrap64 (Int.tdiv a0 9))))) = some r := h
  clear h
  by_cases c2 : a0 < 0
  · rw [if_pos c2] at H
    have c2b0 : decide (a0 < 0) = true := decide_eq_true c2
    clear c2
    obtain rfl := Option.some.inj H
    go_enter Try.func62, Try.ntmps62
    go_wp2
    go_ret
    exact ⟨by first | rfl | (simp; done) | (simp [*]; done), by repeat (first | exact Drawn0.refl _ | apply Drawn0.step)⟩
  · rw [if_neg c2] at H
    have c2b0 : decide (a0 < 0) = false := decide_eq_false c2
    clear c2
    by_cases c3 : a0 > 89
    · rw [if_pos c3] at H
      have c3b0 : decide (89 < a0) = true := decide_eq_true c3
      clear c3
      obtain rfl := Option.some.inj H
      go_enter Try.func62, Try.ntmps62
      go_wp2
      go_ret
      exact ⟨by first | rfl | (simp; done) | (simp [*]; done), by repeat (first | exact Drawn0.refl _ | apply Drawn0.step)⟩
    · rw [if_neg c3] at H
      have c3b0 : decide (89 < a0) = false := decide_eq_false c3
      clear c3
      obtain rfl := Option.some.inj H
      go_enter Try.func62, Try.ntmps62
      go_wp2
      go_ret
      exact ⟨by first | rfl | (simp; done) | (simp [*]; done), by repeat (first | exact Drawn0.refl _ | apply Drawn0.step)⟩

/-! ### riverbankref03_own: function 81 -/
def riverbankref03_own.f (a0 : Int) (a1 : Int) : Option (Int) := if a1 = 1 then ((riverbankref02_Rank.f a0).bind fun t197 => (some (wrap64 (9 - t197)))) else ((riverbankref02_Rank.f a0).bind fun t198 => (some t198))
set_option maxHeartbeats 8000000 in
set_option maxRecDepth 100000 in
theorem riverbankref03_own.calls (a0 : Int) (a1 : Int) (r : Int) (w : World) (h : riverbankref03_own.f a0 a1 = some r) :
    Calls Try.prog 81 #[.int .i64 a0, .int .i64 a1] w fun e w' => e = .returned (.int .i64 r) ∧ Drawn0 w w' := by
  have H : (if a1 = 1 then ((riverbankref02_Rank.f a0).bind fun t197 => (some (wrap64 (9 - t197)))) else ((riverbankref02_Rank.f a0).bind fun t198 => (some t198))) = some r := h
  clear h
  by_cases c3 : a1 = 1
  · rw [if_pos c3] at H
    have c3b0 : (a1 == 1) = true := beq_iff_eq.mpr c3
    have c3b1 : (a1 != 1) = false := bne_eq_false_iff_eq.mpr c3
    clear c3
    replace H := Option.bind_eq_some_iff.mp H
    obtain ⟨t197, A40, H⟩ := H
    replace H : (some (wrap64 (9 - t197))) = some r := H
    have A4 := Aside0.mk A40
    clear A40
    obtain rfl := Option.some.inj H
    go_enter Try.func81, Try.ntmps81
    go_wp2_with (first | ((with_reducible refine gate_callee (f := 62) rfl ?_); refine goesL_ (some 8) rfl rfl Try.func62 (by kernel_rfl) rfl #[.int .i64 a0] rfl (by (try simp only [List.map_toArray, List.map_cons, List.map_nil]); first | done | rfl | (simp only [List.length_drop, List.length_take]; rfl)) ?_; (with_reducible refine (riverbankref02_Rank.calls a0 t197 _ A4.out).mono ?_); rintro e w' ⟨rfl, ⟨nd, rfl⟩⟩; refine ⟨_, rfl, ?_⟩))
    go_ret
    exact ⟨by first | rfl | (simp; done) | (simp [*]; done), by repeat (first | exact Drawn0.refl _ | apply Drawn0.step)⟩
  · rw [if_neg c3] at H
    have c3b0 : (a1 == 1) = false := beq_eq_false_iff_ne.mpr c3
    have c3b1 : (a1 != 1) = true := bne_iff_ne.mpr c3
    replace H := Option.bind_eq_some_iff.mp H
    obtain ⟨t198, A50, H⟩ := H
    replace H : (some t198) = some r := H
    have A5 := Aside0.mk A50
    clear A50
    obtain rfl := Option.some.inj H
    go_enter Try.func81, Try.ntmps81
    go_wp2_with (first | ((with_reducible refine gate_callee (f := 62) rfl ?_); refine goesL_ (some 11) rfl rfl Try.func62 (by kernel_rfl) rfl #[.int .i64 a0] rfl (by (try simp only [List.map_toArray, List.map_cons, List.map_nil]); first | done | rfl | (simp only [List.length_drop, List.length_take]; rfl)) ?_; (with_reducible refine (riverbankref02_Rank.calls a0 t198 _ A5.out).mono ?_); rintro e w' ⟨rfl, ⟨nd, rfl⟩⟩; refine ⟨_, rfl, ?_⟩))
    go_ret
    exact ⟨by first | rfl | (simp; done) | (simp [*]; done), by repeat (first | exact Drawn0.refl _ | apply Drawn0.step)⟩

end Go.Proofs.Ytmfbgcimfmgobaa.Print

-- of YtmfbgcimfmgobaaPrint21
-- Written by a program of this session (wip/gprint/gprint.py) over the kit's print; the parts marked GIVEN by hand.
namespace Go.Proofs.Ytmfbgcimfmgobaa.Print
open Go.RowKit Go.Proofs.YtmfbgcimfmgobaaW.PrintWords Go.Proofs.YtmfbgcimfmgobaaW.PrintLast Go.Proofs.YtmfbgcimfmgobaaW.PrintMore
attribute [local go_sem] max2_int min2_int max_two min_two max_three min_three max_four min_four   -- for this text's walks alone
set_option linter.unusedVariables false
set_option linter.unusedSimpArgs false
/-! ### riverbankref03_Over: function 63 -/
def riverbankref03_Over.f (a0 : Int) (a1 : Int) : Option (Bool) := (riverbankref03_real.f a0 a1).bind fun t231 => (if t231 = true then ((riverbankref03_own.f a0 a1).bind fun t232 => (some (decide (t232 ≥ 5)))) else (some false))
set_option maxHeartbeats 8000000 in
set_option maxRecDepth 100000 in
theorem riverbankref03_Over.calls (a0 : Int) (a1 : Int) (r : Bool) (w : World) (h : riverbankref03_Over.f a0 a1 = some r) :
    Calls Try.prog 63 #[.int .i64 a0, .int .i64 a1] w fun e w' => e = .returned (.bool r) ∧ Drawn0 w w' := by
  have H : ((riverbankref03_real.f a0 a1).bind fun t231 => (if t231 = true then ((riverbankref03_own.f a0 a1).bind fun t232 => (some (decide (t232 ≥ 5)))) else (some false))) = some r := h
  clear h
  replace H := Option.bind_eq_some_iff.mp H
  obtain ⟨t231, A30, H⟩ := H
  replace H : (if t231 = true then ((riverbankref03_own.f a0 a1).bind fun t232 => (some (decide (t232 ≥ 5)))) else (some false)) = some r := H
  have A3 := Aside0.mk A30
  clear A30
  by_cases c4 : t231 = true
  · subst c4
    have H1 : ((riverbankref03_own.f a0 a1).bind fun t232 => (some (decide (t232 ≥ 5)))) = some r := by rw [if_pos rfl] at H; exact H
    clear H
    have H := H1
    clear H1
    replace H := Option.bind_eq_some_iff.mp H
    obtain ⟨t232, A50, H⟩ := H
    replace H : (some (decide (t232 ≥ 5))) = some r := H
    have A5 := Aside0.mk A50
    clear A50
    obtain rfl := Option.some.inj H
    go_enter Try.func63, Try.ntmps63
    go_wp2_with (first | ((with_reducible refine gate_callee (f := 80) rfl ?_); refine goesL_ (some 7) rfl rfl Try.func80 (by kernel_rfl) rfl #[.int .i64 a0, .int .i64 a1] rfl (by (try simp only [List.map_toArray, List.map_cons, List.map_nil]); first | done | rfl | (simp only [List.length_drop, List.length_take]; rfl)) ?_; (with_reducible refine (riverbankref03_real.calls a0 a1 true _ A3.out).mono ?_); rintro e w' ⟨rfl, ⟨nd, rfl⟩⟩; refine ⟨_, rfl, ?_⟩) | (go_at_call 81; (with_reducible refine (riverbankref03_own.calls a0 a1 t232 _ A5.out).mono ?_); rintro e w' ⟨rfl, ⟨nd, rfl⟩⟩))
    go_ret
    exact ⟨by first | rfl | (simp; done) | (simp [*]; done), by repeat (first | exact Drawn0.refl _ | apply Drawn0.step)⟩
  · replace c4 := Bool.eq_false_iff.mpr c4
    subst c4
    have H1 : (some false) = some r := by rw [if_neg (show ¬ (false = true) by decide)] at H; exact H
    clear H
    have H := H1
    clear H1
    obtain rfl := Option.some.inj H
    go_enter Try.func63, Try.ntmps63
    go_wp2_with (first | ((with_reducible refine gate_callee (f := 80) rfl ?_); refine goesL_ (some 7) rfl rfl Try.func80 (by kernel_rfl) rfl #[.int .i64 a0, .int .i64 a1] rfl (by (try simp only [List.map_toArray, List.map_cons, List.map_nil]); first | done | rfl | (simp only [List.length_drop, List.length_take]; rfl)) ?_; (with_reducible refine (riverbankref03_real.calls a0 a1 false _ A3.out).mono ?_); rintro e w' ⟨rfl, ⟨nd, rfl⟩⟩; refine ⟨_, rfl, ?_⟩))
    go_ret
    exact ⟨by first | rfl | (simp; done) | (simp [*]; done), by repeat (first | exact Drawn0.refl _ | apply Drawn0.step)⟩

end Go.Proofs.Ytmfbgcimfmgobaa.Print

-- of YtmfbgcimfmgobaaPrint27
-- Written by a program of this session (wip/gprint/gprint.py) over the kit's print; the parts marked GIVEN by hand.
namespace Go.Proofs.Ytmfbgcimfmgobaa.Print
open Go.RowKit Go.Proofs.YtmfbgcimfmgobaaW.PrintWords Go.Proofs.YtmfbgcimfmgobaaW.PrintLast Go.Proofs.YtmfbgcimfmgobaaW.PrintMore
attribute [local go_sem] max2_int min2_int max_two min_two max_three min_three max_four min_four   -- for this text's walks alone
set_option linter.unusedVariables false
set_option linter.unusedSimpArgs false
/-! ### board_Kind: function 44 -/
def board_Kind.f (a0 : Int) : Option (Int) := (board_Side.f a0).bind fun t309 => (if t309 = 1 then (some ((a0 - 32) % 256)) else (if t309 = 0 then (some a0) else (some 0)))
set_option maxHeartbeats 8000000 in
set_option maxRecDepth 100000 in
theorem board_Kind.calls (a0 : Int) (r : Int) (w : World) (h : board_Kind.f a0 = some r) :
    Calls Try.prog 44 #[.int .u8 a0] w fun e w' => e = .returned (.int .u8 r) ∧ Drawn0 w w' := by
  have H : ((board_Side.f a0).bind fun t309 => (if t309 = 1 then (some ((a0 - 32) % 256)) else (if t309 = 0 then (some a0) else (some 0)))) = some r := h
  clear h
  replace H := Option.bind_eq_some_iff.mp H
  obtain ⟨t309, A20, H⟩ := H
  replace H : (if t309 = 1 then (some ((a0 - 32) % 256)) else (if t309 = 0 then (some a0) else (some 0))) = some r := H
  have A2 := Aside0.mk A20
  clear A20
  by_cases c3 : t309 = 1
  · rw [if_pos c3] at H
    have c3b0 : (t309 == 1) = true := beq_iff_eq.mpr c3
    have c3b1 : (t309 != 1) = false := bne_eq_false_iff_eq.mpr c3
    clear c3
    obtain rfl := Option.some.inj H
    go_enter Try.func44, Try.ntmps44
    go_wp2_with (first | ((with_reducible refine gate_callee (f := 43) rfl ?_); refine goesL_ (some 4) rfl rfl Try.func43 (by kernel_rfl) rfl #[.int .u8 a0] rfl (by (try simp only [List.map_toArray, List.map_cons, List.map_nil]); first | done | rfl | (simp only [List.length_drop, List.length_take]; rfl)) ?_; (with_reducible refine (board_Side.calls a0 t309 _ A2.out).mono ?_); rintro e w' ⟨rfl, ⟨nd, rfl⟩⟩; refine ⟨_, rfl, ?_⟩))
    go_ret
    exact ⟨by first | rfl | (simp; done) | (simp [*]; done), by repeat (first | exact Drawn0.refl _ | apply Drawn0.step)⟩
  · rw [if_neg c3] at H
    have c3b0 : (t309 == 1) = false := beq_eq_false_iff_ne.mpr c3
    have c3b1 : (t309 != 1) = true := bne_iff_ne.mpr c3
    by_cases c4 : t309 = 0
    · rw [if_pos c4] at H
      have c4b0 : (t309 == 0) = true := beq_iff_eq.mpr c4
      have c4b1 : (t309 != 0) = false := bne_eq_false_iff_eq.mpr c4
      clear c4
      obtain rfl := Option.some.inj H
      go_enter Try.func44, Try.ntmps44
      go_wp2_with (first | ((with_reducible refine gate_callee (f := 43) rfl ?_); refine goesL_ (some 4) rfl rfl Try.func43 (by kernel_rfl) rfl #[.int .u8 a0] rfl (by (try simp only [List.map_toArray, List.map_cons, List.map_nil]); first | done | rfl | (simp only [List.length_drop, List.length_take]; rfl)) ?_; (with_reducible refine (board_Side.calls a0 t309 _ A2.out).mono ?_); rintro e w' ⟨rfl, ⟨nd, rfl⟩⟩; refine ⟨_, rfl, ?_⟩))
      go_ret
      exact ⟨by first | rfl | (simp; done) | (simp [*]; done), by repeat (first | exact Drawn0.refl _ | apply Drawn0.step)⟩
    · rw [if_neg c4] at H
      have c4b0 : (t309 == 0) = false := beq_eq_false_iff_ne.mpr c4
      have c4b1 : (t309 != 0) = true := bne_iff_ne.mpr c4
      obtain rfl := Option.some.inj H
      go_enter Try.func44, Try.ntmps44
      go_wp2_with (first | ((with_reducible refine gate_callee (f := 43) rfl ?_); refine goesL_ (some 4) rfl rfl Try.func43 (by kernel_rfl) rfl #[.int .u8 a0] rfl (by (try simp only [List.map_toArray, List.map_cons, List.map_nil]); first | done | rfl | (simp only [List.length_drop, List.length_take]; rfl)) ?_; (with_reducible refine (board_Side.calls a0 t309 _ A2.out).mono ?_); rintro e w' ⟨rfl, ⟨nd, rfl⟩⟩; refine ⟨_, rfl, ?_⟩))
      go_ret
      exact ⟨by first | rfl | (simp; done) | (simp [*]; done), by repeat (first | exact Drawn0.refl _ | apply Drawn0.step)⟩

end Go.Proofs.Ytmfbgcimfmgobaa.Print

-- of YtmfbgcimfmgobaaPrint28
-- Written by a program of this session (wip/gprint/gprint.py) over the kit's print; the parts marked GIVEN by hand.
namespace Go.Proofs.Ytmfbgcimfmgobaa.Print
open Go.RowKit Go.Proofs.YtmfbgcimfmgobaaW.PrintWords Go.Proofs.YtmfbgcimfmgobaaW.PrintLast Go.Proofs.YtmfbgcimfmgobaaW.PrintMore
attribute [local go_sem] max2_int min2_int max_two min_two max_three min_three max_four min_four   -- for this text's walks alone
set_option linter.unusedVariables false
set_option linter.unusedSimpArgs false
/-! GIVEN value_Kind -/
-- GIVEN riverbank/value.Kind
-- MAKES yes
def kindLetters : ByteArray := ⟨#[75, 65, 66, 78, 67, 82, 80]⟩
def value_Kind.f (a0 : Int) : Option (Int) := (board_Kind.f a0).bind fun t1 => (strings_IndexByte.f kindLetters t1).bind fun t2 => if t2 < 0 then some 0 else some (([0, 40, 40, 90, 95, 200, 30] : List Int).getD t2.toNat 0)
set_option maxHeartbeats 1000000 in
theorem value_Kind.calls (a0 : Int) (r : Int) (w : World) (h : value_Kind.f a0 = some r) :
    Calls Try.prog 32 #[.int .u8 a0] w fun e w' => e = .returned (.int .i64 r) ∧ Below w.heap.size w w' := by
  unfold value_Kind.f at h
  obtain ⟨t1, h1, h⟩ := Option.bind_eq_some_iff.mp h
  obtain ⟨t2, h2, h⟩ := Option.bind_eq_some_iff.mp h
  have hlo : -1 ≤ t2 ∧ t2 < 7 := by
    have e := Option.some.inj h2
    have a := Lib.indexByte_ge kindLetters.data.toList t1.toNat.toUInt8
    have b := idx_lt kindLetters.data.toList t1.toNat.toUInt8
    rw [e] at a b
    have : (kindLetters.data.toList.length : Int) = 7 := rfl
    omega
  have H1 := Aside0.mk h1
  have H2 := Aside0.mk h2
  clear h1 h2
  have hc : t2 = -1 ∨ t2 = 0 ∨ t2 = 1 ∨ t2 = 2 ∨ t2 = 3 ∨ t2 = 4 ∨ t2 = 5 ∨ t2 = 6 := by omega
  clear hlo
  rcases hc with rfl | rfl | rfl | rfl | rfl | rfl | rfl | rfl
  all_goals
    simp at h
    subst h
    go_enter Try.func32, Try.ntmps32
    go_wp2_with (first
      | (go_at_call 44; (with_reducible refine (board_Kind.calls _ t1 _ H1.out).mono ?_); rintro e w' ⟨rfl, ⟨q, rfl⟩⟩)
      | (go_at_call 56; (refine (strings_IndexByte.calls kindLetters _ _ _ H2.out).mono ?_); rintro e w' ⟨rfl, ⟨q2, rfl⟩⟩))
    go_ret
    refine ⟨rfl, ?_⟩
    repeat (first | apply pw_below_drewN | apply below_alloc | exact Below.refl _ _)

end Go.Proofs.Ytmfbgcimfmgobaa.Print

-- of YtmfbgcimfmgobaaPrint29
-- Written by a program of this session (wip/gprint/gprint.py) over the kit's print; the parts marked GIVEN by hand.
namespace Go.Proofs.Ytmfbgcimfmgobaa.Print
open Go.RowKit Go.Proofs.YtmfbgcimfmgobaaW.PrintWords Go.Proofs.YtmfbgcimfmgobaaW.PrintLast Go.Proofs.YtmfbgcimfmgobaaW.PrintMore
attribute [local go_sem] max2_int min2_int max_two min_two max_three min_three max_four min_four   -- for this text's walks alone
set_option linter.unusedVariables false
set_option linter.unusedSimpArgs false
/-! ### riverbankref14_Kind: function 33 -/
def riverbankref14_Kind.j0 : Nat → Int → Bool → Option (Int)
  | 0, _, _ => none
  | k + 1, x4, x7 => if x7 = true then (some 40) else (if x4 = 78 then (some 90) else (if x4 = 67 then (some 95) else (if x4 = 82 then (some 200) else (some 0))))
def riverbankref14_Kind.f (k : Nat) (a0 : Int) : Option (Int) := (riverbankref02_Kind.f k a0).bind fun t310 => (if t310 = 80 then (some 30) else (if t310 = 65 then (riverbankref14_Kind.j0 k t310 (t310 == 65)) else (riverbankref14_Kind.j0 k t310 (t310 == 66))))
theorem riverbankref14_Kind.mono_l : ∀ k, (∀ y0 y1, LeO (riverbankref14_Kind.j0 k y0 y1) (riverbankref14_Kind.j0 (k + 1) y0 y1))
  | 0 => fun _ _ r h => by simp [riverbankref14_Kind.j0] at h
  | k + 1 => by
    have ih0 := riverbankref14_Kind.mono_l k
    · intro y0 y1
      unfold riverbankref14_Kind.j0
      repeat' first
      | (with_reducible exact ih0 _ _)
      | (with_reducible exact riverbankref02_Kind.mono _ _)
      | (with_reducible exact LeO.refl _)
      | (with_reducible exact LeO.none _)
      | (with_reducible refine LeO.ite ?_ ?_)
      | (with_reducible refine LeO.bind ?_ (fun _ => ?_))
      | exact ih0 _ _
      | exact riverbankref02_Kind.mono _ _
      | exact LeO.none _
      | refine LeO.ite ?_ ?_
      | refine LeO.bind ?_ (fun _ => ?_)
theorem riverbankref14_Kind.mono : ∀ a0 k, LeO (riverbankref14_Kind.f k a0) (riverbankref14_Kind.f (k + 1) a0) := by
  intro a0 k
  have ih0 := riverbankref14_Kind.mono_l k
  unfold riverbankref14_Kind.f
  repeat' first
      | (with_reducible exact ih0 _ _)
      | (with_reducible exact riverbankref02_Kind.mono _ _)
      | (with_reducible exact LeO.refl _)
      | (with_reducible exact LeO.none _)
      | (with_reducible refine LeO.ite ?_ ?_)
      | (with_reducible refine LeO.bind ?_ (fun _ => ?_))
      | exact ih0 _ _
      | exact riverbankref02_Kind.mono _ _
      | exact LeO.none _
      | refine LeO.ite ?_ ?_
      | refine LeO.bind ?_ (fun _ => ?_)
set_option maxHeartbeats 8000000 in
set_option maxRecDepth 100000 in
theorem riverbankref14_Kind.calls (k : Nat) (a0 : Int) (r : Int) (w : World) (h : riverbankref14_Kind.f k a0 = some r) :
    Calls Try.prog 33 #[.int .u8 a0] w fun e w' => e = .returned (.int .i64 r) ∧ Drawn0 w w' := by
  have H : ((riverbankref02_Kind.f k a0).bind fun t310 => (if t310 = 80 then (some 30) else (if t310 = 65 then (riverbankref14_Kind.j0 k t310 (t310 == 65)) else (riverbankref14_Kind.j0 k t310 (t310 == 66))))) = some r := h
  clear h
  replace H := Option.bind_eq_some_iff.mp H
  obtain ⟨t310, A20, H⟩ := H
  replace H : (if t310 = 80 then (some 30) else (if t310 = 65 then (riverbankref14_Kind.j0 k t310 (t310 == 65)) else (riverbankref14_Kind.j0 k t310 (t310 == 66)))) = some r := H
  have A2 := Aside0.mk A20
  clear A20
  by_cases c3 : t310 = 80
  · rw [if_pos c3] at H
    have c3b0 : (t310 == 80) = true := beq_iff_eq.mpr c3
    have c3b1 : (t310 != 80) = false := bne_eq_false_iff_eq.mpr c3
    clear c3
    obtain rfl := Option.some.inj H
    go_enter Try.func33, Try.ntmps33
    go_wp2_with (first | ((with_reducible refine gate_callee (f := 57) rfl ?_); refine goesL_ (some 4) rfl rfl Try.func57 (by kernel_rfl) rfl #[.int .u8 a0] rfl (by (try simp only [List.map_toArray, List.map_cons, List.map_nil]); first | done | rfl | (simp only [List.length_drop, List.length_take]; rfl)) ?_; (with_reducible refine (riverbankref02_Kind.calls k a0 t310 _ A2.out).mono ?_); rintro e w' ⟨rfl, ⟨nd, rfl⟩⟩; refine ⟨_, rfl, ?_⟩))
    go_ret
    exact ⟨by first | rfl | (simp; done) | (simp [*]; done), by repeat (first | exact Drawn0.refl _ | apply Drawn0.step)⟩
  · rw [if_neg c3] at H
    have c3b0 : (t310 == 80) = false := beq_eq_false_iff_ne.mpr c3
    have c3b1 : (t310 != 80) = true := bne_iff_ne.mpr c3
    have HC4 := Aside0.mk H
    clear H
    go_enter Try.func33, Try.ntmps33
    go_upto_if 7 with (first | ((with_reducible refine gate_callee (f := 57) rfl ?_); refine goesL_ (some 4) rfl rfl Try.func57 (by kernel_rfl) rfl #[.int .u8 a0] rfl (by (try simp only [List.map_toArray, List.map_cons, List.map_nil]); first | done | rfl | (simp only [List.length_drop, List.length_take]; rfl)) ?_; (with_reducible refine (riverbankref02_Kind.calls k a0 t310 _ A2.out).mono ?_); rintro e w' ⟨rfl, ⟨nd, rfl⟩⟩; refine ⟨_, rfl, ?_⟩))
    (try simp only [Act.put, List.setIfInBounds_toArray, List.set_cons_zero, List.set_cons_succ])
    go_cut [7] (fun v7 wc => ∃ (kq : Nat) (x7_3 : Bool), v7 = .bool x7_3 ∧ Aside0 (riverbankref14_Kind.j0 kq t310 x7_3 = some r) ∧ Aside0 (kq ≤ k) ∧ Drawn0 w wc)
    case first =>
      have H := HC4.out
      clear HC4
      by_cases c5 : t310 = 65
      · rw [if_pos c5] at H
        have c5b0 : (t310 == 65) = true := beq_iff_eq.mpr c5
        have c5b1 : (t310 != 65) = false := bne_eq_false_iff_eq.mpr c5
        clear c5
        (first | rw [c5b0] | (simp only [i64_w, i32_w]; rw [c5b0]) | skip)
        have H' := Aside0.mk H
        clear H
        go_wp2
        go_meet
        case rel => exact ⟨_, ((t310 == 65)), (by first | rfl | (simp; done) | (simp [*]; done)), H', ⟨by first | omega | exact Nat.le_refl _⟩, by repeat (first | exact Drawn0.refl _ | apply Drawn0.step)⟩
      · rw [if_neg c5] at H
        have c5b0 : (t310 == 65) = false := beq_eq_false_iff_ne.mpr c5
        have c5b1 : (t310 != 65) = true := bne_iff_ne.mpr c5
        (first | rw [c5b0] | (simp only [i64_w, i32_w]; rw [c5b0]) | skip)
        have H' := Aside0.mk H
        clear H
        go_wp2
        go_meet
        case rel => exact ⟨_, ((t310 == 66)), (by first | rfl | (simp; done) | (simp [*]; done)), H', ⟨by first | omega | exact Nat.le_refl _⟩, by repeat (first | exact Drawn0.refl _ | apply Drawn0.step)⟩
    case rest =>
      clear HC4
      try clear p2
      try clear c3
      try clear c3b0
      try clear c3b1
      try clear c5
      try clear c5b0
      try clear c5b1
      obtain ⟨kq, x7_3, rfl, HA, HJ3, ⟨mc3, rfl⟩⟩ := hcut
      cases kq with
      | zero => exact absurd HA.out (by simp [riverbankref14_Kind.j0])
      | succ kj3 =>
        have H := HA.out
        clear HA
        simp only [riverbankref14_Kind.j0] at H
        by_cases c6 : x7_3 = true
        · subst c6
          have H1 : (some 40) = some r := by rw [if_pos rfl] at H; exact H
          clear H
          have H := H1
          clear H1
          obtain rfl := Option.some.inj H
          go_wp2
          go_ret
          exact ⟨by first | rfl | (simp; done) | (simp [*]; done), by repeat (first | exact Drawn0.refl _ | apply Drawn0.step)⟩
        · replace c6 := Bool.eq_false_iff.mpr c6
          subst c6
          have H1 : (if t310 = 78 then (some 90) else (if t310 = 67 then (some 95) else (if t310 = 82 then (some 200) else (some 0)))) = some r := by rw [if_neg (show ¬ (false = true) by decide)] at H; exact H
          clear H
          have H := H1
          clear H1
          by_cases c7 : t310 = 78
          · rw [if_pos c7] at H
            have c7b0 : (t310 == 78) = true := beq_iff_eq.mpr c7
            have c7b1 : (t310 != 78) = false := bne_eq_false_iff_eq.mpr c7
            clear c7
            obtain rfl := Option.some.inj H
            go_wp2
            go_ret
            exact ⟨by first | rfl | (simp; done) | (simp [*]; done), by repeat (first | exact Drawn0.refl _ | apply Drawn0.step)⟩
          · rw [if_neg c7] at H
            have c7b0 : (t310 == 78) = false := beq_eq_false_iff_ne.mpr c7
            have c7b1 : (t310 != 78) = true := bne_iff_ne.mpr c7
            by_cases c8 : t310 = 67
            · rw [if_pos c8] at H
              have c8b0 : (t310 == 67) = true := beq_iff_eq.mpr c8
              have c8b1 : (t310 != 67) = false := bne_eq_false_iff_eq.mpr c8
              clear c8
              obtain rfl := Option.some.inj H
              go_wp2
              go_ret
              exact ⟨by first | rfl | (simp; done) | (simp [*]; done), by repeat (first | exact Drawn0.refl _ | apply Drawn0.step)⟩
            · rw [if_neg c8] at H
              have c8b0 : (t310 == 67) = false := beq_eq_false_iff_ne.mpr c8
              have c8b1 : (t310 != 67) = true := bne_iff_ne.mpr c8
              by_cases c9 : t310 = 82
              · rw [if_pos c9] at H
                have c9b0 : (t310 == 82) = true := beq_iff_eq.mpr c9
                have c9b1 : (t310 != 82) = false := bne_eq_false_iff_eq.mpr c9
                clear c9
                obtain rfl := Option.some.inj H
                go_wp2
                go_ret
                exact ⟨by first | rfl | (simp; done) | (simp [*]; done), by repeat (first | exact Drawn0.refl _ | apply Drawn0.step)⟩
              · rw [if_neg c9] at H
                have c9b0 : (t310 == 82) = false := beq_eq_false_iff_ne.mpr c9
                have c9b1 : (t310 != 82) = true := bne_iff_ne.mpr c9
                obtain rfl := Option.some.inj H
                go_wp2
                go_ret
                exact ⟨by first | rfl | (simp; done) | (simp [*]; done), by repeat (first | exact Drawn0.refl _ | apply Drawn0.step)⟩

/-! ### board_Rank: function 59 -/
def board_Rank.f (a0 : Int) : Option (Int) := (board_isSquare.f a0).bind fun t311 => (if t311 = true then (some (wrap64 (Int.tdiv a0 9))) else (some (-1)))
set_option maxHeartbeats 8000000 in
set_option maxRecDepth 100000 in
theorem board_Rank.calls (a0 : Int) (r : Int) (w : World) (h : board_Rank.f a0 = some r) :
    Calls Try.prog 59 #[.int .i64 a0] w fun e w' => e = .returned (.int .i64 r) ∧ Drawn0 w w' := by
  have H : ((board_isSquare.f a0).bind fun t311 => (if t311 = true then (some (wrap64 (Int.tdiv a0 9))) else (some (-1)))) = some r := h
  clear h
  replace H := Option.bind_eq_some_iff.mp H
  obtain ⟨t311, A20, H⟩ := H
  replace H : (if t311 = true then (some (wrap64 (Int.tdiv a0 9))) else (some (-1))) = some r := H
  have A2 := Aside0.mk A20
  clear A20
  by_cases c3 : t311 = true
  · subst c3
    have H1 : (some (wrap64 (Int.tdiv a0 9))) = some r := by rw [if_pos rfl] at H; exact H
    clear H
    have H := H1
    clear H1
    obtain rfl := Option.some.inj H
    go_enter Try.func59, Try.ntmps59
    go_wp2_with (first | ((with_reducible refine gate_callee (f := 68) rfl ?_); refine goesL_ (some 4) rfl rfl Try.func68 (by kernel_rfl) rfl #[.int .i64 a0] rfl (by (try simp only [List.map_toArray, List.map_cons, List.map_nil]); first | done | rfl | (simp only [List.length_drop, List.length_take]; rfl)) ?_; (with_reducible refine (board_isSquare.calls a0 true _ A2.out).mono ?_); rintro e w' ⟨rfl, ⟨nd, rfl⟩⟩; refine ⟨_, rfl, ?_⟩))
    go_ret
    exact ⟨by first | rfl | (simp; done) | (simp [*]; done), by repeat (first | exact Drawn0.refl _ | apply Drawn0.step)⟩
  · replace c3 := Bool.eq_false_iff.mpr c3
    subst c3
    have H1 : (some (-1)) = some r := by rw [if_neg (show ¬ (false = true) by decide)] at H; exact H
    clear H
    have H := H1
    clear H1
    obtain rfl := Option.some.inj H
    go_enter Try.func59, Try.ntmps59
    go_wp2_with (first | ((with_reducible refine gate_callee (f := 68) rfl ?_); refine goesL_ (some 4) rfl rfl Try.func68 (by kernel_rfl) rfl #[.int .i64 a0] rfl (by (try simp only [List.map_toArray, List.map_cons, List.map_nil]); first | done | rfl | (simp only [List.length_drop, List.length_take]; rfl)) ?_; (with_reducible refine (board_isSquare.calls a0 false _ A2.out).mono ?_); rintro e w' ⟨rfl, ⟨nd, rfl⟩⟩; refine ⟨_, rfl, ?_⟩))
    go_ret
    exact ⟨by first | rfl | (simp; done) | (simp [*]; done), by repeat (first | exact Drawn0.refl _ | apply Drawn0.step)⟩

/-! ### place_seen: function 78 -/
def place_seen.j0 : Nat → Int → Int → Bool → Option (Int × Int × Bool)
  | 0, _, _, _ => none
  | k + 1, x0, x1, x19 => if x19 = true then (some (0, 0, false)) else (if x1 = 1 then (some (Int.tmod (wrap64 (89 - x0)) 9, wrap64 (Int.tdiv (wrap64 (89 - x0)) 9), true)) else (some (Int.tmod x0 9, wrap64 (Int.tdiv x0 9), true)))
def place_seen.f (k : Nat) (a0 : Int) (a1 : Int) : Option (Int × Int × Bool) := if a0 < 0 then (place_seen.j0 k a0 a1 true) else (if a0 > 89 then (place_seen.j0 k a0 a1 true) else (if a1 = 0 then (place_seen.j0 k a0 a1 false) else (place_seen.j0 k a0 a1 (a1 != 1))))
theorem place_seen.mono_l : ∀ k, (∀ y0 y1 y2, LeO (place_seen.j0 k y0 y1 y2) (place_seen.j0 (k + 1) y0 y1 y2))
  | 0 => fun _ _ _ r h => by simp [place_seen.j0] at h
  | k + 1 => by
    have ih0 := place_seen.mono_l k
    · intro y0 y1 y2
      unfold place_seen.j0
      repeat' first
      | (with_reducible exact ih0 _ _ _)
      | (with_reducible exact LeO.refl _)
      | (with_reducible exact LeO.none _)
      | (with_reducible refine LeO.ite ?_ ?_)
      | (with_reducible refine LeO.bind ?_ (fun _ => ?_))
      | exact ih0 _ _ _
      | exact LeO.none _
      | refine LeO.ite ?_ ?_
      | refine LeO.bind ?_ (fun _ => ?_)
theorem place_seen.mono : ∀ a0 a1 k, LeO (place_seen.f k a0 a1) (place_seen.f (k + 1) a0 a1) := by
  intro a0 a1 k
  have ih0 := place_seen.mono_l k
  unfold place_seen.f
  repeat' first
      | (with_reducible exact ih0 _ _ _)
      | (with_reducible exact LeO.refl _)
      | (with_reducible exact LeO.none _)
      | (with_reducible refine LeO.ite ?_ ?_)
      | (with_reducible refine LeO.bind ?_ (fun _ => ?_))
      | exact ih0 _ _ _
      | exact LeO.none _
      | refine LeO.ite ?_ ?_
      | refine LeO.bind ?_ (fun _ => ?_)
set_option maxHeartbeats 8000000 in
set_option maxRecDepth 100000 in
theorem place_seen.calls (k : Nat) (a0 : Int) (a1 : Int) (r1 : Int) (r2 : Int) (r3 : Bool) (w : World) (h : place_seen.f k a0 a1 = some (r1, r2, r3)) :
    Calls Try.prog 78 #[.int .i64 a0, .int .i64 a1] w fun e w' => e = .returned (.tuple #[.agg #[.int .i64 r1, .int .i64 r2], .bool r3]) ∧ Below w.heap.size w w' := by
  have hu88 := Try.underlying88
  have HB := Aside0.mk (Below.refl w.heap.size w)
  have H : (if a0 < 0 then (place_seen.j0 k a0 a1 true) else (if a0 > 89 then (place_seen.j0 k a0 a1 true) else (if a1 = 0 then (place_seen.j0 k a0 a1 false) else (place_seen.j0 k a0 a1 (a1 != 1))))) = some (r1, r2, r3) := h
  clear h
  have HC3 := Aside0.mk H
  clear H
  go_enter Try.func78, Try.ntmps78
  go_upto_region 1 with (first | ((with_reducible refine gate_dst (N := 4) rfl ?_); refine box_event ?hg (N := 4) ?hd (cs := #[.int .i64 0, .int .i64 0]) (t := 88) ?hr ?_; (case hd => rfl); (case hg => rfl); (case hr => first | (go_simp; done) | (go_simp; rfl)); intro gb312 hg w4 hbox hb; have n0_ := Aside0.mk (below_step (by repeat (first | (with_reducible first | exact HB.out | apply below_alloc | apply pw_below_drewN | apply below_drew1) | exact HB.out)) hb); have n1_ := Aside0.mk (hbox); have n2_ := Aside0.mk ((by rw [hg]; exact (below_size (by repeat (first | (with_reducible first | exact HB.out | apply below_alloc | apply pw_below_drewN | apply below_drew1) | exact HB.out))) : w.heap.size ≤ gb312)); have n3_ := Aside0.mk ((by rw [hg]; exact (below_size (by repeat (first | (with_reducible first | exact HB.out | apply below_alloc | apply pw_below_drewN | apply below_drew1) | exact HB.out))) : w.heap.size ≤ gb312)); clear HB; have HB := n0_; have BK312 := n1_; have GW312 := n2_; have GE312 := n3_; clear n0_ n1_ n2_ n3_; clear hb hbox hg))
  (try simp only [Act.put, List.setIfInBounds_toArray, List.set_cons_zero, List.set_cons_succ])
  go_cut [19] (fun v19 wc => ∃ (kq : Nat) (x19_2 : Bool), v19 = .bool x19_2 ∧ Aside0 (place_seen.j0 kq a0 a1 x19_2 = some (r1, r2, r3)) ∧ Aside0 (kq ≤ k) ∧ Aside0 (wc.heap[gb312]? = some (.cells #[.int .i64 0, .int .i64 0] 88 (0, 0))) ∧ Aside0 (Below w.heap.size w wc))
  case first =>
    have H := HC3.out
    clear HC3
    by_cases c5 : a0 < 0
    · rw [if_pos c5] at H
      have c5b0 : decide (a0 < 0) = true := decide_eq_true c5
      clear c5
      (first | rw [c5b0] | (simp only [i64_w, i32_w]; rw [c5b0]) | skip)
      have H' := Aside0.mk H
      clear H
      go_wp2
      go_meet
      case rel => exact ⟨_, (true), (by first | rfl | (simp; done) | (simp [*]; done)), H', ⟨by first | omega | exact Nat.le_refl _⟩, ⟨by (with_reducible repeat (first | refine blk_drewN ?_ _ | refine blk_drew ?_ | refine blk_alloc ?_ _)); exact BK312.out⟩, ⟨by repeat (first | (with_reducible first | exact HB.out | apply below_alloc | apply pw_below_drewN | apply below_drew1 | refine below_set ?_ GE312.out) | exact HB.out)⟩⟩
    · rw [if_neg c5] at H
      have c5b0 : decide (a0 < 0) = false := decide_eq_false c5
      clear c5
      (first | rw [c5b0] | (simp only [i64_w, i32_w]; rw [c5b0]) | skip)
      by_cases c6 : a0 > 89
      · rw [if_pos c6] at H
        have c6b0 : decide (89 < a0) = true := decide_eq_true c6
        clear c6
        have H' := Aside0.mk H
        clear H
        go_wp2
        go_meet
        case rel => exact ⟨_, (true), (by first | rfl | (simp; done) | (simp [*]; done)), H', ⟨by first | omega | exact Nat.le_refl _⟩, ⟨by (with_reducible repeat (first | refine blk_drewN ?_ _ | refine blk_drew ?_ | refine blk_alloc ?_ _)); exact BK312.out⟩, ⟨by repeat (first | (with_reducible first | exact HB.out | apply below_alloc | apply pw_below_drewN | apply below_drew1 | refine below_set ?_ GE312.out) | exact HB.out)⟩⟩
      · rw [if_neg c6] at H
        have c6b0 : decide (89 < a0) = false := decide_eq_false c6
        clear c6
        by_cases c7 : a1 = 0
        · rw [if_pos c7] at H
          have c7b0 : (a1 == 0) = true := beq_iff_eq.mpr c7
          have c7b1 : (a1 != 0) = false := bne_eq_false_iff_eq.mpr c7
          clear c7
          have H' := Aside0.mk H
          clear H
          go_wp2
          go_meet
          case rel => exact ⟨_, (false), (by first | rfl | (simp; done) | (simp [*]; done)), H', ⟨by first | omega | exact Nat.le_refl _⟩, ⟨by (with_reducible repeat (first | refine blk_drewN ?_ _ | refine blk_drew ?_ | refine blk_alloc ?_ _)); exact BK312.out⟩, ⟨by repeat (first | (with_reducible first | exact HB.out | apply below_alloc | apply pw_below_drewN | apply below_drew1 | refine below_set ?_ GE312.out) | exact HB.out)⟩⟩
        · rw [if_neg c7] at H
          have c7b0 : (a1 == 0) = false := beq_eq_false_iff_ne.mpr c7
          have c7b1 : (a1 != 0) = true := bne_iff_ne.mpr c7
          have H' := Aside0.mk H
          clear H
          go_wp2
          go_meet
          case rel => exact ⟨_, ((a1 != 1)), (by first | rfl | (simp; done) | (simp [*]; done)), H', ⟨by first | omega | exact Nat.le_refl _⟩, ⟨by (with_reducible repeat (first | refine blk_drewN ?_ _ | refine blk_drew ?_ | refine blk_alloc ?_ _)); exact BK312.out⟩, ⟨by repeat (first | (with_reducible first | exact HB.out | apply below_alloc | apply pw_below_drewN | apply below_drew1 | refine below_set ?_ GE312.out) | exact HB.out)⟩⟩
  case rest =>
    clear HC3
    try clear p2
    try clear c5
    try clear c5b0
    try clear c6
    try clear c6b0
    try clear c7
    try clear c7b0
    try clear c7b1
    obtain ⟨kq, x19_2, rfl, HA, HJ2, BK312, HB⟩ := hcut
    cases kq with
    | zero => exact absurd HA.out (by simp [place_seen.j0])
    | succ kj2 =>
      have H := HA.out
      clear HA
      simp only [place_seen.j0] at H
      by_cases c8 : x19_2 = true
      · subst c8
        have H1 : (some (0, 0, false)) = some (r1, r2, r3) := by rw [if_pos rfl] at H; exact H
        clear H
        have H := H1
        clear H1
        simp only [Option.some.injEq, Prod.mk.injEq] at H
        obtain ⟨rfl, rfl, rfl⟩ := H
        have hcz9_0 : wc.cell? ⟨gb312, 0, none⟩ = some (.int .i64 0) := (blk_cell BK312.out 0).trans rfl
        have hcz9_1 : wc.cell? ⟨gb312, 1, none⟩ = some (.int .i64 0) := (blk_cell BK312.out 1).trans rfl
        have hfz9_0 := blk_frozen BK312.out 0
        have hfz9_1 := blk_frozen BK312.out 1
        go_wp2
        refine bodyPost_ret (results_ct rfl _ _ gb312 88 #[.int .i64 0, .int .i64 0] (0, 0) _ rfl (by (with_reducible repeat (first | refine blk_drewN ?_ _ | refine blk_drew ?_ | refine blk_alloc ?_ _)); refine blk_put (cs := #[.int .i64 0, .int .i64 0]) ?_ 1 _ rfl; (with_reducible repeat (first | refine blk_drewN ?_ _ | refine blk_drew ?_ | refine blk_alloc ?_ _)); refine blk_put (cs := #[.int .i64 0, .int .i64 0]) ?_ 0 _ rfl; (with_reducible repeat (first | refine blk_drewN ?_ _ | refine blk_drew ?_ | refine blk_alloc ?_ _)); exact BK312.out) Try.underlying88 rfl (by kernel_rfl)) rfl ?_
        exact ⟨by first | rfl | (simp [errW_none, errW_some] <;> rfl) | (simp [*, errW_none, errW_some] <;> rfl), by repeat (first | (with_reducible first | exact HB.out | apply below_alloc | apply pw_below_drewN | apply below_drew1 | refine below_set ?_ GE312.out) | exact HB.out)⟩
      · replace c8 := Bool.eq_false_iff.mpr c8
        subst c8
        have H1 : (if a1 = 1 then (some (Int.tmod (wrap64 (89 - a0)) 9, wrap64 (Int.tdiv (wrap64 (89 - a0)) 9), true)) else (some (Int.tmod a0 9, wrap64 (Int.tdiv a0 9), true))) = some (r1, r2, r3) := by rw [if_neg (show ¬ (false = true) by decide)] at H; exact H
        clear H
        have H := H1
        clear H1
        by_cases c10 : a1 = 1
        · rw [if_pos c10] at H
          have c10b0 : (a1 == 1) = true := beq_iff_eq.mpr c10
          have c10b1 : (a1 != 1) = false := bne_eq_false_iff_eq.mpr c10
          clear c10
          simp only [Option.some.injEq, Prod.mk.injEq] at H
          obtain ⟨rfl, rfl, rfl⟩ := H
          have hcz11_0 : wc.cell? ⟨gb312, 0, none⟩ = some (.int .i64 0) := (blk_cell BK312.out 0).trans rfl
          have hcz11_1 : wc.cell? ⟨gb312, 1, none⟩ = some (.int .i64 0) := (blk_cell BK312.out 1).trans rfl
          have hfz11_0 := blk_frozen BK312.out 0
          have hfz11_1 := blk_frozen BK312.out 1
          go_wp2
          refine bodyPost_ret (results_ct rfl _ _ gb312 88 #[.int .i64 (Int.tmod (wrap64 (89 - a0)) 9), .int .i64 (wrap64 (Int.tdiv (wrap64 (89 - a0)) 9))] (0, 0) _ rfl (by (with_reducible repeat (first | refine blk_drewN ?_ _ | refine blk_drew ?_ | refine blk_alloc ?_ _)); refine blk_put (cs := #[.int .i64 (Int.tmod (wrap64 (89 - a0)) 9), .int .i64 0]) ?_ 1 _ rfl; (with_reducible repeat (first | refine blk_drewN ?_ _ | refine blk_drew ?_ | refine blk_alloc ?_ _)); refine blk_put (cs := #[.int .i64 0, .int .i64 0]) ?_ 0 _ rfl; (with_reducible repeat (first | refine blk_drewN ?_ _ | refine blk_drew ?_ | refine blk_alloc ?_ _)); exact BK312.out) Try.underlying88 rfl (by kernel_rfl)) rfl ?_
          exact ⟨by first | rfl | (simp [errW_none, errW_some] <;> rfl) | (simp [*, errW_none, errW_some] <;> rfl), by repeat (first | (with_reducible first | exact HB.out | apply below_alloc | apply pw_below_drewN | apply below_drew1 | refine below_set ?_ GE312.out) | exact HB.out)⟩
        · rw [if_neg c10] at H
          have c10b0 : (a1 == 1) = false := beq_eq_false_iff_ne.mpr c10
          have c10b1 : (a1 != 1) = true := bne_iff_ne.mpr c10
          simp only [Option.some.injEq, Prod.mk.injEq] at H
          obtain ⟨rfl, rfl, rfl⟩ := H
          have hcz12_0 : wc.cell? ⟨gb312, 0, none⟩ = some (.int .i64 0) := (blk_cell BK312.out 0).trans rfl
          have hcz12_1 : wc.cell? ⟨gb312, 1, none⟩ = some (.int .i64 0) := (blk_cell BK312.out 1).trans rfl
          have hfz12_0 := blk_frozen BK312.out 0
          have hfz12_1 := blk_frozen BK312.out 1
          go_wp2
          refine bodyPost_ret (results_ct rfl _ _ gb312 88 #[.int .i64 (Int.tmod a0 9), .int .i64 (wrap64 (Int.tdiv a0 9))] (0, 0) _ rfl (by (with_reducible repeat (first | refine blk_drewN ?_ _ | refine blk_drew ?_ | refine blk_alloc ?_ _)); refine blk_put (cs := #[.int .i64 (Int.tmod a0 9), .int .i64 0]) ?_ 1 _ rfl; (with_reducible repeat (first | refine blk_drewN ?_ _ | refine blk_drew ?_ | refine blk_alloc ?_ _)); refine blk_put (cs := #[.int .i64 0, .int .i64 0]) ?_ 0 _ rfl; (with_reducible repeat (first | refine blk_drewN ?_ _ | refine blk_drew ?_ | refine blk_alloc ?_ _)); exact BK312.out) Try.underlying88 rfl (by kernel_rfl)) rfl ?_
          exact ⟨by first | rfl | (simp [errW_none, errW_some] <;> rfl) | (simp [*, errW_none, errW_some] <;> rfl), by repeat (first | (with_reducible first | exact HB.out | apply below_alloc | apply pw_below_drewN | apply below_drew1 | refine below_set ?_ GE312.out) | exact HB.out)⟩

/-! ### place_spot_over: function 79 -/
def place_spot_over.f (a0_0 : Int) (a0_1 : Int) : Option (Bool) := some (decide (a0_1 ≥ 5))
set_option maxHeartbeats 8000000 in
set_option maxRecDepth 100000 in
theorem place_spot_over.calls (a0_0 : Int) (a0_1 : Int) (r : Bool) (w : World) (h : place_spot_over.f a0_0 a0_1 = some r) :
    Calls Try.prog 79 #[.agg #[.int .i64 a0_0, .int .i64 a0_1]] w fun e w' => e = .returned (.bool r) ∧ Below w.heap.size w w' := by
  have hu88 := Try.underlying88
  have HB := Aside0.mk (Below.refl w.heap.size w)
  have H : (some (decide (a0_1 ≥ 5))) = some r := h
  clear h
  obtain rfl := Option.some.inj H
  go_enter Try.func79, Try.ntmps79
  go_wp2_with (first | ((with_reducible refine gate_dst (N := 1) rfl ?_); refine box_event ?hg (N := 1) ?hd (cs := #[.int .i64 a0_0, .int .i64 a0_1]) (t := 88) ?hr ?_; (case hd => rfl); (case hg => rfl); (case hr => first | (go_simp; done) | (go_simp; rfl)); intro gb313 hg w2 hbox hb; have n0_ := Aside0.mk (below_step (by repeat (first | (with_reducible first | exact HB.out | apply below_alloc | apply pw_below_drewN | apply below_drew1) | exact HB.out)) hb); have n1_ := Aside0.mk (hbox); have n2_ := Aside0.mk ((by rw [hg]; exact (below_size (by repeat (first | (with_reducible first | exact HB.out | apply below_alloc | apply pw_below_drewN | apply below_drew1) | exact HB.out))) : w.heap.size ≤ gb313)); have n3_ := Aside0.mk ((by rw [hg]; exact (below_size (by repeat (first | (with_reducible first | exact HB.out | apply below_alloc | apply pw_below_drewN | apply below_drew1) | exact HB.out))) : w.heap.size ≤ gb313)); clear HB; have HB := n0_; have BK313 := n1_; have GW313 := n2_; have GE313 := n3_; clear n0_ n1_ n2_ n3_; clear hb hbox hg; have hcz3_0 : w2.cell? ⟨gb313, 0, none⟩ = some (.int .i64 a0_0) := (blk_cell BK313.out 0).trans rfl; have hcz3_1 : w2.cell? ⟨gb313, 1, none⟩ = some (.int .i64 a0_1) := (blk_cell BK313.out 1).trans rfl; have hfz3_0 := blk_frozen BK313.out 0; have hfz3_1 := blk_frozen BK313.out 1))
  go_ret
  exact ⟨by first | rfl | (simp [errW_none, errW_some] <;> rfl) | (simp [*, errW_none, errW_some] <;> rfl), by repeat (first | (with_reducible first | exact HB.out | apply below_alloc | apply pw_below_drewN | apply below_drew1 | refine below_set ?_ GE313.out) | exact HB.out)⟩

/-! ### place_Over: function 60 -/
def place_Over.f (k : Nat) (a0 : Int) (a1 : Int) : Option (Bool) := (place_seen.f k a0 a1).bind fun bt314 => (if bt314.2.2 = true then ((place_spot_over.f bt314.1 bt314.2.1).bind fun t318 => (some t318)) else (some false))
theorem place_Over.mono : ∀ a0 a1 k, LeO (place_Over.f k a0 a1) (place_Over.f (k + 1) a0 a1) := by
  intro a0 a1 k
  unfold place_Over.f
  repeat' first
      | (with_reducible exact place_seen.mono _ _ _)
      | (with_reducible exact LeO.refl _)
      | (with_reducible exact LeO.none _)
      | (with_reducible refine LeO.ite ?_ ?_)
      | (with_reducible refine LeO.bind ?_ (fun _ => ?_))
      | exact place_seen.mono _ _ _
      | exact LeO.none _
      | refine LeO.ite ?_ ?_
      | refine LeO.bind ?_ (fun _ => ?_)
set_option maxHeartbeats 8000000 in
set_option maxRecDepth 100000 in
theorem place_Over.calls (k : Nat) (a0 : Int) (a1 : Int) (r : Bool) (w : World) (h : place_Over.f k a0 a1 = some r) :
    Calls Try.prog 60 #[.int .i64 a0, .int .i64 a1] w fun e w' => e = .returned (.bool r) ∧ Below w.heap.size w w' := by
  have hu88 := Try.underlying88
  have HB := Aside0.mk (Below.refl w.heap.size w)
  have H : ((place_seen.f k a0 a1).bind fun bt314 => (if bt314.2.2 = true then ((place_spot_over.f bt314.1 bt314.2.1).bind fun t318 => (some t318)) else (some false))) = some r := h
  clear h
  replace H := Option.bind_eq_some_iff.mp H
  obtain ⟨⟨t314, t315, t316⟩, A30, H⟩ := H
  replace H : (if t316 = true then ((place_spot_over.f t314 t315).bind fun t318 => (some t318)) else (some false)) = some r := H
  have A3 := Aside0.mk A30
  clear A30
  by_cases c4 : t316 = true
  · subst c4
    have H1 : ((place_spot_over.f t314 t315).bind fun t318 => (some t318)) = some r := by rw [if_pos rfl] at H; exact H
    clear H
    have H := H1
    clear H1
    replace H := Option.bind_eq_some_iff.mp H
    obtain ⟨t318, A50, H⟩ := H
    replace H : (some t318) = some r := H
    have A5 := Aside0.mk A50
    clear A50
    obtain rfl := Option.some.inj H
    go_enter Try.func60, Try.ntmps60
    go_wp2_with (first | ((with_reducible refine gate_callee (f := 78) rfl ?_); refine goesL_ (some 10) rfl rfl Try.func78 (by kernel_rfl) rfl #[.int .i64 a0, .int .i64 a1] rfl (by (try simp only [List.map_toArray, List.map_cons, List.map_nil]); first | done | rfl | (simp only [List.length_drop, List.length_take]; rfl)) ?_; (with_reducible refine (place_seen.calls k a0 a1 t314 t315 true _ A3.out).mono ?_); rintro e w6 ⟨rfl, hb⟩; refine ⟨_, rfl, ?_⟩; have n0_ := Aside0.mk (below_step (by repeat (first | (with_reducible first | exact HB.out | apply below_alloc | apply pw_below_drewN | apply below_drew1) | exact HB.out)) hb); clear HB; have HB := n0_; clear n0_; (try clear hb); (try clear hb2); (try clear hk); (try clear hi)) | ((with_reducible refine gate_dst (N := 5) rfl ?_); refine box_event ?hg (N := 5) ?hd (cs := #[.int .i64 0, .int .i64 0]) (t := 88) ?hr ?_; (case hd => rfl); (case hg => rfl); (case hr => first | (go_simp; done) | (go_simp; rfl)); intro gb317 hg w7 hbox hb; have n0_ := Aside0.mk (below_step (by repeat (first | (with_reducible first | exact HB.out | apply below_alloc | apply pw_below_drewN | apply below_drew1) | exact HB.out)) hb); have n1_ := Aside0.mk (hbox); have n2_ := Aside0.mk ((by rw [hg]; exact (below_size (by repeat (first | (with_reducible first | exact HB.out | apply below_alloc | apply pw_below_drewN | apply below_drew1) | exact HB.out))) : w.heap.size ≤ gb317)); have n3_ := Aside0.mk ((by rw [hg]; exact (below_size (by repeat (first | (with_reducible first | exact HB.out | apply below_alloc | apply pw_below_drewN | apply below_drew1) | exact HB.out))) : w.heap.size ≤ gb317)); clear HB; have HB := n0_; have BK317 := n1_; have GW317 := n2_; have GE317 := n3_; clear n0_ n1_ n2_ n3_; clear hb hbox hg; have hcz8_0 : w7.cell? ⟨gb317, 0, none⟩ = some (.int .i64 0) := (blk_cell BK317.out 0).trans rfl; have hcz8_1 : w7.cell? ⟨gb317, 1, none⟩ = some (.int .i64 0) := (blk_cell BK317.out 1).trans rfl; have hfz8_0 := blk_frozen BK317.out 0; have hfz8_1 := blk_frozen BK317.out 1) | (go_at_call 79; (with_reducible refine (place_spot_over.calls t314 t315 t318 _ A5.out).mono ?_); rintro e w9 ⟨rfl, hb⟩; have n0_ := Aside0.mk (blk_below (g := gb317) (o := .cells #[.int .i64 t314, .int .i64 t315] 88 (0, 0)) (by (with_reducible repeat (first | refine blk_drewN ?_ _ | refine blk_drew ?_ | refine blk_alloc ?_ _)); refine blk_put (cs := #[.int .i64 t314, .int .i64 0]) ?_ 1 _ rfl; (with_reducible repeat (first | refine blk_drewN ?_ _ | refine blk_drew ?_ | refine blk_alloc ?_ _)); refine blk_put (cs := #[.int .i64 0, .int .i64 0]) ?_ 0 _ rfl; (with_reducible repeat (first | refine blk_drewN ?_ _ | refine blk_drew ?_ | refine blk_alloc ?_ _)); exact BK317.out) hb); have n1_ := Aside0.mk (below_step (by repeat (first | (with_reducible first | exact HB.out | apply below_alloc | apply pw_below_drewN | apply below_drew1 | refine below_set ?_ GE317.out) | exact HB.out)) hb); clear BK317; clear HB; have BK317 := n0_; have HB := n1_; clear n0_ n1_; (try clear hb); (try clear hb2); (try clear hk); (try clear hi)))
    go_ret
    exact ⟨by first | rfl | (simp [errW_none, errW_some] <;> rfl) | (simp [*, errW_none, errW_some] <;> rfl), by repeat (first | (with_reducible first | exact HB.out | apply below_alloc | apply pw_below_drewN | apply below_drew1 | refine below_set ?_ GE317.out) | exact HB.out)⟩
  · replace c4 := Bool.eq_false_iff.mpr c4
    subst c4
    have H1 : (some false) = some r := by rw [if_neg (show ¬ (false = true) by decide)] at H; exact H
    clear H
    have H := H1
    clear H1
    obtain rfl := Option.some.inj H
    go_enter Try.func60, Try.ntmps60
    go_wp2_with (first | ((with_reducible refine gate_callee (f := 78) rfl ?_); refine goesL_ (some 10) rfl rfl Try.func78 (by kernel_rfl) rfl #[.int .i64 a0, .int .i64 a1] rfl (by (try simp only [List.map_toArray, List.map_cons, List.map_nil]); first | done | rfl | (simp only [List.length_drop, List.length_take]; rfl)) ?_; (with_reducible refine (place_seen.calls k a0 a1 t314 t315 false _ A3.out).mono ?_); rintro e w10 ⟨rfl, hb⟩; refine ⟨_, rfl, ?_⟩; have n0_ := Aside0.mk (below_step (by repeat (first | (with_reducible first | exact HB.out | apply below_alloc | apply pw_below_drewN | apply below_drew1) | exact HB.out)) hb); clear HB; have HB := n0_; clear n0_; (try clear hb); (try clear hb2); (try clear hk); (try clear hi)) | ((with_reducible refine gate_dst (N := 5) rfl ?_); refine box_event ?hg (N := 5) ?hd (cs := #[.int .i64 0, .int .i64 0]) (t := 88) ?hr ?_; (case hd => rfl); (case hg => rfl); (case hr => first | (go_simp; done) | (go_simp; rfl)); intro gb317 hg w11 hbox hb; have n0_ := Aside0.mk (below_step (by repeat (first | (with_reducible first | exact HB.out | apply below_alloc | apply pw_below_drewN | apply below_drew1) | exact HB.out)) hb); have n1_ := Aside0.mk (hbox); have n2_ := Aside0.mk ((by rw [hg]; exact (below_size (by repeat (first | (with_reducible first | exact HB.out | apply below_alloc | apply pw_below_drewN | apply below_drew1) | exact HB.out))) : w.heap.size ≤ gb317)); have n3_ := Aside0.mk ((by rw [hg]; exact (below_size (by repeat (first | (with_reducible first | exact HB.out | apply below_alloc | apply pw_below_drewN | apply below_drew1) | exact HB.out))) : w.heap.size ≤ gb317)); clear HB; have HB := n0_; have BK317 := n1_; have GW317 := n2_; have GE317 := n3_; clear n0_ n1_ n2_ n3_; clear hb hbox hg; have hcz12_0 : w11.cell? ⟨gb317, 0, none⟩ = some (.int .i64 0) := (blk_cell BK317.out 0).trans rfl; have hcz12_1 : w11.cell? ⟨gb317, 1, none⟩ = some (.int .i64 0) := (blk_cell BK317.out 1).trans rfl; have hfz12_0 := blk_frozen BK317.out 0; have hfz12_1 := blk_frozen BK317.out 1))
    go_ret
    exact ⟨by first | rfl | (simp [errW_none, errW_some] <;> rfl) | (simp [*, errW_none, errW_some] <;> rfl), by repeat (first | (with_reducible first | exact HB.out | apply below_alloc | apply pw_below_drewN | apply below_drew1 | refine below_set ?_ GE317.out) | exact HB.out)⟩

end Go.Proofs.Ytmfbgcimfmgobaa.Print

-- of YtmfbgcimfmgobaaPrint30
-- Written by a program of this session (wip/gprint/gprint.py) over the kit's print; the parts marked GIVEN by hand.
namespace Go.Proofs.Ytmfbgcimfmgobaa.Print
open Go.RowKit Go.Proofs.YtmfbgcimfmgobaaW.PrintWords Go.Proofs.YtmfbgcimfmgobaaW.PrintLast Go.Proofs.YtmfbgcimfmgobaaW.PrintMore
attribute [local go_sem] max2_int min2_int max_two min_two max_three min_three max_four min_four   -- for this text's walks alone
set_option linter.unusedVariables false
set_option linter.unusedSimpArgs false
/-! ### value_Piece: function 34 -/
mutual
def value_Piece.j0 : Nat → Int → Int → Int → Int → Int → Bool → Option (Int)
  | 0, _, _, _, _, _, _ => none
  | k + 1, x0, x1, x5, x6, x7, x21 => if x21 = true then (some 0) else (if x5 = 1 then (value_Piece.j1 k x0 x1 x5 x6 (wrap64 (9 - x7))) else (value_Piece.j1 k x0 x1 x5 x6 x7))
def value_Piece.j1 : Nat → Int → Int → Int → Int → Int → Option (Int)
  | 0, _, _, _, _, _ => none
  | k + 1, x0, x1, x5, x6, x7 => (value_Kind.f x0).bind fun t322 => ((board_Kind.f x0).bind fun t323 => (if t323 = 80 then ((place_Over.f k x1 x5).bind fun t324 => (if t324 = true then (if (mx (wrap64 (x6 - 4)) (wrap64 (4 - x6))) ≤ 1 then (some (wrap64 ((wrap64 (t322 + 40)) + 10))) else (some (wrap64 (t322 + 40)))) else (some t322))) else (if t323 = 78 then (some (wrap64 (t322 + (wrap64 ((wrap64 (x7 + 4)) - (mx (wrap64 (x6 - 4)) (wrap64 (4 - x6)))))))) else (if t323 = 67 then (some (wrap64 (t322 + (wrap64 ((wrap64 (x7 + 4)) - (mx (wrap64 (x6 - 4)) (wrap64 (4 - x6)))))))) else (if t323 = 82 then (some (wrap64 (t322 + (wrap64 ((wrap64 (x7 + 4)) - (mx (wrap64 (x6 - 4)) (wrap64 (4 - x6)))))))) else (some t322))))))
end
def value_Piece.f (k : Nat) (a0 : Int) (a1 : Int) : Option (Int) := (board_Side.f a0).bind fun t319 => ((board_File.f a1).bind fun t320 => ((board_Rank.f a1).bind fun t321 => (if t319 < 0 then (value_Piece.j0 k a0 a1 t319 t320 t321 true) else (value_Piece.j0 k a0 a1 t319 t320 t321 (decide (t320 < 0))))))
theorem value_Piece.mono_l : ∀ k, (∀ y0 y1 y2 y3 y4 y5, LeO (value_Piece.j0 k y0 y1 y2 y3 y4 y5) (value_Piece.j0 (k + 1) y0 y1 y2 y3 y4 y5)) ∧ (∀ y0 y1 y2 y3 y4, LeO (value_Piece.j1 k y0 y1 y2 y3 y4) (value_Piece.j1 (k + 1) y0 y1 y2 y3 y4))
  | 0 => ⟨fun _ _ _ _ _ _ r h => by simp [value_Piece.j0] at h, fun _ _ _ _ _ r h => by simp [value_Piece.j1] at h⟩
  | k + 1 => by
    obtain ⟨ih0, ih1⟩ := value_Piece.mono_l k
    refine ⟨?_, ?_⟩
    · intro y0 y1 y2 y3 y4 y5
      unfold value_Piece.j0
      repeat' first
      | (with_reducible exact ih0 _ _ _ _ _ _)
      | (with_reducible exact ih1 _ _ _ _ _)
      | (with_reducible exact place_Over.mono _ _ _)
      | (with_reducible exact LeO.refl _)
      | (with_reducible exact LeO.none _)
      | (with_reducible refine LeO.ite ?_ ?_)
      | (with_reducible refine LeO.bind ?_ (fun _ => ?_))
      | exact ih0 _ _ _ _ _ _
      | exact ih1 _ _ _ _ _
      | exact place_Over.mono _ _ _
      | exact LeO.none _
      | refine LeO.ite ?_ ?_
      | refine LeO.bind ?_ (fun _ => ?_)
    · intro y0 y1 y2 y3 y4
      unfold value_Piece.j1
      repeat' first
      | (with_reducible exact ih0 _ _ _ _ _ _)
      | (with_reducible exact ih1 _ _ _ _ _)
      | (with_reducible exact place_Over.mono _ _ _)
      | (with_reducible exact LeO.refl _)
      | (with_reducible exact LeO.none _)
      | (with_reducible refine LeO.ite ?_ ?_)
      | (with_reducible refine LeO.bind ?_ (fun _ => ?_))
      | exact ih0 _ _ _ _ _ _
      | exact ih1 _ _ _ _ _
      | exact place_Over.mono _ _ _
      | exact LeO.none _
      | refine LeO.ite ?_ ?_
      | refine LeO.bind ?_ (fun _ => ?_)
theorem value_Piece.mono : ∀ a0 a1 k, LeO (value_Piece.f k a0 a1) (value_Piece.f (k + 1) a0 a1) := by
  intro a0 a1 k
  obtain ⟨ih0, ih1⟩ := value_Piece.mono_l k
  unfold value_Piece.f
  repeat' first
      | (with_reducible exact ih0 _ _ _ _ _ _)
      | (with_reducible exact ih1 _ _ _ _ _)
      | (with_reducible exact place_Over.mono _ _ _)
      | (with_reducible exact LeO.refl _)
      | (with_reducible exact LeO.none _)
      | (with_reducible refine LeO.ite ?_ ?_)
      | (with_reducible refine LeO.bind ?_ (fun _ => ?_))
      | exact ih0 _ _ _ _ _ _
      | exact ih1 _ _ _ _ _
      | exact place_Over.mono _ _ _
      | exact LeO.none _
      | refine LeO.ite ?_ ?_
      | refine LeO.bind ?_ (fun _ => ?_)
set_option maxHeartbeats 8000000 in
set_option maxRecDepth 100000 in
theorem value_Piece.calls (k : Nat) (a0 : Int) (a1 : Int) (r : Int) (w : World) (h : value_Piece.f k a0 a1 = some r) :
    Calls Try.prog 34 #[.int .u8 a0, .int .i64 a1] w fun e w' => e = .returned (.int .i64 r) ∧ Below w.heap.size w w' := by
  have HB := Aside0.mk (Below.refl w.heap.size w)
  have H : ((board_Side.f a0).bind fun t319 => ((board_File.f a1).bind fun t320 => ((board_Rank.f a1).bind fun t321 => (if t319 < 0 then (value_Piece.j0 k a0 a1 t319 t320 t321 true) else (value_Piece.j0 k a0 a1 t319 t320 t321 (decide (t320 < 0))))))) = some r := h
  clear h
  replace H := Option.bind_eq_some_iff.mp H
  obtain ⟨t319, A30, H⟩ := H
  replace H : ((board_File.f a1).bind fun t320 => ((board_Rank.f a1).bind fun t321 => (if t319 < 0 then (value_Piece.j0 k a0 a1 t319 t320 t321 true) else (value_Piece.j0 k a0 a1 t319 t320 t321 (decide (t320 < 0)))))) = some r := H
  have A3 := Aside0.mk A30
  clear A30
  replace H := Option.bind_eq_some_iff.mp H
  obtain ⟨t320, A40, H⟩ := H
  replace H : ((board_Rank.f a1).bind fun t321 => (if t319 < 0 then (value_Piece.j0 k a0 a1 t319 t320 t321 true) else (value_Piece.j0 k a0 a1 t319 t320 t321 (decide (t320 < 0))))) = some r := H
  have A4 := Aside0.mk A40
  clear A40
  replace H := Option.bind_eq_some_iff.mp H
  obtain ⟨t321, A50, H⟩ := H
  replace H : (if t319 < 0 then (value_Piece.j0 k a0 a1 t319 t320 t321 true) else (value_Piece.j0 k a0 a1 t319 t320 t321 (decide (t320 < 0)))) = some r := H
  have A5 := Aside0.mk A50
  clear A50
  have HC6 := Aside0.mk H
  clear H
  go_enter Try.func34, Try.ntmps34
  go_upto_region 2 with (first | ((with_reducible refine gate_callee (f := 43) rfl ?_); refine goesL_ (some 11) rfl rfl Try.func43 (by kernel_rfl) rfl #[.int .u8 a0] rfl (by (try simp only [List.map_toArray, List.map_cons, List.map_nil]); first | done | rfl | (simp only [List.length_drop, List.length_take]; rfl)) ?_; (with_reducible refine (board_Side.calls a0 t319 _ A3.out).mono ?_); rintro e w' ⟨rfl, ⟨nd, rfl⟩⟩; refine ⟨_, rfl, ?_⟩) | ((with_reducible refine gate_callee (f := 58) rfl ?_); refine goesL_ (some 13) rfl rfl Try.func58 (by kernel_rfl) rfl #[.int .i64 a1] rfl (by (try simp only [List.map_toArray, List.map_cons, List.map_nil]); first | done | rfl | (simp only [List.length_drop, List.length_take]; rfl)) ?_; (with_reducible refine (board_File.calls a1 t320 _ A4.out).mono ?_); rintro e w' ⟨rfl, ⟨nd, rfl⟩⟩; refine ⟨_, rfl, ?_⟩) | ((with_reducible refine gate_callee (f := 59) rfl ?_); refine goesL_ (some 15) rfl rfl Try.func59 (by kernel_rfl) rfl #[.int .i64 a1] rfl (by (try simp only [List.map_toArray, List.map_cons, List.map_nil]); first | done | rfl | (simp only [List.length_drop, List.length_take]; rfl)) ?_; (with_reducible refine (board_Rank.calls a1 t321 _ A5.out).mono ?_); rintro e w' ⟨rfl, ⟨nd, rfl⟩⟩; refine ⟨_, rfl, ?_⟩))
  (try simp only [Act.put, List.setIfInBounds_toArray, List.set_cons_zero, List.set_cons_succ])
  go_cut [21] (fun v21 wc => ∃ (kq : Nat) (x21_5 : Bool), v21 = .bool x21_5 ∧ Aside0 (value_Piece.j0 kq a0 a1 t319 t320 t321 x21_5 = some r) ∧ Aside0 (kq ≤ k) ∧ Aside0 (Below w.heap.size w wc))
  case first =>
    have H := HC6.out
    clear HC6
    by_cases c7 : t319 < 0
    · rw [if_pos c7] at H
      have c7b0 : decide (t319 < 0) = true := decide_eq_true c7
      clear c7
      (first | rw [c7b0] | (simp only [i64_w, i32_w]; rw [c7b0]) | skip)
      have H' := Aside0.mk H
      clear H
      go_wp2
      go_meet
      case rel => exact ⟨_, (true), (by first | rfl | (simp; done) | (simp [*]; done)), H', ⟨by first | omega | exact Nat.le_refl _⟩, ⟨by repeat (first | (with_reducible first | exact HB.out | apply below_alloc | apply pw_below_drewN | apply below_drew1) | exact HB.out)⟩⟩
    · rw [if_neg c7] at H
      have c7b0 : decide (t319 < 0) = false := decide_eq_false c7
      clear c7
      (first | rw [c7b0] | (simp only [i64_w, i32_w]; rw [c7b0]) | skip)
      have H' := Aside0.mk H
      clear H
      go_wp2
      go_meet
      case rel => exact ⟨_, (decide (t320 < 0)), (by first | rfl | (simp; done) | (simp [*]; done)), H', ⟨by first | omega | exact Nat.le_refl _⟩, ⟨by repeat (first | (with_reducible first | exact HB.out | apply below_alloc | apply pw_below_drewN | apply below_drew1) | exact HB.out)⟩⟩
  case rest =>
    clear HC6
    try clear p2
    try clear c3
    try clear c4
    try clear c5
    try clear c7
    try clear c7b0
    obtain ⟨kq, x21_5, rfl, HA, HJ5, HB⟩ := hcut
    cases kq with
    | zero => exact absurd HA.out (by simp [value_Piece.j0])
    | succ kj5 =>
      have H := HA.out
      clear HA
      simp only [value_Piece.j0] at H
      by_cases c8 : x21_5 = true
      · subst c8
        have H1 : (some 0) = some r := by rw [if_pos rfl] at H; exact H
        clear H
        have H := H1
        clear H1
        obtain rfl := Option.some.inj H
        go_wp2
        go_ret
        exact ⟨by first | rfl | (simp [errW_none, errW_some] <;> rfl) | (simp [*, errW_none, errW_some] <;> rfl), by repeat (first | (with_reducible first | exact HB.out | apply below_alloc | apply pw_below_drewN | apply below_drew1) | exact HB.out)⟩
      · replace c8 := Bool.eq_false_iff.mpr c8
        subst c8
        have H1 : (if t319 = 1 then (value_Piece.j1 kj5 a0 a1 t319 t320 (wrap64 (9 - t321))) else (value_Piece.j1 kj5 a0 a1 t319 t320 t321)) = some r := by rw [if_neg (show ¬ (false = true) by decide)] at H; exact H
        clear H
        have H := H1
        clear H1
        have HC9 := Aside0.mk H
        clear H
        go_upto_if 23 with (fail)
        go_cut [7] (fun v7 wc => ∃ (kq : Nat) (x7_8 : Int), v7 = .int .i64 x7_8 ∧ Aside0 (value_Piece.j1 kq a0 a1 t319 t320 x7_8 = some r) ∧ Aside0 (kq ≤ kj5) ∧ Aside0 (Below w.heap.size w wc))
        case first =>
          have H := HC9.out
          clear HC9
          by_cases c10 : t319 = 1
          · rw [if_pos c10] at H
            have c10b0 : (t319 == 1) = true := beq_iff_eq.mpr c10
            have c10b1 : (t319 != 1) = false := bne_eq_false_iff_eq.mpr c10
            clear c10
            (first | rw [c10b0] | (simp only [i64_w, i32_w]; rw [c10b0]) | skip)
            have H' := Aside0.mk H
            clear H
            go_wp2
            go_meet
            case rel => exact ⟨_, (wrap64 (9 - t321)), (by first | rfl | (simp; done) | (simp [*]; done)), H', ⟨by have := HJ5.out; first | omega | exact Nat.le_refl _⟩, ⟨by repeat (first | (with_reducible first | exact HB.out | apply below_alloc | apply pw_below_drewN | apply below_drew1) | exact HB.out)⟩⟩
          · rw [if_neg c10] at H
            have c10b0 : (t319 == 1) = false := beq_eq_false_iff_ne.mpr c10
            have c10b1 : (t319 != 1) = true := bne_iff_ne.mpr c10
            (first | rw [c10b0] | (simp only [i64_w, i32_w]; rw [c10b0]) | skip)
            have H' := Aside0.mk H
            clear H
            go_wp2
            go_meet
            case rel => exact ⟨_, (t321), (by first | rfl | (simp; done) | (simp [*]; done)), H', ⟨by have := HJ5.out; first | omega | exact Nat.le_refl _⟩, ⟨by repeat (first | (with_reducible first | exact HB.out | apply below_alloc | apply pw_below_drewN | apply below_drew1) | exact HB.out)⟩⟩
        case rest =>
          clear HC9
          try clear c1
          try clear p2
          try clear c3
          try clear c4
          try clear c5
          try clear p6
          try clear c7
          try clear c7b0
          try clear c8
          try clear c10
          try clear c10b0
          try clear c10b1
          try clear p2
          obtain ⟨kq, x7_8, rfl, HA, HJ8, HB⟩ := hcut
          cases kq with
          | zero => exact absurd HA.out (by simp [value_Piece.j1])
          | succ kj8 =>
            have H := HA.out
            clear HA
            simp only [value_Piece.j1] at H
            obtain ⟨ji11, hji11⟩ : ∃ j_ : Int, (mx (wrap64 (t320 - 4)) (wrap64 (4 - t320))) = j_ := ⟨_, rfl⟩
            replace H : ((value_Kind.f a0).bind fun t322 => ((board_Kind.f a0).bind fun t323 => (if t323 = 80 then ((place_Over.f kj8 a1 t319).bind fun t324 => (if t324 = true then (if (ji11) ≤ 1 then (some (wrap64 ((wrap64 (t322 + 40)) + 10))) else (some (wrap64 (t322 + 40)))) else (some t322))) else (if t323 = 78 then (some (wrap64 (t322 + (wrap64 ((wrap64 (x7_8 + 4)) - (ji11)))))) else (if t323 = 67 then (some (wrap64 (t322 + (wrap64 ((wrap64 (x7_8 + 4)) - (ji11)))))) else (if t323 = 82 then (some (wrap64 (t322 + (wrap64 ((wrap64 (x7_8 + 4)) - (ji11)))))) else (some t322))))))) = some r := by first | (rw [hji11] at H; exact H) | (simp only [hji11] at H ⊢; exact H)
            have hji11_ : (if (wrap64 (t320 - 4)) < (wrap64 (4 - t320)) then (wrap64 (4 - t320)) else (wrap64 (t320 - 4))) = ji11 := hji11
            replace H := Option.bind_eq_some_iff.mp H
            obtain ⟨t322, A120, H⟩ := H
            replace H : ((board_Kind.f a0).bind fun t323 => (if t323 = 80 then ((place_Over.f kj8 a1 t319).bind fun t324 => (if t324 = true then (if (ji11) ≤ 1 then (some (wrap64 ((wrap64 (t322 + 40)) + 10))) else (some (wrap64 (t322 + 40)))) else (some t322))) else (if t323 = 78 then (some (wrap64 (t322 + (wrap64 ((wrap64 (x7_8 + 4)) - (ji11)))))) else (if t323 = 67 then (some (wrap64 (t322 + (wrap64 ((wrap64 (x7_8 + 4)) - (ji11)))))) else (if t323 = 82 then (some (wrap64 (t322 + (wrap64 ((wrap64 (x7_8 + 4)) - (ji11)))))) else (some t322)))))) = some r := H
            have A12 := Aside0.mk A120
            clear A120
            replace H := Option.bind_eq_some_iff.mp H
            obtain ⟨t323, A130, H⟩ := H
            replace H : (if t323 = 80 then ((place_Over.f kj8 a1 t319).bind fun t324 => (if t324 = true then (if (ji11) ≤ 1 then (some (wrap64 ((wrap64 (t322 + 40)) + 10))) else (some (wrap64 (t322 + 40)))) else (some t322))) else (if t323 = 78 then (some (wrap64 (t322 + (wrap64 ((wrap64 (x7_8 + 4)) - (ji11)))))) else (if t323 = 67 then (some (wrap64 (t322 + (wrap64 ((wrap64 (x7_8 + 4)) - (ji11)))))) else (if t323 = 82 then (some (wrap64 (t322 + (wrap64 ((wrap64 (x7_8 + 4)) - (ji11)))))) else (some t322))))) = some r := H
            have A13 := Aside0.mk A130
            clear A130
            by_cases c14 : t323 = 80
            · rw [if_pos c14] at H
              have c14b0 : (t323 == 80) = true := beq_iff_eq.mpr c14
              have c14b1 : (t323 != 80) = false := bne_eq_false_iff_eq.mpr c14
              clear c14
              replace H := Option.bind_eq_some_iff.mp H
              obtain ⟨t324, A150, H⟩ := H
              replace H : (if t324 = true then (if (ji11) ≤ 1 then (some (wrap64 ((wrap64 (t322 + 40)) + 10))) else (some (wrap64 (t322 + 40)))) else (some t322)) = some r := H
              have A15 := Aside0.mk A150
              clear A150
              by_cases c16 : t324 = true
              · subst c16
                have H1 : (if (ji11) ≤ 1 then (some (wrap64 ((wrap64 (t322 + 40)) + 10))) else (some (wrap64 (t322 + 40)))) = some r := by rw [if_pos rfl] at H; exact H
                clear H
                have H := H1
                clear H1
                by_cases c17 : (ji11) ≤ 1
                · rw [if_pos c17] at H
                  have c17b0 : decide ((ji11) ≤ 1) = true := decide_eq_true c17
                  clear c17
                  obtain rfl := Option.some.inj H
                  go_wp2_with (first | ((with_reducible refine gate_callee (f := 32) rfl ?_); refine goesL_ (some 32) rfl rfl Try.func32 (by kernel_rfl) rfl #[.int .u8 a0] rfl (by (try simp only [List.map_toArray, List.map_cons, List.map_nil]); first | done | rfl | (simp only [List.length_drop, List.length_take]; rfl)) ?_; (with_reducible refine (value_Kind.calls a0 t322 _ A12.out).mono ?_); rintro e w18 ⟨rfl, hb⟩; refine ⟨_, rfl, ?_⟩; have n0_ := Aside0.mk (below_step (by repeat (first | (with_reducible first | exact HB.out | apply below_alloc | apply pw_below_drewN | apply below_drew1) | exact HB.out)) hb); clear HB; have HB := n0_; clear n0_; (try clear hb); (try clear hb2); (try clear hk); (try clear hi)) | ((with_reducible refine gate_callee (f := 44) rfl ?_); refine goesL_ (some 34) rfl rfl Try.func44 (by kernel_rfl) rfl #[.int .u8 a0] rfl (by (try simp only [List.map_toArray, List.map_cons, List.map_nil]); first | done | rfl | (simp only [List.length_drop, List.length_take]; rfl)) ?_; (with_reducible refine (board_Kind.calls a0 t323 _ A13.out).mono ?_); rintro e w' ⟨rfl, ⟨nd, rfl⟩⟩; refine ⟨_, rfl, ?_⟩) | ((with_reducible refine gate_callee (f := 60) rfl ?_); refine goesL_ (some 39) rfl rfl Try.func60 (by kernel_rfl) rfl #[.int .i64 a1, .int .i64 t319] rfl (by (try simp only [List.map_toArray, List.map_cons, List.map_nil]); first | done | rfl | (simp only [List.length_drop, List.length_take]; rfl)) ?_; (with_reducible refine (place_Over.calls kj8 a1 t319 true _ A15.out).mono ?_); rintro e w19 ⟨rfl, hb⟩; refine ⟨_, rfl, ?_⟩; have n0_ := Aside0.mk (below_step (by repeat (first | (with_reducible first | exact HB.out | apply below_alloc | apply pw_below_drewN | apply below_drew1) | exact HB.out)) hb); clear HB; have HB := n0_; clear n0_; (try clear hb); (try clear hb2); (try clear hk); (try clear hi)))
                  go_ret
                  exact ⟨by first | rfl | (simp [errW_none, errW_some] <;> rfl) | (simp only [← hji11]; first | rfl | (simp [errW_none, errW_some] <;> rfl)) | (simp [*, errW_none, errW_some] <;> rfl), by repeat (first | (with_reducible first | exact HB.out | apply below_alloc | apply pw_below_drewN | apply below_drew1) | exact HB.out)⟩
                · rw [if_neg c17] at H
                  have c17b0 : decide ((ji11) ≤ 1) = false := decide_eq_false c17
                  clear c17
                  obtain rfl := Option.some.inj H
                  go_wp2_with (first | ((with_reducible refine gate_callee (f := 32) rfl ?_); refine goesL_ (some 32) rfl rfl Try.func32 (by kernel_rfl) rfl #[.int .u8 a0] rfl (by (try simp only [List.map_toArray, List.map_cons, List.map_nil]); first | done | rfl | (simp only [List.length_drop, List.length_take]; rfl)) ?_; (with_reducible refine (value_Kind.calls a0 t322 _ A12.out).mono ?_); rintro e w20 ⟨rfl, hb⟩; refine ⟨_, rfl, ?_⟩; have n0_ := Aside0.mk (below_step (by repeat (first | (with_reducible first | exact HB.out | apply below_alloc | apply pw_below_drewN | apply below_drew1) | exact HB.out)) hb); clear HB; have HB := n0_; clear n0_; (try clear hb); (try clear hb2); (try clear hk); (try clear hi)) | ((with_reducible refine gate_callee (f := 44) rfl ?_); refine goesL_ (some 34) rfl rfl Try.func44 (by kernel_rfl) rfl #[.int .u8 a0] rfl (by (try simp only [List.map_toArray, List.map_cons, List.map_nil]); first | done | rfl | (simp only [List.length_drop, List.length_take]; rfl)) ?_; (with_reducible refine (board_Kind.calls a0 t323 _ A13.out).mono ?_); rintro e w' ⟨rfl, ⟨nd, rfl⟩⟩; refine ⟨_, rfl, ?_⟩) | ((with_reducible refine gate_callee (f := 60) rfl ?_); refine goesL_ (some 39) rfl rfl Try.func60 (by kernel_rfl) rfl #[.int .i64 a1, .int .i64 t319] rfl (by (try simp only [List.map_toArray, List.map_cons, List.map_nil]); first | done | rfl | (simp only [List.length_drop, List.length_take]; rfl)) ?_; (with_reducible refine (place_Over.calls kj8 a1 t319 true _ A15.out).mono ?_); rintro e w21 ⟨rfl, hb⟩; refine ⟨_, rfl, ?_⟩; have n0_ := Aside0.mk (below_step (by repeat (first | (with_reducible first | exact HB.out | apply below_alloc | apply pw_below_drewN | apply below_drew1) | exact HB.out)) hb); clear HB; have HB := n0_; clear n0_; (try clear hb); (try clear hb2); (try clear hk); (try clear hi)))
                  go_ret
                  exact ⟨by first | rfl | (simp [errW_none, errW_some] <;> rfl) | (simp only [← hji11]; first | rfl | (simp [errW_none, errW_some] <;> rfl)) | (simp [*, errW_none, errW_some] <;> rfl), by repeat (first | (with_reducible first | exact HB.out | apply below_alloc | apply pw_below_drewN | apply below_drew1) | exact HB.out)⟩
              · replace c16 := Bool.eq_false_iff.mpr c16
                subst c16
                have H1 : (some t322) = some r := by rw [if_neg (show ¬ (false = true) by decide)] at H; exact H
                clear H
                have H := H1
                clear H1
                obtain rfl := Option.some.inj H
                go_wp2_with (first | ((with_reducible refine gate_callee (f := 32) rfl ?_); refine goesL_ (some 32) rfl rfl Try.func32 (by kernel_rfl) rfl #[.int .u8 a0] rfl (by (try simp only [List.map_toArray, List.map_cons, List.map_nil]); first | done | rfl | (simp only [List.length_drop, List.length_take]; rfl)) ?_; (with_reducible refine (value_Kind.calls a0 t322 _ A12.out).mono ?_); rintro e w22 ⟨rfl, hb⟩; refine ⟨_, rfl, ?_⟩; have n0_ := Aside0.mk (below_step (by repeat (first | (with_reducible first | exact HB.out | apply below_alloc | apply pw_below_drewN | apply below_drew1) | exact HB.out)) hb); clear HB; have HB := n0_; clear n0_; (try clear hb); (try clear hb2); (try clear hk); (try clear hi)) | ((with_reducible refine gate_callee (f := 44) rfl ?_); refine goesL_ (some 34) rfl rfl Try.func44 (by kernel_rfl) rfl #[.int .u8 a0] rfl (by (try simp only [List.map_toArray, List.map_cons, List.map_nil]); first | done | rfl | (simp only [List.length_drop, List.length_take]; rfl)) ?_; (with_reducible refine (board_Kind.calls a0 t323 _ A13.out).mono ?_); rintro e w' ⟨rfl, ⟨nd, rfl⟩⟩; refine ⟨_, rfl, ?_⟩) | ((with_reducible refine gate_callee (f := 60) rfl ?_); refine goesL_ (some 39) rfl rfl Try.func60 (by kernel_rfl) rfl #[.int .i64 a1, .int .i64 t319] rfl (by (try simp only [List.map_toArray, List.map_cons, List.map_nil]); first | done | rfl | (simp only [List.length_drop, List.length_take]; rfl)) ?_; (with_reducible refine (place_Over.calls kj8 a1 t319 false _ A15.out).mono ?_); rintro e w23 ⟨rfl, hb⟩; refine ⟨_, rfl, ?_⟩; have n0_ := Aside0.mk (below_step (by repeat (first | (with_reducible first | exact HB.out | apply below_alloc | apply pw_below_drewN | apply below_drew1) | exact HB.out)) hb); clear HB; have HB := n0_; clear n0_; (try clear hb); (try clear hb2); (try clear hk); (try clear hi)))
                go_ret
                exact ⟨by first | rfl | (simp [errW_none, errW_some] <;> rfl) | (simp only [← hji11]; first | rfl | (simp [errW_none, errW_some] <;> rfl)) | (simp [*, errW_none, errW_some] <;> rfl), by repeat (first | (with_reducible first | exact HB.out | apply below_alloc | apply pw_below_drewN | apply below_drew1) | exact HB.out)⟩
            · rw [if_neg c14] at H
              have c14b0 : (t323 == 80) = false := beq_eq_false_iff_ne.mpr c14
              have c14b1 : (t323 != 80) = true := bne_iff_ne.mpr c14
              by_cases c24 : t323 = 78
              · rw [if_pos c24] at H
                have c24b0 : (t323 == 78) = true := beq_iff_eq.mpr c24
                have c24b1 : (t323 != 78) = false := bne_eq_false_iff_eq.mpr c24
                clear c24
                obtain rfl := Option.some.inj H
                go_wp2_with (first | ((with_reducible refine gate_callee (f := 32) rfl ?_); refine goesL_ (some 32) rfl rfl Try.func32 (by kernel_rfl) rfl #[.int .u8 a0] rfl (by (try simp only [List.map_toArray, List.map_cons, List.map_nil]); first | done | rfl | (simp only [List.length_drop, List.length_take]; rfl)) ?_; (with_reducible refine (value_Kind.calls a0 t322 _ A12.out).mono ?_); rintro e w25 ⟨rfl, hb⟩; refine ⟨_, rfl, ?_⟩; have n0_ := Aside0.mk (below_step (by repeat (first | (with_reducible first | exact HB.out | apply below_alloc | apply pw_below_drewN | apply below_drew1) | exact HB.out)) hb); clear HB; have HB := n0_; clear n0_; (try clear hb); (try clear hb2); (try clear hk); (try clear hi)) | ((with_reducible refine gate_callee (f := 44) rfl ?_); refine goesL_ (some 34) rfl rfl Try.func44 (by kernel_rfl) rfl #[.int .u8 a0] rfl (by (try simp only [List.map_toArray, List.map_cons, List.map_nil]); first | done | rfl | (simp only [List.length_drop, List.length_take]; rfl)) ?_; (with_reducible refine (board_Kind.calls a0 t323 _ A13.out).mono ?_); rintro e w' ⟨rfl, ⟨nd, rfl⟩⟩; refine ⟨_, rfl, ?_⟩))
                go_ret
                exact ⟨by first | rfl | (simp [errW_none, errW_some] <;> rfl) | (simp only [← hji11]; first | rfl | (simp [errW_none, errW_some] <;> rfl)) | (simp [*, errW_none, errW_some] <;> rfl), by repeat (first | (with_reducible first | exact HB.out | apply below_alloc | apply pw_below_drewN | apply below_drew1) | exact HB.out)⟩
              · rw [if_neg c24] at H
                have c24b0 : (t323 == 78) = false := beq_eq_false_iff_ne.mpr c24
                have c24b1 : (t323 != 78) = true := bne_iff_ne.mpr c24
                by_cases c26 : t323 = 67
                · rw [if_pos c26] at H
                  have c26b0 : (t323 == 67) = true := beq_iff_eq.mpr c26
                  have c26b1 : (t323 != 67) = false := bne_eq_false_iff_eq.mpr c26
                  clear c26
                  obtain rfl := Option.some.inj H
                  go_wp2_with (first | ((with_reducible refine gate_callee (f := 32) rfl ?_); refine goesL_ (some 32) rfl rfl Try.func32 (by kernel_rfl) rfl #[.int .u8 a0] rfl (by (try simp only [List.map_toArray, List.map_cons, List.map_nil]); first | done | rfl | (simp only [List.length_drop, List.length_take]; rfl)) ?_; (with_reducible refine (value_Kind.calls a0 t322 _ A12.out).mono ?_); rintro e w27 ⟨rfl, hb⟩; refine ⟨_, rfl, ?_⟩; have n0_ := Aside0.mk (below_step (by repeat (first | (with_reducible first | exact HB.out | apply below_alloc | apply pw_below_drewN | apply below_drew1) | exact HB.out)) hb); clear HB; have HB := n0_; clear n0_; (try clear hb); (try clear hb2); (try clear hk); (try clear hi)) | ((with_reducible refine gate_callee (f := 44) rfl ?_); refine goesL_ (some 34) rfl rfl Try.func44 (by kernel_rfl) rfl #[.int .u8 a0] rfl (by (try simp only [List.map_toArray, List.map_cons, List.map_nil]); first | done | rfl | (simp only [List.length_drop, List.length_take]; rfl)) ?_; (with_reducible refine (board_Kind.calls a0 t323 _ A13.out).mono ?_); rintro e w' ⟨rfl, ⟨nd, rfl⟩⟩; refine ⟨_, rfl, ?_⟩))
                  go_ret
                  exact ⟨by first | rfl | (simp [errW_none, errW_some] <;> rfl) | (simp only [← hji11]; first | rfl | (simp [errW_none, errW_some] <;> rfl)) | (simp [*, errW_none, errW_some] <;> rfl), by repeat (first | (with_reducible first | exact HB.out | apply below_alloc | apply pw_below_drewN | apply below_drew1) | exact HB.out)⟩
                · rw [if_neg c26] at H
                  have c26b0 : (t323 == 67) = false := beq_eq_false_iff_ne.mpr c26
                  have c26b1 : (t323 != 67) = true := bne_iff_ne.mpr c26
                  by_cases c28 : t323 = 82
                  · rw [if_pos c28] at H
                    have c28b0 : (t323 == 82) = true := beq_iff_eq.mpr c28
                    have c28b1 : (t323 != 82) = false := bne_eq_false_iff_eq.mpr c28
                    clear c28
                    obtain rfl := Option.some.inj H
                    go_wp2_with (first | ((with_reducible refine gate_callee (f := 32) rfl ?_); refine goesL_ (some 32) rfl rfl Try.func32 (by kernel_rfl) rfl #[.int .u8 a0] rfl (by (try simp only [List.map_toArray, List.map_cons, List.map_nil]); first | done | rfl | (simp only [List.length_drop, List.length_take]; rfl)) ?_; (with_reducible refine (value_Kind.calls a0 t322 _ A12.out).mono ?_); rintro e w29 ⟨rfl, hb⟩; refine ⟨_, rfl, ?_⟩; have n0_ := Aside0.mk (below_step (by repeat (first | (with_reducible first | exact HB.out | apply below_alloc | apply pw_below_drewN | apply below_drew1) | exact HB.out)) hb); clear HB; have HB := n0_; clear n0_; (try clear hb); (try clear hb2); (try clear hk); (try clear hi)) | ((with_reducible refine gate_callee (f := 44) rfl ?_); refine goesL_ (some 34) rfl rfl Try.func44 (by kernel_rfl) rfl #[.int .u8 a0] rfl (by (try simp only [List.map_toArray, List.map_cons, List.map_nil]); first | done | rfl | (simp only [List.length_drop, List.length_take]; rfl)) ?_; (with_reducible refine (board_Kind.calls a0 t323 _ A13.out).mono ?_); rintro e w' ⟨rfl, ⟨nd, rfl⟩⟩; refine ⟨_, rfl, ?_⟩))
                    go_ret
                    exact ⟨by first | rfl | (simp [errW_none, errW_some] <;> rfl) | (simp only [← hji11]; first | rfl | (simp [errW_none, errW_some] <;> rfl)) | (simp [*, errW_none, errW_some] <;> rfl), by repeat (first | (with_reducible first | exact HB.out | apply below_alloc | apply pw_below_drewN | apply below_drew1) | exact HB.out)⟩
                  · rw [if_neg c28] at H
                    have c28b0 : (t323 == 82) = false := beq_eq_false_iff_ne.mpr c28
                    have c28b1 : (t323 != 82) = true := bne_iff_ne.mpr c28
                    obtain rfl := Option.some.inj H
                    go_wp2_with (first | ((with_reducible refine gate_callee (f := 32) rfl ?_); refine goesL_ (some 32) rfl rfl Try.func32 (by kernel_rfl) rfl #[.int .u8 a0] rfl (by (try simp only [List.map_toArray, List.map_cons, List.map_nil]); first | done | rfl | (simp only [List.length_drop, List.length_take]; rfl)) ?_; (with_reducible refine (value_Kind.calls a0 t322 _ A12.out).mono ?_); rintro e w30 ⟨rfl, hb⟩; refine ⟨_, rfl, ?_⟩; have n0_ := Aside0.mk (below_step (by repeat (first | (with_reducible first | exact HB.out | apply below_alloc | apply pw_below_drewN | apply below_drew1) | exact HB.out)) hb); clear HB; have HB := n0_; clear n0_; (try clear hb); (try clear hb2); (try clear hk); (try clear hi)) | ((with_reducible refine gate_callee (f := 44) rfl ?_); refine goesL_ (some 34) rfl rfl Try.func44 (by kernel_rfl) rfl #[.int .u8 a0] rfl (by (try simp only [List.map_toArray, List.map_cons, List.map_nil]); first | done | rfl | (simp only [List.length_drop, List.length_take]; rfl)) ?_; (with_reducible refine (board_Kind.calls a0 t323 _ A13.out).mono ?_); rintro e w' ⟨rfl, ⟨nd, rfl⟩⟩; refine ⟨_, rfl, ?_⟩))
                    go_ret
                    exact ⟨by first | rfl | (simp [errW_none, errW_some] <;> rfl) | (simp only [← hji11]; first | rfl | (simp [errW_none, errW_some] <;> rfl)) | (simp [*, errW_none, errW_some] <;> rfl), by repeat (first | (with_reducible first | exact HB.out | apply below_alloc | apply pw_below_drewN | apply below_drew1) | exact HB.out)⟩

/-! ### riverbankref14_Piece: function 35 -/
mutual
def riverbankref14_Piece.j0 : Nat → Int → Int → Int → Bool → Option (Int)
  | 0, _, _, _, _ => none
  | k + 1, x0, x1, x5, x20 => if x20 = true then (some 0) else ((riverbankref02_File.f x1).bind fun t326 => ((riverbankref02_Rank.f x1).bind fun t327 => (if x5 = 1 then (riverbankref14_Piece.j1 k x0 x1 x5 t326 (wrap64 (9 - t327))) else (riverbankref14_Piece.j1 k x0 x1 x5 t326 t327))))
def riverbankref14_Piece.j1 : Nat → Int → Int → Int → Int → Int → Option (Int)
  | 0, _, _, _, _, _ => none
  | k + 1, x0, x1, x5, x6, x7 => (riverbankref14_Kind.f k x0).bind fun t328 => ((riverbankref02_Kind.f k x0).bind fun t329 => (if t329 = 80 then ((riverbankref03_Over.f x1 x5).bind fun t330 => (if t330 = true then (if x6 ≥ 3 then (if x6 ≤ 5 then (some (wrap64 ((wrap64 (t328 + 40)) + 10))) else (some (wrap64 (t328 + 40)))) else (some (wrap64 (t328 + 40)))) else (some t328))) else (if t329 = 78 then (some (wrap64 ((wrap64 ((wrap64 (t328 + x7)) + 4)) - (mx (wrap64 (x6 - 4)) (wrap64 (4 - x6)))))) else (if t329 = 67 then (some (wrap64 ((wrap64 ((wrap64 (t328 + x7)) + 4)) - (mx (wrap64 (x6 - 4)) (wrap64 (4 - x6)))))) else (if t329 = 82 then (some (wrap64 ((wrap64 ((wrap64 (t328 + x7)) + 4)) - (mx (wrap64 (x6 - 4)) (wrap64 (4 - x6)))))) else (some t328))))))
end
def riverbankref14_Piece.f (k : Nat) (a0 : Int) (a1 : Int) : Option (Int) := (riverbankref02_Side.f k a0).bind fun t325 => (if t325 < 0 then (riverbankref14_Piece.j0 k a0 a1 t325 true) else (if a1 < 0 then (riverbankref14_Piece.j0 k a0 a1 t325 true) else (riverbankref14_Piece.j0 k a0 a1 t325 (decide (a1 > 89)))))
theorem riverbankref14_Piece.mono_l : ∀ k, (∀ y0 y1 y2 y3, LeO (riverbankref14_Piece.j0 k y0 y1 y2 y3) (riverbankref14_Piece.j0 (k + 1) y0 y1 y2 y3)) ∧ (∀ y0 y1 y2 y3 y4, LeO (riverbankref14_Piece.j1 k y0 y1 y2 y3 y4) (riverbankref14_Piece.j1 (k + 1) y0 y1 y2 y3 y4))
  | 0 => ⟨fun _ _ _ _ r h => by simp [riverbankref14_Piece.j0] at h, fun _ _ _ _ _ r h => by simp [riverbankref14_Piece.j1] at h⟩
  | k + 1 => by
    obtain ⟨ih0, ih1⟩ := riverbankref14_Piece.mono_l k
    refine ⟨?_, ?_⟩
    · intro y0 y1 y2 y3
      unfold riverbankref14_Piece.j0
      repeat' first
      | (with_reducible exact ih0 _ _ _ _)
      | (with_reducible exact ih1 _ _ _ _ _)
      | (with_reducible exact riverbankref02_Kind.mono _ _)
      | (with_reducible exact riverbankref02_Side.mono _ _)
      | (with_reducible exact riverbankref14_Kind.mono _ _)
      | (with_reducible exact LeO.refl _)
      | (with_reducible exact LeO.none _)
      | (with_reducible refine LeO.ite ?_ ?_)
      | (with_reducible refine LeO.bind ?_ (fun _ => ?_))
      | exact ih0 _ _ _ _
      | exact ih1 _ _ _ _ _
      | exact riverbankref02_Kind.mono _ _
      | exact riverbankref02_Side.mono _ _
      | exact riverbankref14_Kind.mono _ _
      | exact LeO.none _
      | refine LeO.ite ?_ ?_
      | refine LeO.bind ?_ (fun _ => ?_)
    · intro y0 y1 y2 y3 y4
      unfold riverbankref14_Piece.j1
      repeat' first
      | (with_reducible exact ih0 _ _ _ _)
      | (with_reducible exact ih1 _ _ _ _ _)
      | (with_reducible exact riverbankref02_Kind.mono _ _)
      | (with_reducible exact riverbankref02_Side.mono _ _)
      | (with_reducible exact riverbankref14_Kind.mono _ _)
      | (with_reducible exact LeO.refl _)
      | (with_reducible exact LeO.none _)
      | (with_reducible refine LeO.ite ?_ ?_)
      | (with_reducible refine LeO.bind ?_ (fun _ => ?_))
      | exact ih0 _ _ _ _
      | exact ih1 _ _ _ _ _
      | exact riverbankref02_Kind.mono _ _
      | exact riverbankref02_Side.mono _ _
      | exact riverbankref14_Kind.mono _ _
      | exact LeO.none _
      | refine LeO.ite ?_ ?_
      | refine LeO.bind ?_ (fun _ => ?_)
theorem riverbankref14_Piece.mono : ∀ a0 a1 k, LeO (riverbankref14_Piece.f k a0 a1) (riverbankref14_Piece.f (k + 1) a0 a1) := by
  intro a0 a1 k
  obtain ⟨ih0, ih1⟩ := riverbankref14_Piece.mono_l k
  unfold riverbankref14_Piece.f
  repeat' first
      | (with_reducible exact ih0 _ _ _ _)
      | (with_reducible exact ih1 _ _ _ _ _)
      | (with_reducible exact riverbankref02_Kind.mono _ _)
      | (with_reducible exact riverbankref02_Side.mono _ _)
      | (with_reducible exact riverbankref14_Kind.mono _ _)
      | (with_reducible exact LeO.refl _)
      | (with_reducible exact LeO.none _)
      | (with_reducible refine LeO.ite ?_ ?_)
      | (with_reducible refine LeO.bind ?_ (fun _ => ?_))
      | exact ih0 _ _ _ _
      | exact ih1 _ _ _ _ _
      | exact riverbankref02_Kind.mono _ _
      | exact riverbankref02_Side.mono _ _
      | exact riverbankref14_Kind.mono _ _
      | exact LeO.none _
      | refine LeO.ite ?_ ?_
      | refine LeO.bind ?_ (fun _ => ?_)
set_option maxHeartbeats 8000000 in
set_option maxRecDepth 100000 in
theorem riverbankref14_Piece.calls (k : Nat) (a0 : Int) (a1 : Int) (r : Int) (w : World) (h : riverbankref14_Piece.f k a0 a1 = some r) :
    Calls Try.prog 35 #[.int .u8 a0, .int .i64 a1] w fun e w' => e = .returned (.int .i64 r) ∧ Below w.heap.size w w' := by
  have HB := Aside0.mk (Below.refl w.heap.size w)
  have H : ((riverbankref02_Side.f k a0).bind fun t325 => (if t325 < 0 then (riverbankref14_Piece.j0 k a0 a1 t325 true) else (if a1 < 0 then (riverbankref14_Piece.j0 k a0 a1 t325 true) else (riverbankref14_Piece.j0 k a0 a1 t325 (decide (a1 > 89)))))) = some r := h
  clear h
  replace H := Option.bind_eq_some_iff.mp H
  obtain ⟨t325, A30, H⟩ := H
  replace H : (if t325 < 0 then (riverbankref14_Piece.j0 k a0 a1 t325 true) else (if a1 < 0 then (riverbankref14_Piece.j0 k a0 a1 t325 true) else (riverbankref14_Piece.j0 k a0 a1 t325 (decide (a1 > 89))))) = some r := H
  have A3 := Aside0.mk A30
  clear A30
  have HC4 := Aside0.mk H
  clear H
  go_enter Try.func35, Try.ntmps35
  go_upto_region 2 with (first | ((with_reducible refine gate_callee (f := 26) rfl ?_); refine goesL_ (some 10) rfl rfl Try.func26 (by kernel_rfl) rfl #[.int .u8 a0] rfl (by (try simp only [List.map_toArray, List.map_cons, List.map_nil]); first | done | rfl | (simp only [List.length_drop, List.length_take]; rfl)) ?_; (with_reducible refine (riverbankref02_Side.calls k a0 t325 _ A3.out).mono ?_); rintro e w' ⟨rfl, ⟨nd, rfl⟩⟩; refine ⟨_, rfl, ?_⟩))
  (try simp only [Act.put, List.setIfInBounds_toArray, List.set_cons_zero, List.set_cons_succ])
  go_cut [20] (fun v20 wc => ∃ (kq : Nat) (x20_3 : Bool), v20 = .bool x20_3 ∧ Aside0 (riverbankref14_Piece.j0 kq a0 a1 t325 x20_3 = some r) ∧ Aside0 (kq ≤ k) ∧ Aside0 (Below w.heap.size w wc))
  case first =>
    have H := HC4.out
    clear HC4
    by_cases c5 : t325 < 0
    · rw [if_pos c5] at H
      have c5b0 : decide (t325 < 0) = true := decide_eq_true c5
      clear c5
      (first | rw [c5b0] | (simp only [i64_w, i32_w]; rw [c5b0]) | skip)
      have H' := Aside0.mk H
      clear H
      go_wp2
      go_meet
      case rel => exact ⟨_, (true), (by first | rfl | (simp; done) | (simp [*]; done)), H', ⟨by first | omega | exact Nat.le_refl _⟩, ⟨by repeat (first | (with_reducible first | exact HB.out | apply below_alloc | apply pw_below_drewN | apply below_drew1) | exact HB.out)⟩⟩
    · rw [if_neg c5] at H
      have c5b0 : decide (t325 < 0) = false := decide_eq_false c5
      clear c5
      (first | rw [c5b0] | (simp only [i64_w, i32_w]; rw [c5b0]) | skip)
      by_cases c6 : a1 < 0
      · rw [if_pos c6] at H
        have c6b0 : decide (a1 < 0) = true := decide_eq_true c6
        clear c6
        have H' := Aside0.mk H
        clear H
        go_wp2
        go_meet
        case rel => exact ⟨_, (true), (by first | rfl | (simp; done) | (simp [*]; done)), H', ⟨by first | omega | exact Nat.le_refl _⟩, ⟨by repeat (first | (with_reducible first | exact HB.out | apply below_alloc | apply pw_below_drewN | apply below_drew1) | exact HB.out)⟩⟩
      · rw [if_neg c6] at H
        have c6b0 : decide (a1 < 0) = false := decide_eq_false c6
        clear c6
        have H' := Aside0.mk H
        clear H
        go_wp2
        go_meet
        case rel => exact ⟨_, (decide (a1 > 89)), (by first | rfl | (simp; done) | (simp [*]; done)), H', ⟨by first | omega | exact Nat.le_refl _⟩, ⟨by repeat (first | (with_reducible first | exact HB.out | apply below_alloc | apply pw_below_drewN | apply below_drew1) | exact HB.out)⟩⟩
  case rest =>
    clear HC4
    try clear c2
    try clear p2
    try clear c3
    try clear c5
    try clear c5b0
    try clear c6
    try clear c6b0
    obtain ⟨kq, x20_3, rfl, HA, HJ3, HB⟩ := hcut
    cases kq with
    | zero => exact absurd HA.out (by simp [riverbankref14_Piece.j0])
    | succ kj3 =>
      have H := HA.out
      clear HA
      simp only [riverbankref14_Piece.j0] at H
      by_cases c7 : x20_3 = true
      · subst c7
        have H1 : (some 0) = some r := by rw [if_pos rfl] at H; exact H
        clear H
        have H := H1
        clear H1
        obtain rfl := Option.some.inj H
        go_wp2
        go_ret
        exact ⟨by first | rfl | (simp [errW_none, errW_some] <;> rfl) | (simp [*, errW_none, errW_some] <;> rfl), by repeat (first | (with_reducible first | exact HB.out | apply below_alloc | apply pw_below_drewN | apply below_drew1) | exact HB.out)⟩
      · replace c7 := Bool.eq_false_iff.mpr c7
        subst c7
        have H1 : ((riverbankref02_File.f a1).bind fun t326 => ((riverbankref02_Rank.f a1).bind fun t327 => (if t325 = 1 then (riverbankref14_Piece.j1 kj3 a0 a1 t325 t326 (wrap64 (9 - t327))) else (riverbankref14_Piece.j1 kj3 a0 a1 t325 t326 t327)))) = some r := by rw [if_neg (show ¬ (false = true) by decide)] at H; exact H
        clear H
        have H := H1
        clear H1
        replace H := Option.bind_eq_some_iff.mp H
        obtain ⟨t326, A80, H⟩ := H
        replace H : ((riverbankref02_Rank.f a1).bind fun t327 => (if t325 = 1 then (riverbankref14_Piece.j1 kj3 a0 a1 t325 t326 (wrap64 (9 - t327))) else (riverbankref14_Piece.j1 kj3 a0 a1 t325 t326 t327))) = some r := H
        have A8 := Aside0.mk A80
        clear A80
        replace H := Option.bind_eq_some_iff.mp H
        obtain ⟨t327, A90, H⟩ := H
        replace H : (if t325 = 1 then (riverbankref14_Piece.j1 kj3 a0 a1 t325 t326 (wrap64 (9 - t327))) else (riverbankref14_Piece.j1 kj3 a0 a1 t325 t326 t327)) = some r := H
        have A9 := Aside0.mk A90
        clear A90
        have HC10 := Aside0.mk H
        clear H
        go_upto_if 26 with (first | ((with_reducible refine gate_callee (f := 61) rfl ?_); refine goesL_ (some 22) rfl rfl Try.func61 (by kernel_rfl) rfl #[.int .i64 a1] rfl (by (try simp only [List.map_toArray, List.map_cons, List.map_nil]); first | done | rfl | (simp only [List.length_drop, List.length_take]; rfl)) ?_; (with_reducible refine (riverbankref02_File.calls a1 t326 _ A8.out).mono ?_); rintro e w' ⟨rfl, ⟨nd, rfl⟩⟩; refine ⟨_, rfl, ?_⟩) | ((with_reducible refine gate_callee (f := 62) rfl ?_); refine goesL_ (some 24) rfl rfl Try.func62 (by kernel_rfl) rfl #[.int .i64 a1] rfl (by (try simp only [List.map_toArray, List.map_cons, List.map_nil]); first | done | rfl | (simp only [List.length_drop, List.length_take]; rfl)) ?_; (with_reducible refine (riverbankref02_Rank.calls a1 t327 _ A9.out).mono ?_); rintro e w' ⟨rfl, ⟨nd, rfl⟩⟩; refine ⟨_, rfl, ?_⟩))
        (try simp only [Act.put, List.setIfInBounds_toArray, List.set_cons_zero, List.set_cons_succ])
        go_cut [7] (fun v7 wc => ∃ (kq : Nat) (x7_9 : Int), v7 = .int .i64 x7_9 ∧ Aside0 (riverbankref14_Piece.j1 kq a0 a1 t325 t326 x7_9 = some r) ∧ Aside0 (kq ≤ kj3) ∧ Aside0 (Below w.heap.size w wc))
        case first =>
          have H := HC10.out
          clear HC10
          by_cases c11 : t325 = 1
          · rw [if_pos c11] at H
            have c11b0 : (t325 == 1) = true := beq_iff_eq.mpr c11
            have c11b1 : (t325 != 1) = false := bne_eq_false_iff_eq.mpr c11
            clear c11
            (first | rw [c11b0] | (simp only [i64_w, i32_w]; rw [c11b0]) | skip)
            have H' := Aside0.mk H
            clear H
            go_wp2
            go_meet
            case rel => exact ⟨_, (wrap64 (9 - t327)), (by first | rfl | (simp; done) | (simp [*]; done)), H', ⟨by have := HJ3.out; first | omega | exact Nat.le_refl _⟩, ⟨by repeat (first | (with_reducible first | exact HB.out | apply below_alloc | apply pw_below_drewN | apply below_drew1) | exact HB.out)⟩⟩
          · rw [if_neg c11] at H
            have c11b0 : (t325 == 1) = false := beq_eq_false_iff_ne.mpr c11
            have c11b1 : (t325 != 1) = true := bne_iff_ne.mpr c11
            (first | rw [c11b0] | (simp only [i64_w, i32_w]; rw [c11b0]) | skip)
            have H' := Aside0.mk H
            clear H
            go_wp2
            go_meet
            case rel => exact ⟨_, (t327), (by first | rfl | (simp; done) | (simp [*]; done)), H', ⟨by have := HJ3.out; first | omega | exact Nat.le_refl _⟩, ⟨by repeat (first | (with_reducible first | exact HB.out | apply below_alloc | apply pw_below_drewN | apply below_drew1) | exact HB.out)⟩⟩
        case rest =>
          clear HC10
          try clear c1
          try clear c2
          try clear p2
          try clear c3
          try clear c5
          try clear c5b0
          try clear c6
          try clear c6b0
          try clear p6
          try clear c7
          try clear c11
          try clear c11b0
          try clear c11b1
          try clear p2
          obtain ⟨kq, x7_9, rfl, HA, HJ9, HB⟩ := hcut
          cases kq with
          | zero => exact absurd HA.out (by simp [riverbankref14_Piece.j1])
          | succ kj9 =>
            have H := HA.out
            clear HA
            simp only [riverbankref14_Piece.j1] at H
            replace H := Option.bind_eq_some_iff.mp H
            obtain ⟨t328, A120, H⟩ := H
            replace H : ((riverbankref02_Kind.f kj9 a0).bind fun t329 => (if t329 = 80 then ((riverbankref03_Over.f a1 t325).bind fun t330 => (if t330 = true then (if t326 ≥ 3 then (if t326 ≤ 5 then (some (wrap64 ((wrap64 (t328 + 40)) + 10))) else (some (wrap64 (t328 + 40)))) else (some (wrap64 (t328 + 40)))) else (some t328))) else (if t329 = 78 then (some (wrap64 ((wrap64 ((wrap64 (t328 + x7_9)) + 4)) - (mx (wrap64 (t326 - 4)) (wrap64 (4 - t326)))))) else (if t329 = 67 then (some (wrap64 ((wrap64 ((wrap64 (t328 + x7_9)) + 4)) - (mx (wrap64 (t326 - 4)) (wrap64 (4 - t326)))))) else (if t329 = 82 then (some (wrap64 ((wrap64 ((wrap64 (t328 + x7_9)) + 4)) - (mx (wrap64 (t326 - 4)) (wrap64 (4 - t326)))))) else (some t328)))))) = some r := H
            have A12 := Aside0.mk A120
            clear A120
            replace H := Option.bind_eq_some_iff.mp H
            obtain ⟨t329, A130, H⟩ := H
            replace H : (if t329 = 80 then ((riverbankref03_Over.f a1 t325).bind fun t330 => (if t330 = true then (if t326 ≥ 3 then (if t326 ≤ 5 then (some (wrap64 ((wrap64 (t328 + 40)) + 10))) else (some (wrap64 (t328 + 40)))) else (some (wrap64 (t328 + 40)))) else (some t328))) else (if t329 = 78 then (some (wrap64 ((wrap64 ((wrap64 (t328 + x7_9)) + 4)) - (mx (wrap64 (t326 - 4)) (wrap64 (4 - t326)))))) else (if t329 = 67 then (some (wrap64 ((wrap64 ((wrap64 (t328 + x7_9)) + 4)) - (mx (wrap64 (t326 - 4)) (wrap64 (4 - t326)))))) else (if t329 = 82 then (some (wrap64 ((wrap64 ((wrap64 (t328 + x7_9)) + 4)) - (mx (wrap64 (t326 - 4)) (wrap64 (4 - t326)))))) else (some t328))))) = some r := H
            have A13 := Aside0.mk A130
            clear A130
            by_cases c14 : t329 = 80
            · rw [if_pos c14] at H
              have c14b0 : (t329 == 80) = true := beq_iff_eq.mpr c14
              have c14b1 : (t329 != 80) = false := bne_eq_false_iff_eq.mpr c14
              clear c14
              replace H := Option.bind_eq_some_iff.mp H
              obtain ⟨t330, A150, H⟩ := H
              replace H : (if t330 = true then (if t326 ≥ 3 then (if t326 ≤ 5 then (some (wrap64 ((wrap64 (t328 + 40)) + 10))) else (some (wrap64 (t328 + 40)))) else (some (wrap64 (t328 + 40)))) else (some t328)) = some r := H
              have A15 := Aside0.mk A150
              clear A150
              by_cases c16 : t330 = true
              · subst c16
                have H1 : (if t326 ≥ 3 then (if t326 ≤ 5 then (some (wrap64 ((wrap64 (t328 + 40)) + 10))) else (some (wrap64 (t328 + 40)))) else (some (wrap64 (t328 + 40)))) = some r := by rw [if_pos rfl] at H; exact H
                clear H
                have H := H1
                clear H1
                by_cases c17 : t326 ≥ 3
                · rw [if_pos c17] at H
                  have c17b0 : decide (3 ≤ t326) = true := decide_eq_true c17
                  clear c17
                  by_cases c18 : t326 ≤ 5
                  · rw [if_pos c18] at H
                    have c18b0 : decide (t326 ≤ 5) = true := decide_eq_true c18
                    clear c18
                    obtain rfl := Option.some.inj H
                    go_wp2_with (first | ((with_reducible refine gate_callee (f := 33) rfl ?_); refine goesL_ (some 30) rfl rfl Try.func33 (by kernel_rfl) rfl #[.int .u8 a0] rfl (by (try simp only [List.map_toArray, List.map_cons, List.map_nil]); first | done | rfl | (simp only [List.length_drop, List.length_take]; rfl)) ?_; (with_reducible refine (riverbankref14_Kind.calls kj9 a0 t328 _ A12.out).mono ?_); rintro e w' ⟨rfl, ⟨nd, rfl⟩⟩; refine ⟨_, rfl, ?_⟩) | ((with_reducible refine gate_callee (f := 57) rfl ?_); refine goesL_ (some 32) rfl rfl Try.func57 (by kernel_rfl) rfl #[.int .u8 a0] rfl (by (try simp only [List.map_toArray, List.map_cons, List.map_nil]); first | done | rfl | (simp only [List.length_drop, List.length_take]; rfl)) ?_; (with_reducible refine (riverbankref02_Kind.calls kj9 a0 t329 _ A13.out).mono ?_); rintro e w' ⟨rfl, ⟨nd, rfl⟩⟩; refine ⟨_, rfl, ?_⟩) | ((with_reducible refine gate_callee (f := 63) rfl ?_); refine goesL_ (some 37) rfl rfl Try.func63 (by kernel_rfl) rfl #[.int .i64 a1, .int .i64 t325] rfl (by (try simp only [List.map_toArray, List.map_cons, List.map_nil]); first | done | rfl | (simp only [List.length_drop, List.length_take]; rfl)) ?_; (with_reducible refine (riverbankref03_Over.calls a1 t325 true _ A15.out).mono ?_); rintro e w' ⟨rfl, ⟨nd, rfl⟩⟩; refine ⟨_, rfl, ?_⟩))
                    go_ret
                    exact ⟨by first | rfl | (simp [errW_none, errW_some] <;> rfl) | (simp [*, errW_none, errW_some] <;> rfl), by repeat (first | (with_reducible first | exact HB.out | apply below_alloc | apply pw_below_drewN | apply below_drew1) | exact HB.out)⟩
                  · rw [if_neg c18] at H
                    have c18b0 : decide (t326 ≤ 5) = false := decide_eq_false c18
                    clear c18
                    obtain rfl := Option.some.inj H
                    go_wp2_with (first | ((with_reducible refine gate_callee (f := 33) rfl ?_); refine goesL_ (some 30) rfl rfl Try.func33 (by kernel_rfl) rfl #[.int .u8 a0] rfl (by (try simp only [List.map_toArray, List.map_cons, List.map_nil]); first | done | rfl | (simp only [List.length_drop, List.length_take]; rfl)) ?_; (with_reducible refine (riverbankref14_Kind.calls kj9 a0 t328 _ A12.out).mono ?_); rintro e w' ⟨rfl, ⟨nd, rfl⟩⟩; refine ⟨_, rfl, ?_⟩) | ((with_reducible refine gate_callee (f := 57) rfl ?_); refine goesL_ (some 32) rfl rfl Try.func57 (by kernel_rfl) rfl #[.int .u8 a0] rfl (by (try simp only [List.map_toArray, List.map_cons, List.map_nil]); first | done | rfl | (simp only [List.length_drop, List.length_take]; rfl)) ?_; (with_reducible refine (riverbankref02_Kind.calls kj9 a0 t329 _ A13.out).mono ?_); rintro e w' ⟨rfl, ⟨nd, rfl⟩⟩; refine ⟨_, rfl, ?_⟩) | ((with_reducible refine gate_callee (f := 63) rfl ?_); refine goesL_ (some 37) rfl rfl Try.func63 (by kernel_rfl) rfl #[.int .i64 a1, .int .i64 t325] rfl (by (try simp only [List.map_toArray, List.map_cons, List.map_nil]); first | done | rfl | (simp only [List.length_drop, List.length_take]; rfl)) ?_; (with_reducible refine (riverbankref03_Over.calls a1 t325 true _ A15.out).mono ?_); rintro e w' ⟨rfl, ⟨nd, rfl⟩⟩; refine ⟨_, rfl, ?_⟩))
                    go_ret
                    exact ⟨by first | rfl | (simp [errW_none, errW_some] <;> rfl) | (simp [*, errW_none, errW_some] <;> rfl), by repeat (first | (with_reducible first | exact HB.out | apply below_alloc | apply pw_below_drewN | apply below_drew1) | exact HB.out)⟩
                · rw [if_neg c17] at H
                  have c17b0 : decide (3 ≤ t326) = false := decide_eq_false c17
                  clear c17
                  obtain rfl := Option.some.inj H
                  go_wp2_with (first | ((with_reducible refine gate_callee (f := 33) rfl ?_); refine goesL_ (some 30) rfl rfl Try.func33 (by kernel_rfl) rfl #[.int .u8 a0] rfl (by (try simp only [List.map_toArray, List.map_cons, List.map_nil]); first | done | rfl | (simp only [List.length_drop, List.length_take]; rfl)) ?_; (with_reducible refine (riverbankref14_Kind.calls kj9 a0 t328 _ A12.out).mono ?_); rintro e w' ⟨rfl, ⟨nd, rfl⟩⟩; refine ⟨_, rfl, ?_⟩) | ((with_reducible refine gate_callee (f := 57) rfl ?_); refine goesL_ (some 32) rfl rfl Try.func57 (by kernel_rfl) rfl #[.int .u8 a0] rfl (by (try simp only [List.map_toArray, List.map_cons, List.map_nil]); first | done | rfl | (simp only [List.length_drop, List.length_take]; rfl)) ?_; (with_reducible refine (riverbankref02_Kind.calls kj9 a0 t329 _ A13.out).mono ?_); rintro e w' ⟨rfl, ⟨nd, rfl⟩⟩; refine ⟨_, rfl, ?_⟩) | ((with_reducible refine gate_callee (f := 63) rfl ?_); refine goesL_ (some 37) rfl rfl Try.func63 (by kernel_rfl) rfl #[.int .i64 a1, .int .i64 t325] rfl (by (try simp only [List.map_toArray, List.map_cons, List.map_nil]); first | done | rfl | (simp only [List.length_drop, List.length_take]; rfl)) ?_; (with_reducible refine (riverbankref03_Over.calls a1 t325 true _ A15.out).mono ?_); rintro e w' ⟨rfl, ⟨nd, rfl⟩⟩; refine ⟨_, rfl, ?_⟩))
                  go_ret
                  exact ⟨by first | rfl | (simp [errW_none, errW_some] <;> rfl) | (simp [*, errW_none, errW_some] <;> rfl), by repeat (first | (with_reducible first | exact HB.out | apply below_alloc | apply pw_below_drewN | apply below_drew1) | exact HB.out)⟩
              · replace c16 := Bool.eq_false_iff.mpr c16
                subst c16
                have H1 : (some t328) = some r := by rw [if_neg (show ¬ (false = true) by decide)] at H; exact H
                clear H
                have H := H1
                clear H1
                obtain rfl := Option.some.inj H
                go_wp2_with (first | ((with_reducible refine gate_callee (f := 33) rfl ?_); refine goesL_ (some 30) rfl rfl Try.func33 (by kernel_rfl) rfl #[.int .u8 a0] rfl (by (try simp only [List.map_toArray, List.map_cons, List.map_nil]); first | done | rfl | (simp only [List.length_drop, List.length_take]; rfl)) ?_; (with_reducible refine (riverbankref14_Kind.calls kj9 a0 t328 _ A12.out).mono ?_); rintro e w' ⟨rfl, ⟨nd, rfl⟩⟩; refine ⟨_, rfl, ?_⟩) | ((with_reducible refine gate_callee (f := 57) rfl ?_); refine goesL_ (some 32) rfl rfl Try.func57 (by kernel_rfl) rfl #[.int .u8 a0] rfl (by (try simp only [List.map_toArray, List.map_cons, List.map_nil]); first | done | rfl | (simp only [List.length_drop, List.length_take]; rfl)) ?_; (with_reducible refine (riverbankref02_Kind.calls kj9 a0 t329 _ A13.out).mono ?_); rintro e w' ⟨rfl, ⟨nd, rfl⟩⟩; refine ⟨_, rfl, ?_⟩) | ((with_reducible refine gate_callee (f := 63) rfl ?_); refine goesL_ (some 37) rfl rfl Try.func63 (by kernel_rfl) rfl #[.int .i64 a1, .int .i64 t325] rfl (by (try simp only [List.map_toArray, List.map_cons, List.map_nil]); first | done | rfl | (simp only [List.length_drop, List.length_take]; rfl)) ?_; (with_reducible refine (riverbankref03_Over.calls a1 t325 false _ A15.out).mono ?_); rintro e w' ⟨rfl, ⟨nd, rfl⟩⟩; refine ⟨_, rfl, ?_⟩))
                go_ret
                exact ⟨by first | rfl | (simp [errW_none, errW_some] <;> rfl) | (simp [*, errW_none, errW_some] <;> rfl), by repeat (first | (with_reducible first | exact HB.out | apply below_alloc | apply pw_below_drewN | apply below_drew1) | exact HB.out)⟩
            · rw [if_neg c14] at H
              have c14b0 : (t329 == 80) = false := beq_eq_false_iff_ne.mpr c14
              have c14b1 : (t329 != 80) = true := bne_iff_ne.mpr c14
              by_cases c19 : t329 = 78
              · rw [if_pos c19] at H
                have c19b0 : (t329 == 78) = true := beq_iff_eq.mpr c19
                have c19b1 : (t329 != 78) = false := bne_eq_false_iff_eq.mpr c19
                clear c19
                obtain ⟨ji20, hji20⟩ : ∃ j_ : Int, (mx (wrap64 (t326 - 4)) (wrap64 (4 - t326))) = j_ := ⟨_, rfl⟩
                replace H : (some (wrap64 ((wrap64 ((wrap64 (t328 + x7_9)) + 4)) - (ji20)))) = some r := by first | (rw [hji20] at H; exact H) | (simp only [hji20] at H ⊢; exact H)
                (try rw [hji20] at A12)
                (try rw [hji20] at A13)
                have hji20_ : (if (wrap64 (t326 - 4)) < (wrap64 (4 - t326)) then (wrap64 (4 - t326)) else (wrap64 (t326 - 4))) = ji20 := hji20
                obtain rfl := Option.some.inj H
                go_wp2_with (first | ((with_reducible refine gate_callee (f := 33) rfl ?_); refine goesL_ (some 30) rfl rfl Try.func33 (by kernel_rfl) rfl #[.int .u8 a0] rfl (by (try simp only [List.map_toArray, List.map_cons, List.map_nil]); first | done | rfl | (simp only [List.length_drop, List.length_take]; rfl)) ?_; (with_reducible refine (riverbankref14_Kind.calls kj9 a0 t328 _ A12.out).mono ?_); rintro e w' ⟨rfl, ⟨nd, rfl⟩⟩; refine ⟨_, rfl, ?_⟩) | ((with_reducible refine gate_callee (f := 57) rfl ?_); refine goesL_ (some 32) rfl rfl Try.func57 (by kernel_rfl) rfl #[.int .u8 a0] rfl (by (try simp only [List.map_toArray, List.map_cons, List.map_nil]); first | done | rfl | (simp only [List.length_drop, List.length_take]; rfl)) ?_; (with_reducible refine (riverbankref02_Kind.calls kj9 a0 t329 _ A13.out).mono ?_); rintro e w' ⟨rfl, ⟨nd, rfl⟩⟩; refine ⟨_, rfl, ?_⟩))
                go_ret
                exact ⟨by first | rfl | (simp [errW_none, errW_some] <;> rfl) | (simp only [← hji20]; first | rfl | (simp [errW_none, errW_some] <;> rfl)) | (simp [*, errW_none, errW_some] <;> rfl), by repeat (first | (with_reducible first | exact HB.out | apply below_alloc | apply pw_below_drewN | apply below_drew1) | exact HB.out)⟩
              · rw [if_neg c19] at H
                have c19b0 : (t329 == 78) = false := beq_eq_false_iff_ne.mpr c19
                have c19b1 : (t329 != 78) = true := bne_iff_ne.mpr c19
                by_cases c21 : t329 = 67
                · rw [if_pos c21] at H
                  have c21b0 : (t329 == 67) = true := beq_iff_eq.mpr c21
                  have c21b1 : (t329 != 67) = false := bne_eq_false_iff_eq.mpr c21
                  clear c21
                  obtain ⟨ji22, hji22⟩ : ∃ j_ : Int, (mx (wrap64 (t326 - 4)) (wrap64 (4 - t326))) = j_ := ⟨_, rfl⟩
                  replace H : (some (wrap64 ((wrap64 ((wrap64 (t328 + x7_9)) + 4)) - (ji22)))) = some r := by first | (rw [hji22] at H; exact H) | (simp only [hji22] at H ⊢; exact H)
                  (try rw [hji22] at A12)
                  (try rw [hji22] at A13)
                  have hji22_ : (if (wrap64 (t326 - 4)) < (wrap64 (4 - t326)) then (wrap64 (4 - t326)) else (wrap64 (t326 - 4))) = ji22 := hji22
                  obtain rfl := Option.some.inj H
                  go_wp2_with (first | ((with_reducible refine gate_callee (f := 33) rfl ?_); refine goesL_ (some 30) rfl rfl Try.func33 (by kernel_rfl) rfl #[.int .u8 a0] rfl (by (try simp only [List.map_toArray, List.map_cons, List.map_nil]); first | done | rfl | (simp only [List.length_drop, List.length_take]; rfl)) ?_; (with_reducible refine (riverbankref14_Kind.calls kj9 a0 t328 _ A12.out).mono ?_); rintro e w' ⟨rfl, ⟨nd, rfl⟩⟩; refine ⟨_, rfl, ?_⟩) | ((with_reducible refine gate_callee (f := 57) rfl ?_); refine goesL_ (some 32) rfl rfl Try.func57 (by kernel_rfl) rfl #[.int .u8 a0] rfl (by (try simp only [List.map_toArray, List.map_cons, List.map_nil]); first | done | rfl | (simp only [List.length_drop, List.length_take]; rfl)) ?_; (with_reducible refine (riverbankref02_Kind.calls kj9 a0 t329 _ A13.out).mono ?_); rintro e w' ⟨rfl, ⟨nd, rfl⟩⟩; refine ⟨_, rfl, ?_⟩))
                  go_ret
                  exact ⟨by first | rfl | (simp [errW_none, errW_some] <;> rfl) | (simp only [← hji22]; first | rfl | (simp [errW_none, errW_some] <;> rfl)) | (simp [*, errW_none, errW_some] <;> rfl), by repeat (first | (with_reducible first | exact HB.out | apply below_alloc | apply pw_below_drewN | apply below_drew1) | exact HB.out)⟩
                · rw [if_neg c21] at H
                  have c21b0 : (t329 == 67) = false := beq_eq_false_iff_ne.mpr c21
                  have c21b1 : (t329 != 67) = true := bne_iff_ne.mpr c21
                  by_cases c23 : t329 = 82
                  · rw [if_pos c23] at H
                    have c23b0 : (t329 == 82) = true := beq_iff_eq.mpr c23
                    have c23b1 : (t329 != 82) = false := bne_eq_false_iff_eq.mpr c23
                    clear c23
                    obtain ⟨ji24, hji24⟩ : ∃ j_ : Int, (mx (wrap64 (t326 - 4)) (wrap64 (4 - t326))) = j_ := ⟨_, rfl⟩
                    replace H : (some (wrap64 ((wrap64 ((wrap64 (t328 + x7_9)) + 4)) - (ji24)))) = some r := by first | (rw [hji24] at H; exact H) | (simp only [hji24] at H ⊢; exact H)
                    (try rw [hji24] at A12)
                    (try rw [hji24] at A13)
                    have hji24_ : (if (wrap64 (t326 - 4)) < (wrap64 (4 - t326)) then (wrap64 (4 - t326)) else (wrap64 (t326 - 4))) = ji24 := hji24
                    obtain rfl := Option.some.inj H
                    go_wp2_with (first | ((with_reducible refine gate_callee (f := 33) rfl ?_); refine goesL_ (some 30) rfl rfl Try.func33 (by kernel_rfl) rfl #[.int .u8 a0] rfl (by (try simp only [List.map_toArray, List.map_cons, List.map_nil]); first | done | rfl | (simp only [List.length_drop, List.length_take]; rfl)) ?_; (with_reducible refine (riverbankref14_Kind.calls kj9 a0 t328 _ A12.out).mono ?_); rintro e w' ⟨rfl, ⟨nd, rfl⟩⟩; refine ⟨_, rfl, ?_⟩) | ((with_reducible refine gate_callee (f := 57) rfl ?_); refine goesL_ (some 32) rfl rfl Try.func57 (by kernel_rfl) rfl #[.int .u8 a0] rfl (by (try simp only [List.map_toArray, List.map_cons, List.map_nil]); first | done | rfl | (simp only [List.length_drop, List.length_take]; rfl)) ?_; (with_reducible refine (riverbankref02_Kind.calls kj9 a0 t329 _ A13.out).mono ?_); rintro e w' ⟨rfl, ⟨nd, rfl⟩⟩; refine ⟨_, rfl, ?_⟩))
                    go_ret
                    exact ⟨by first | rfl | (simp [errW_none, errW_some] <;> rfl) | (simp only [← hji24]; first | rfl | (simp [errW_none, errW_some] <;> rfl)) | (simp [*, errW_none, errW_some] <;> rfl), by repeat (first | (with_reducible first | exact HB.out | apply below_alloc | apply pw_below_drewN | apply below_drew1) | exact HB.out)⟩
                  · rw [if_neg c23] at H
                    have c23b0 : (t329 == 82) = false := beq_eq_false_iff_ne.mpr c23
                    have c23b1 : (t329 != 82) = true := bne_iff_ne.mpr c23
                    obtain rfl := Option.some.inj H
                    go_wp2_with (first | ((with_reducible refine gate_callee (f := 33) rfl ?_); refine goesL_ (some 30) rfl rfl Try.func33 (by kernel_rfl) rfl #[.int .u8 a0] rfl (by (try simp only [List.map_toArray, List.map_cons, List.map_nil]); first | done | rfl | (simp only [List.length_drop, List.length_take]; rfl)) ?_; (with_reducible refine (riverbankref14_Kind.calls kj9 a0 t328 _ A12.out).mono ?_); rintro e w' ⟨rfl, ⟨nd, rfl⟩⟩; refine ⟨_, rfl, ?_⟩) | ((with_reducible refine gate_callee (f := 57) rfl ?_); refine goesL_ (some 32) rfl rfl Try.func57 (by kernel_rfl) rfl #[.int .u8 a0] rfl (by (try simp only [List.map_toArray, List.map_cons, List.map_nil]); first | done | rfl | (simp only [List.length_drop, List.length_take]; rfl)) ?_; (with_reducible refine (riverbankref02_Kind.calls kj9 a0 t329 _ A13.out).mono ?_); rintro e w' ⟨rfl, ⟨nd, rfl⟩⟩; refine ⟨_, rfl, ?_⟩))
                    go_ret
                    exact ⟨by first | rfl | (simp [errW_none, errW_some] <;> rfl) | (simp [*, errW_none, errW_some] <;> rfl), by repeat (first | (with_reducible first | exact HB.out | apply below_alloc | apply pw_below_drewN | apply below_drew1) | exact HB.out)⟩

end Go.Proofs.Ytmfbgcimfmgobaa.Print

-- of YtmfbgcimfmgobaaPrint31
-- Written by a program of this session (wip/gprint/gprint.py) over the kit's print; the parts marked GIVEN by hand.
namespace Go.Proofs.Ytmfbgcimfmgobaa.Print
open Go.RowKit Go.Proofs.YtmfbgcimfmgobaaW.PrintWords Go.Proofs.YtmfbgcimfmgobaaW.PrintLast Go.Proofs.YtmfbgcimfmgobaaW.PrintMore
attribute [local go_sem] max2_int min2_int max_two min_two max_three min_three max_four min_four   -- for this text's walks alone
set_option linter.unusedVariables false
set_option linter.unusedSimpArgs false
/-! GIVEN value_Of -/
-- GIVEN riverbank/value.Of
-- MAKES yes
-- IMPORT Derived.Deep.RegionWith
-- IMPORT Derived.Test.YtmfbgcimfmgobaaBytes
/-- What the first n squares are worth to a side. -/
def pieceN (s : ByteArray) (n : Nat) : Int := (value_Piece.f 200 (bt s n) n).getD 0
def sideSum (s : ByteArray) (side : Int) : Nat → Int
  | 0 => 0
  | n + 1 => if board_Side.f (bt s n) = some side then wrap64 (sideSum s side n + pieceN s n) else sideSum s side n
def value_Of.f (a0_0 : ByteArray) (a0_1 : Int) (a0_2 : Int) (a0_3 : Int) : Option (Int) := (board_Is.f a0_0).bind fun t => if t = true then (if a0_1 = 0 then some (wrap64 (sideSum a0_0 0 90 - sideSum a0_0 1 90)) else some (wrap64 (-wrap64 (sideSum a0_0 0 90 - sideSum a0_0 1 90)))) else some 0

theorem side_cases (c : Int) : board_Side.f c = some (-1) ∨ board_Side.f c = some 0 ∨ board_Side.f c = some 1 := by
  unfold board_Side.f strings_IndexByte.f
  simp only [Option.bind_some]
  split
  · exact .inr (.inl rfl)
  · split
    · exact .inr (.inr rfl)
    · exact .inl rfl
theorem bkind_some (c : Int) : ∃ v, board_Kind.f c = some v := by
  unfold board_Kind.f
  rcases side_cases c with h | h | h <;> rw [h] <;> simp only [Option.bind_some] <;> repeat (first | exact ⟨_, rfl⟩ | split)
theorem vkind_some (c : Int) : ∃ v, value_Kind.f c = some v := by
  unfold value_Kind.f strings_IndexByte.f
  obtain ⟨t, ht⟩ := bkind_some c
  rw [ht]; simp only [Option.bind_some]
  split <;> exact ⟨_, rfl⟩
theorem pover_some (k : Nat) (a b : Int) : ∃ v, place_Over.f (k + 1) a b = some v := by
  unfold place_Over.f place_seen.f place_spot_over.f
  simp only [place_seen.j0]
  repeat (first | exact ⟨_, rfl⟩ | split)
theorem bfile_some (a : Int) : ∃ v, board_File.f a = some v := by
  unfold board_File.f board_isSquare.f
  split <;> simp only [Option.bind_some] <;> split <;> exact ⟨_, rfl⟩
theorem brank_some (a : Int) : ∃ v, board_Rank.f a = some v := by
  unfold board_Rank.f board_isSquare.f
  split <;> simp only [Option.bind_some] <;> split <;> exact ⟨_, rfl⟩
theorem piece1_some (k : Nat) (a b c d e : Int) : ∃ v, value_Piece.j1 (k + 2) a b c d e = some v := by
  simp only [value_Piece.j1]
  obtain ⟨t, ht⟩ := vkind_some a
  obtain ⟨u, hu⟩ := bkind_some a
  obtain ⟨o, ho⟩ := pover_some k b c
  rw [ht]; simp only [Option.bind_some]
  rw [hu]; simp only [Option.bind_some]
  rw [ho]; simp only [Option.bind_some]
  repeat (first | exact ⟨_, rfl⟩ | split)
theorem piece_some (c : Int) (n : Nat) : ∃ v, value_Piece.f 200 c n = some v := by
  unfold value_Piece.f
  obtain ⟨s, hs⟩ : ∃ s, board_Side.f c = some s := by rcases side_cases c with h | h | h <;> exact ⟨_, h⟩
  obtain ⟨f, hf⟩ := bfile_some n
  obtain ⟨r, hr⟩ := brank_some n
  rw [hs]; simp only [Option.bind_some]
  rw [hf]; simp only [Option.bind_some]
  rw [hr]; simp only [Option.bind_some]
  simp only [value_Piece.j0]
  repeat (first | exact ⟨_, rfl⟩ | exact piece1_some _ _ _ _ _ _ | split)
theorem pieceN_is (s : ByteArray) (n : Nat) : value_Piece.f 200 (bt s n) n = some (pieceN s n) := by
  obtain ⟨v, hv⟩ := piece_some (bt s n) n
  unfold pieceN; rw [hv]; rfl

theorem two_cell {W : World} {B : Nat} {v u : Value} {t : TypeId} (h : W.heap[B]? = some (.cells #[v, u] t (0, 0))) : W.cell? ⟨B, 0, none⟩ = some v ∧ W.frozen? ⟨B, 0, none⟩ = false := by
  constructor <;> simp [World.cell?, World.frozen?, h]
theorem two_cell1 {W : World} {B : Nat} {v u : Value} {t : TypeId} (h : W.heap[B]? = some (.cells #[v, u] t (0, 0))) : W.cell? ⟨B, 1, none⟩ = some u ∧ W.frozen? ⟨B, 1, none⟩ = false := by
  constructor <;> simp [World.cell?, World.frozen?, h]
theorem cell_later_alloc2 {W : World} {a : Addr} {v : Value} (o : Obj) (h : W.cell? a = some v) : (W.alloc o).cell? a = some v :=
  (Below.cell (B := W.heap.size) ((Below.refl _ W).alloc (Nat.le_refl _) o) (p := a) (World.block_lt_of_cell? W _ h)).trans h

theorem cell_set_other (W : World) (B i C j : Nat) (u : Value) {v : Value} (hne : B ≠ C ∨ i ≠ j) (h : W.cell? ⟨C, j, none⟩ = some v) : (W.setCell ⟨B, i, none⟩ u).cell? ⟨C, j, none⟩ = some v :=
  (World.cell?_setCell_other W ⟨B, i, none⟩ ⟨C, j, none⟩ u (by intro e; injection e; omega)).trans h

set_option maxRecDepth 100000 in
set_option maxHeartbeats 4000000 in
theorem value_Of.board (a0_0 : ByteArray) (a0_1 : Int) (a0_2 : Int) (a0_3 : Int) (r : Int) (w : World) (hI : board_Is.f a0_0 = some true)
    (hr : r = if a0_1 = 0 then wrap64 (sideSum a0_0 0 90 - sideSum a0_0 1 90) else wrap64 (-wrap64 (sideSum a0_0 0 90 - sideSum a0_0 1 90))) :
    Calls Try.prog 37 #[.agg #[.string a0_0, .int .i64 a0_1, .int .i64 a0_2, .int .i64 a0_3]] w fun e w' => e = .returned (.int .i64 r) ∧ Below w.heap.size w w' := by
  have hsz : a0_0.size = 90 := by
    unfold board_Is.f at hI; have := Option.some.inj hI; simp at this; exact this.1
  have HR := Aside0.mk hr
  have HI := Aside0.mk hI
  clear hI hr
  have hs1 : a0_0.size ≤ 90 := by omega
  have hs2 : 90 ≤ a0_0.size := by omega
  clear hsz
  go_enter Try.func37, Try.ntmps37
  go_wp2_with fail
  refine (board_Is.calls _ true _ HI.out).mono ?_
  rintro e w1 ⟨rfl, hb1⟩
  have c0 : w1.cell? ⟨w.heap.size, 0, none⟩ = some (.string a0_0) := (hb1.cell (p := ⟨w.heap.size, 0, none⟩) (by simp)).trans (by simp)
  have c1 : w1.cell? ⟨w.heap.size, 1, none⟩ = some (.int .i64 a0_1) := (hb1.cell (p := ⟨w.heap.size, 1, none⟩) (by simp)).trans (by simp)
  have hB1 : Below w.heap.size w w1 := ((Below.refl _ w).alloc (Nat.le_refl _) _).trans (hb1.mono (by simp))
  have hz1 : w.heap.size + 1 ≤ w1.heap.size := by have := hb1.size; simp at this; omega
  clear hb1
  go_wp2
  have n0 := World.alloc_heap_new w1 (.cells #[.int .i64 0, .int .i64 0] 78)
  have e0 : (w1.alloc (.cells #[.int .i64 0, .int .i64 0] 78)).cell? ⟨w1.heap.size, 0, none⟩ = some (.int .i64 0) ∧ (w1.alloc (.cells #[.int .i64 0, .int .i64 0] 78)).frozen? ⟨w1.heap.size, 0, none⟩ = false := two_cell n0
  have e1 : (w1.alloc (.cells #[.int .i64 0, .int .i64 0] 78)).cell? ⟨w1.heap.size, 1, none⟩ = some (.int .i64 0) ∧ (w1.alloc (.cells #[.int .i64 0, .int .i64 0] 78)).frozen? ⟨w1.heap.size, 1, none⟩ = false := two_cell1 n0
  go_loopw [11] (fun i wr => ∃ k : Nat, i = .int .i64 k ∧ k ≤ 90 ∧ wr.cell? ⟨w.heap.size, 0, none⟩ = some (.string a0_0) ∧ wr.cell? ⟨w.heap.size, 1, none⟩ = some (.int .i64 a0_1) ∧
      (wr.cell? ⟨w1.heap.size, 0, none⟩ = some (.int .i64 (sideSum a0_0 0 k)) ∧ wr.frozen? ⟨w1.heap.size, 0, none⟩ = false) ∧ (wr.cell? ⟨w1.heap.size, 1, none⟩ = some (.int .i64 (sideSum a0_0 1 k)) ∧ wr.frozen? ⟨w1.heap.size, 1, none⟩ = false) ∧ Below w.heap.size w wr) (fun i _ => 90 - (intOf i).toNat)
  case atStart =>
    exact ⟨0, rfl, by omega, cell_later_alloc2 _ c0, cell_later_alloc2 _ c1, e0, e1, hB1.alloc hB1.size _⟩
  case round =>
    clear c0 c1 e0 e1 n0 hB1
    obtain ⟨k, rfl, hk, f0, f1, ⟨g0, z0⟩, ⟨g1, z1⟩, hB⟩ := hrel
    by_cases hlt : k < 90
    · have hk' : k < a0_0.size := by omega
      have ex : ((a0_0[k]'hk').toNat : Int) = bt a0_0 k := by simp [bt, hk']
      have hp := pieceN_is a0_0 k
      rw [← ex] at hp
      have hA : sideSum a0_0 0 (k + 1) = if board_Side.f (bt a0_0 k) = some 0 then wrap64 (sideSum a0_0 0 k + pieceN a0_0 k) else sideSum a0_0 0 k := rfl
      have hC : sideSum a0_0 1 (k + 1) = if board_Side.f (bt a0_0 k) = some 1 then wrap64 (sideSum a0_0 1 k + pieceN a0_0 k) else sideSum a0_0 1 k := rfl
      rw [← ex] at hA hC
      obtain ⟨x0, hx0⟩ : ∃ x, x = sideSum a0_0 0 k := ⟨_, rfl⟩
      obtain ⟨x1, hx1⟩ : ∃ x, x = sideSum a0_0 1 k := ⟨_, rfl⟩
      obtain ⟨p, hpe⟩ : ∃ x, x = pieceN a0_0 k := ⟨_, rfl⟩
      rw [← hx0, ← hpe] at hA
      rw [← hx1, ← hpe] at hC
      rw [← hx0] at g0
      rw [← hx1] at g1
      rw [← hpe] at hp
      have HP := Aside0.mk hp
      clear hx0 hx1 hpe hp ex
      rcases side_cases ((a0_0[k]'hk').toNat : Int) with hs | hs | hs
      · rw [hs, if_neg (by decide)] at hA
        rw [hs, if_neg (by decide)] at hC
        have HS := Aside0.mk hs
        have HA := Aside0.mk hA
        have HC := Aside0.mk hC
        clear hs hA hC
        go_wp2_with (go_at_call 43; (with_reducible refine (board_Side.calls _ (-1) _ HS.out).mono ?_); rintro e w' ⟨rfl, ⟨q, rfl⟩⟩)
        go_roundw
        case rel => exact ⟨k + 1, by go_num, by omega, f0, f1, ⟨by rw [HA.out]; exact g0, z0⟩, ⟨by rw [HC.out]; exact g1, z1⟩, ⟨hB.os, hB.tape, hB.output, hB.size, hB.block⟩⟩
        case measure => simp [intOf]; omega
      · rw [hs, if_pos rfl] at hA
        rw [hs, if_neg (by decide)] at hC
        have HS := Aside0.mk hs
        have HA := Aside0.mk hA
        have HC := Aside0.mk hC
        clear hs hA hC
        go_wp2_with (go_at_call 43; (with_reducible refine (board_Side.calls _ 0 _ HS.out).mono ?_); rintro e w' ⟨rfl, ⟨q, rfl⟩⟩)
        have l0 := World.block_lt_of_cell? wr _ f0
        have l1 := World.block_lt_of_cell? wr _ g0
        go_region_with ((go_at_call 34; (with_reducible refine (value_Piece.calls _ _ _ p _ HP.out).mono ?_); rintro e w3 ⟨rfl, hb3⟩; have f0' : w3.cell? ⟨w.heap.size, 0, none⟩ = some (.string a0_0) := (hb3.cell (p := ⟨w.heap.size, 0, none⟩) (by simpa using l0)).trans f0; have f1' : w3.cell? ⟨w.heap.size, 1, none⟩ = some (.int .i64 a0_1) := (hb3.cell (p := ⟨w.heap.size, 1, none⟩) (by simpa using l0)).trans f1; have g0' : w3.cell? ⟨w1.heap.size, 0, none⟩ = some (.int .i64 x0) := (hb3.cell (p := ⟨w1.heap.size, 0, none⟩) (by simpa using l1)).trans g0; have z0' : w3.frozen? ⟨w1.heap.size, 0, none⟩ = false := (hb3.frozen (p := ⟨w1.heap.size, 0, none⟩) (by simpa using l1)).trans z0; have g1' : w3.cell? ⟨w1.heap.size, 1, none⟩ = some (.int .i64 x1) := (hb3.cell (p := ⟨w1.heap.size, 1, none⟩) (by simpa using l1)).trans g1; have z1' : w3.frozen? ⟨w1.heap.size, 1, none⟩ = false := (hb3.frozen (p := ⟨w1.heap.size, 1, none⟩) (by simpa using l1)).trans z1; have hB3 : Below w.heap.size w w3 := below_past hB rfl hb3))
        all_goals
          have u0 := cell_set_other w3 w1.heap.size 0 w.heap.size 0 (.int .i64 (wrap64 (x0 + p))) (by omega) f0'
          have u1 := cell_set_other w3 w1.heap.size 0 w.heap.size 1 (.int .i64 (wrap64 (x0 + p))) (by omega) f1'
          have u2 := World.cell?_setCell_same' w3 ⟨w1.heap.size, 0, none⟩ (.int .i64 (wrap64 (x0 + p))) (by rw [g0']; rfl)
          have u3 := cell_set_other w3 w1.heap.size 0 w1.heap.size 1 (.int .i64 (wrap64 (x0 + p))) (by omega) g1'
          go_wp2
          go_roundw
          case rel => exact ⟨k + 1, by go_num, by omega, u0, u1, ⟨by rw [HA.out]; exact u2, by rw [World.frozen?_setCell]; exact z0'⟩, ⟨by rw [HC.out]; exact u3, by rw [World.frozen?_setCell]; exact z1'⟩, hB3.setCell (p := ⟨w1.heap.size, 0, none⟩) (by simp; omega) _⟩
          case measure => simp [intOf]; omega
      · rw [hs, if_neg (by decide)] at hA
        rw [hs, if_pos rfl] at hC
        have HS := Aside0.mk hs
        have HA := Aside0.mk hA
        have HC := Aside0.mk hC
        clear hs hA hC
        go_wp2_with (go_at_call 43; (with_reducible refine (board_Side.calls _ 1 _ HS.out).mono ?_); rintro e w' ⟨rfl, ⟨q, rfl⟩⟩)
        have l0 := World.block_lt_of_cell? wr _ f0
        have l1 := World.block_lt_of_cell? wr _ g0
        go_region_with ((go_at_call 34; (with_reducible refine (value_Piece.calls _ _ _ p _ HP.out).mono ?_); rintro e w3 ⟨rfl, hb3⟩; have f0' : w3.cell? ⟨w.heap.size, 0, none⟩ = some (.string a0_0) := (hb3.cell (p := ⟨w.heap.size, 0, none⟩) (by simpa using l0)).trans f0; have f1' : w3.cell? ⟨w.heap.size, 1, none⟩ = some (.int .i64 a0_1) := (hb3.cell (p := ⟨w.heap.size, 1, none⟩) (by simpa using l0)).trans f1; have g0' : w3.cell? ⟨w1.heap.size, 0, none⟩ = some (.int .i64 x0) := (hb3.cell (p := ⟨w1.heap.size, 0, none⟩) (by simpa using l1)).trans g0; have z0' : w3.frozen? ⟨w1.heap.size, 0, none⟩ = false := (hb3.frozen (p := ⟨w1.heap.size, 0, none⟩) (by simpa using l1)).trans z0; have g1' : w3.cell? ⟨w1.heap.size, 1, none⟩ = some (.int .i64 x1) := (hb3.cell (p := ⟨w1.heap.size, 1, none⟩) (by simpa using l1)).trans g1; have z1' : w3.frozen? ⟨w1.heap.size, 1, none⟩ = false := (hb3.frozen (p := ⟨w1.heap.size, 1, none⟩) (by simpa using l1)).trans z1; have hB3 : Below w.heap.size w w3 := below_past hB rfl hb3))
        all_goals
          have u0 := cell_set_other w3 w1.heap.size 1 w.heap.size 0 (.int .i64 (wrap64 (x1 + p))) (by omega) f0'
          have u1 := cell_set_other w3 w1.heap.size 1 w.heap.size 1 (.int .i64 (wrap64 (x1 + p))) (by omega) f1'
          have u2 := World.cell?_setCell_same' w3 ⟨w1.heap.size, 1, none⟩ (.int .i64 (wrap64 (x1 + p))) (by rw [g1']; rfl)
          have u3 := cell_set_other w3 w1.heap.size 1 w1.heap.size 0 (.int .i64 (wrap64 (x1 + p))) (by omega) g0'
          go_wp2
          go_roundw
          case rel => exact ⟨k + 1, by go_num, by omega, u0, u1, ⟨by rw [HA.out]; exact u3, by rw [World.frozen?_setCell]; exact z0'⟩, ⟨by rw [HC.out]; exact u2, by rw [World.frozen?_setCell]; exact z1'⟩, hB3.setCell (p := ⟨w1.heap.size, 1, none⟩) (by simp; omega) _⟩
          case measure => simp [intOf]; omega
    · obtain rfl : k = 90 := by omega
      have hr := HR.out
      obtain ⟨x0, hx0⟩ : ∃ x, x = sideSum a0_0 0 90 := ⟨_, rfl⟩
      obtain ⟨x1, hx1⟩ : ∃ x, x = sideSum a0_0 1 90 := ⟨_, rfl⟩
      rw [← hx0, ← hx1] at hr
      rw [← hx0] at g0
      rw [← hx1] at g1
      clear HR hx0 hx1
      by_cases hz : a0_1 = 0
      · rw [if_pos hz] at hr
        have hz0 : (a0_1 == 0) = true := by simp [hz]
        have hz0' : (a0_1 != 0) = false := by simp [hz]
        have HR := Aside0.mk hr
        clear hr hz
        go_wp2
        go_ret
        exact ⟨by rw [HR.out]; rfl, hB⟩
      · rw [if_neg hz] at hr
        have hz0 : (a0_1 == 0) = false := by simp [hz]
        have hz0' : (a0_1 != 0) = true := by simp [hz]
        have HR := Aside0.mk hr
        clear hr hz
        go_wp2
        go_ret
        exact ⟨by rw [HR.out]; rfl, hB⟩

set_option maxHeartbeats 1000000 in
theorem value_Of.other (a0_0 : ByteArray) (a0_1 : Int) (a0_2 : Int) (a0_3 : Int) (w : World) (hI : board_Is.f a0_0 = some false) :
    Calls Try.prog 37 #[.agg #[.string a0_0, .int .i64 a0_1, .int .i64 a0_2, .int .i64 a0_3]] w fun e w' => e = .returned (.int .i64 0) ∧ Below w.heap.size w w' := by
  have HI := Aside0.mk hI
  clear hI
  go_enter Try.func37, Try.ntmps37
  go_wp2_with (go_at_call 41; refine (board_Is.calls _ false _ HI.out).mono ?_; rintro e w1 ⟨rfl, hb1⟩)
  go_ret
  exact ⟨rfl, ((Below.refl _ w).alloc (Nat.le_refl _) _).trans (hb1.mono (by simp))⟩

theorem value_Of.calls (a0_0 : ByteArray) (a0_1 : Int) (a0_2 : Int) (a0_3 : Int) (r : Int) (w : World) (h : value_Of.f a0_0 a0_1 a0_2 a0_3 = some r) :
    Calls Try.prog 37 #[.agg #[.string a0_0, .int .i64 a0_1, .int .i64 a0_2, .int .i64 a0_3]] w fun e w' => e = .returned (.int .i64 r) ∧ Below w.heap.size w w' := by
  unfold value_Of.f at h
  obtain ⟨b, hb, h⟩ := Option.bind_eq_some_iff.mp h
  cases b with
  | true =>
    rw [if_pos rfl] at h
    refine value_Of.board _ _ _ _ r w hb ?_
    split at h
    · rename_i hz; rw [if_pos hz]; exact (Option.some.inj h).symm
    · rename_i hz; rw [if_neg hz]; exact (Option.some.inj h).symm
  | false => rw [if_neg (by decide)] at h; obtain rfl := Option.some.inj h; exact value_Of.other _ _ _ _ w hb

end Go.Proofs.Ytmfbgcimfmgobaa.Print
