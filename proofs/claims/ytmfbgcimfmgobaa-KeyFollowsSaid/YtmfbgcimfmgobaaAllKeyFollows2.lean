/- Merged by a program of this session (wip/gprint/merge.py): what this claim needs of this session's texts, each part as it was. -/
import Derived.Test.YtmfbgcimfmgobaaAllKeyFollows1
import Derived.Test.YtmfbgcimfmgobaaProg
import Derived.Below
import Derived.Deep.Draws
import Derived.Deep.AppendLies
import Derived.Maps.AppendAt
import Derived.OwnWalk
import Derived.Laws.BytesArg
import Derived.Laws.MakeOwn
import Derived.Laws.OwnMore
import Derived.Deep.OwnRows
import Derived.Tactics
import Derived.Lib.ConvBytes
import Derived.Laws.Slices
import Derived.WalkKit
import Derived.KernelRfl
import Derived.RowKit3
import Derived.Deep.LoopGhost
import Derived.Deep.QuietTactic
import Derived.BigQuiet
import Derived.WideLaws
import Derived.Deep.DeepCutAuto
import Derived.Deep.CutBlock
import Derived.Deep.RegionHeld3
import Derived.Laws.Rows
import Derived.Lib.AppendStr
import Derived.ArgAppend
import Derived.Laws.IdiomCopy
import Derived.OrdersHeld
import Derived.Laws.BitsLemmas
import Derived.RowKit
import Derived.Shelf.Small.Strs
import Derived.Shelf.Strings.Search1
import Derived.Shelf.GgClosure.StringsIndexFunc
import Derived.Ground.GgwProg
import Derived.Shelf.GgClosure.StringsIndexFuncTop
import Derived.RangeFuncNested
import Derived.RangeFuncLeaves
import Derived.RangeFuncBound
import Derived.Shelf.Abstract
import Derived.Shelf.RegionOpen
import Derived.OwnWalkIn
import Derived.TacticsInMore
import Derived.LoopNIn
import Derived.LoopIn
import Derived.Maps.OwnIn
import Derived.Laws.Bits64
import Derived.Laws.IdiomStrings
import Derived.Deep.RegionWith
import Derived.RegionTactic
import Derived.BigRegion
import Derived.WalkSpells
namespace Go.Proofs.Ytmfbgcimfmgobaa.KeyMath
end Go.Proofs.Ytmfbgcimfmgobaa.KeyMath
namespace Go.Proofs.Ytmfbgcimfmgobaa.KeyRef
end Go.Proofs.Ytmfbgcimfmgobaa.KeyRef
namespace Go.Proofs.Ytmfbgcimfmgobaa.Print
end Go.Proofs.Ytmfbgcimfmgobaa.Print
namespace Go.Proofs.Ytmfbgcimfmgobaa.Pure
end Go.Proofs.Ytmfbgcimfmgobaa.Pure
namespace Go.Proofs.Ytmfbgcimfmgobaa.RangeB
end Go.Proofs.Ytmfbgcimfmgobaa.RangeB
namespace Go.Proofs.Ytmfbgcimfmgobaa.TotMath
end Go.Proofs.Ytmfbgcimfmgobaa.TotMath

-- of YtmfbgcimfmgobaaPrint0
-- Written by a program of this session (wip/gprint/gprint.py) over the kit's print; the parts marked GIVEN by hand.
namespace Go.Proofs.Ytmfbgcimfmgobaa.Print
open Go.RowKit Go.Proofs.YtmfbgcimfmgobaaW.PrintWords Go.Proofs.YtmfbgcimfmgobaaW.PrintLast Go.Proofs.YtmfbgcimfmgobaaW.PrintMore
attribute [local go_sem] max2_int min2_int max_two min_two max_three min_three max_four min_four   -- for this text's walks alone
set_option linter.unusedVariables false
set_option linter.unusedSimpArgs false



def errW : Option Int → Value
  | none => .nilIface
  | some c => .iface 0 (.int .i64 c)
theorem errW_none : errW none = .nilIface := rfl
theorem errW_some (c : Int) : errW (some c) = .iface 0 (.int .i64 c) := rfl

theorem info3 : (Try.prog.info? 3).map (fun i => (i.zero, i.size, i.bytes)) = some (some (.int .i64 0), 1, 8) := by kernel_rfl
theorem info5 : (Try.prog.info? 5).map (fun i => (i.zero, i.size, i.bytes)) = some (some (.int .u8 0), 1, 1) := by kernel_rfl
theorem info22 : (Try.prog.info? 22).map (fun i => (i.zero, i.size, i.bytes)) = some (some (.int .u64 0), 1, 8) := by kernel_rfl
theorem info41 : (Try.prog.info? 41).map (fun i => (i.zero, i.size, i.bytes)) = some (some (.agg #[(.int .i64 0), (.int .i64 0)]), 2, 16) := by kernel_rfl
-- the values' own types
/-! #### struct type 41 -/
structure S41 where
  f0 : Int
  f1 : Int
def z41 : S41 := ⟨(0 : Int), (0 : Int)⟩
def k41 : Kd S41 := Kd.iso (Kd.pair (Kd.int .i64) (Kd.int .i64)) (fun x : S41 => (x.f0, x.f1))
theorem k41_open {w : World} {x : S41} {cs : List Value} (h : k41.K w x cs) : cs = [.int .i64 x.f0, .int .i64 x.f1] := by
  obtain ⟨_, _, rfl, rfl, rfl⟩ := h
  exact rfl
theorem k41_openM {w : World} {base : Nat} {ok : Nat → Prop} {x : S41} {cs : List Value} (h : k41.M w base ok x cs) : cs = [.int .i64 x.f0, .int .i64 x.f1] := by
  obtain ⟨_, _, rfl, rfl, rfl⟩ := h
  exact rfl
theorem k41_mk (w : World) (x : S41)  : k41.K w x [.int .i64 x.f0, .int .i64 x.f1] := ⟨[.int .i64 x.f0], [.int .i64 x.f1], rfl, rfl, rfl⟩
theorem k41_mkM (w : World) (base : Nat) (ok : Nat → Prop) (x : S41)  : k41.M w base ok x [.int .i64 x.f0, .int .i64 x.f1] := ⟨[.int .i64 x.f0], [.int .i64 x.f1], rfl, rfl, rfl⟩
def rd_T41 (xs : List S41) (i : Int) : S41 := xs.getD i.toNat z41
theorem at_T41 {w : World} {A : Option Addr} {n : Nat} {xs : List S41} (h : Kd.C k41 w A n xs) (i : Int) (h0 : 0 ≤ i) (h1 : i < n) : ∃ ad , A = some ad ∧ w.cell? (ad.add (i.toNat * 2)) = some (.int .i64 (rd_T41 xs i).f0) ∧ w.cell? ⟨(ad.add (i.toNat * 2)).block, (ad.add (i.toNat * 2)).off + 1, none⟩ = some (.int .i64 (rd_T41 xs i).f1) := by
  obtain ⟨ad, c, e, _, hK, hc0⟩ := Kd.C_get h z41 i h0 h1
  have hc : ∀ j u, c[j]? = some u → w.cell? (ad.add (i.toNat * 2 + j)) = some u := hc0
  obtain rfl := k41_open hK
  exact ⟨ad, e, hc 0 _ rfl, by rw [← add_field _ _ 1 (by omega)]; exact hc 1 _ rfl⟩

end Go.Proofs.Ytmfbgcimfmgobaa.Print

-- of YtmfbgcimfmgobaaShelf
/-
  DERIVED: THE SHELF's CONTRACTS AT THIS DUMP, IN PLAIN WORDS (tools/lay-plain.mjs out of 'TryShelf.lean', which tools/lay-shelf.mjs wrote): THE SAME DECLARATIONS UNDER THE SAME NAMES: 'import', 'namespace', 'open', 'def', 'theorem' AND NOTHING ELSE: no command of the shelf's: FOR A HAND-IN. Each laying: the table of numbers ('.._ren') and one theorem, a field a fact of the dump's own or the kernel's comparison; each contract: ONE APPLICATION.
-/
namespace Go.Proofs
open Go.Shelf
def Try.lays137_ren : Go.Shelf.Ren := ⟨fun | 137 => 56 | 217 => 77 | 266 => 91 | n => n, fun | 9 => 9 | 5 => 5 | 3 => 3 | n => n, fun | n => n⟩
theorem Try.lays137 : Go.Proofs.Lays.n137 Try.prog Try.lays137_ren := {
  mixed := by kernel_rfl
  f137 := Try.func56.trans (congrArg some (by kernel_rfl))
  f217 := Try.func77.trans (congrArg some (by kernel_rfl))
  f266 := Try.func91.trans (congrArg some (by kernel_rfl))
  t3 := Try.underlying3
  a3 := Try.isAgg3
  z3 := Try.sizeOf3
  v3 := Try.zeroValue3
  t5 := Try.underlying5
  a5 := Try.isAgg5
  z5 := Try.sizeOf5
  v5 := Try.zeroValue5
  t9 := Try.underlying9
  a9 := Try.isAgg9
  z9 := Try.sizeOf9
  v9 := Try.zeroValue9 }
open Go.RowKit in
/-- strings.IndexByte: "IndexByte returns the index of the first instance of c in s, or -1 if c is not present in s.": IT RETURNS 'Lib.indexByte s c'; the world is as it was. (LAID: no walk: one application.) -/
theorem Try.strings_IndexByte (s : ByteArray) (c : Int) (w : World) :
    Calls Try.prog 56 #[.string s, .int .u8 c] w fun e w' => e = .returned (.int .i64 (Lib.indexByte s.data.toList c.toNat.toUInt8)) ∧ w' = w := Any.strings_IndexByte Try.lays137 s c w
def Try.lays217_ren : Go.Shelf.Ren := ⟨fun | 217 => 77 | 266 => 91 | n => n, fun | 9 => 9 | 5 => 5 | 3 => 3 | n => n, fun | n => n⟩
theorem Try.lays217 : Go.Proofs.Lays.n217 Try.prog Try.lays217_ren := {
  mixed := by kernel_rfl
  f217 := Try.func77.trans (congrArg some (by kernel_rfl))
  f266 := Try.func91.trans (congrArg some (by kernel_rfl))
  t3 := Try.underlying3
  a3 := Try.isAgg3
  z3 := Try.sizeOf3
  v3 := Try.zeroValue3
  t5 := Try.underlying5
  a5 := Try.isAgg5
  z5 := Try.sizeOf5
  v5 := Try.zeroValue5
  t9 := Try.underlying9
  a9 := Try.isAgg9
  z9 := Try.sizeOf9
  v9 := Try.zeroValue9 }
open Go.RowKit Go.Lib in
/-- internal/stringslite.IndexByte (what strings.IndexByte calls): IT RETURNS 'Lib.indexByte s c'; the world is as it was. (LAID: no walk: one application.) -/
theorem Try.stringslite_IndexByte (s : ByteArray) (c : Int) (w : World) :
    Calls Try.prog 77 #[.string s, .int .u8 c] w fun e w' => e = .returned (.int .i64 (Lib.indexByte s.data.toList c.toNat.toUInt8)) ∧ w' = w := Any.stringslite_IndexByte Try.lays217 s c w
def Try.lays315_ren : Go.Shelf.Ren := ⟨fun | 315 => 82 | n => n, fun | 9 => 9 | 40 => 81 | 4 => 4 | 3 => 3 | 0 => 0 | 21 => 21 | n => n, fun | n => n⟩
theorem Try.lays315 : Go.Proofs.Lays.n315 Try.prog Try.lays315_ren := {
  mixed := by kernel_rfl
  f315 := Try.func82.trans (congrArg some (by kernel_rfl))
  t0 := Try.underlying0
  a0 := Try.isAgg0
  z0 := Try.sizeOf0
  v0 := Try.zeroValue0
  t3 := Try.underlying3
  a3 := Try.isAgg3
  z3 := Try.sizeOf3
  v3 := Try.zeroValue3
  t4 := Try.underlying4
  a4 := Try.isAgg4
  z4 := Try.sizeOf4
  v4 := Try.zeroValue4
  t9 := Try.underlying9
  a9 := Try.isAgg9
  z9 := Try.sizeOf9
  v9 := Try.zeroValue9
  t21 := Try.underlying21
  a21 := Try.isAgg21
  z21 := Try.sizeOf21
  v21 := Try.zeroValue21
  t40 := Try.underlying81
  a40 := Try.isAgg81
  z40 := Try.sizeOf81
  v40 := Try.zeroValue81 }
open Go.RowKit Go.Lib in
theorem Try.strings_indexFunc (g : Nat) (lb : Array Value) (eg : ∀ args w, (callFunc g args).run Try.prog w = .ok (.enter g args) w) (p : Nat → Bool) (truth : Bool) (s : ByteArray) (w : World) (hp : PredAt Try.prog g lb encR p w) :
    Calls Try.prog 82 #[.string s, .func (.func g) #[] lb, .bool truth] w fun e w' => e = .returned (.int .i64 (Lib.idxFunc p truth s)) ∧ Below w.heap.size w w' := Any.strings_indexFunc Try.lays315 g lb eg p truth s w hp
def Try.laysGw15_ren : Go.Shelf.Ren := ⟨fun | 15 => 64 | 20 => 82 | n => n, fun | 9 => 9 | 23 => 81 | 3 => 3 | 4 => 4 | 0 => 0 | 21 => 21 | n => n, fun | n => n⟩
theorem Try.laysGw15 : Go.Proofs.LaysGw.n15 Try.prog Try.laysGw15_ren := {
  mixed := by kernel_rfl
  f15 := Try.func64.trans (congrArg some (by kernel_rfl))
  f20 := Try.func82.trans (congrArg some (by kernel_rfl))
  t0 := Try.underlying0
  a0 := Try.isAgg0
  z0 := Try.sizeOf0
  v0 := Try.zeroValue0
  i0 := by kernel_rfl
  t3 := Try.underlying3
  a3 := Try.isAgg3
  z3 := Try.sizeOf3
  v3 := Try.zeroValue3
  i3 := by kernel_rfl
  t4 := Try.underlying4
  a4 := Try.isAgg4
  z4 := Try.sizeOf4
  v4 := Try.zeroValue4
  i4 := by kernel_rfl
  t9 := Try.underlying9
  a9 := Try.isAgg9
  z9 := Try.sizeOf9
  v9 := Try.zeroValue9
  i9 := by kernel_rfl
  t21 := Try.underlying21
  a21 := Try.isAgg21
  z21 := Try.sizeOf21
  v21 := Try.zeroValue21
  i21 := by kernel_rfl
  t23 := Try.underlying81
  a23 := Try.isAgg81
  z23 := Try.sizeOf81
  v23 := Try.zeroValue81
  i23 := by kernel_rfl }
open Go.RowKit Go.Lib in
theorem Try.strings_IndexFunc (g : Nat) (lb : Array Value) (eg : ∀ args w, (callFunc g args).run Try.prog w = .ok (.enter g args) w) (p : Nat → Bool) (s : ByteArray) (w : World) (hp : PredAt Try.prog g lb encR p w) :
    Calls Try.prog 64 #[.string s, .func (.func g) #[] lb] w fun e w' => e = .returned (.int .i64 (Lib.idxFunc p true s)) ∧ Below w.heap.size w w' := Any.strings_IndexFunc Try.laysGw15 g lb eg p s w hp
end Go.Proofs

-- of YtmfbgcimfmgobaaPrint2
-- Written by a program of this session (wip/gprint/gprint.py) over the kit's print; the parts marked GIVEN by hand.
namespace Go.Proofs.Ytmfbgcimfmgobaa.Print
open Go.RowKit Go.Proofs.YtmfbgcimfmgobaaW.PrintWords Go.Proofs.YtmfbgcimfmgobaaW.PrintLast Go.Proofs.YtmfbgcimfmgobaaW.PrintMore
attribute [local go_sem] max2_int min2_int max_two min_two max_three min_three max_four min_four   -- for this text's walks alone
set_option linter.unusedVariables false
set_option linter.unusedSimpArgs false
/-! GIVEN strings_IndexByte -/
-- GIVEN strings.IndexByte
-- MAKES no
-- IMPORT Derived.Test.YtmfbgcimfmgobaaShelf
def strings_IndexByte.f (a0 : ByteArray) (a1 : Int) : Option (Int) := some (Lib.indexByte a0.data.toList a1.toNat.toUInt8)
theorem strings_IndexByte.calls (a0 : ByteArray) (a1 : Int) (r : Int) (w : World) (h : strings_IndexByte.f a0 a1 = some r) :
    Calls Try.prog 56 #[.string a0, .int .u8 a1] w fun e w' => e = .returned (.int .i64 r) ∧ Drawn0 w w' := by
  obtain rfl := Option.some.inj h
  exact (Try.strings_IndexByte a0 a1 w).mono fun e w' ⟨he, hw⟩ => ⟨he, by subst hw; exact Drawn0.refl _⟩
theorem w64 (x : Int) (h0 : -9223372036854775808 ≤ x) (h1 : x ≤ 9223372036854775807) : wrap64 x = x := by unfold wrap64; omega
theorem idx_lt (l : List UInt8) (c : UInt8) : Lib.indexByte l c < l.length := by
  induction l with
  | nil => simp [Lib.indexByte]
  | cons b l ih =>
    unfold Lib.indexByte
    have := Lib.indexByte_ge l c
    have hl : ((b :: l).length : Int) = l.length + 1 := by simp
    rw [hl]
    split
    · omega
    · split <;> omega
theorem u8_all (p : UInt8 → Bool) (h : ∀ n : Fin 256, p (UInt8.ofNat n.val) = true) (b : UInt8) : p b = true := by
  have := h ⟨b.toNat, b.toNat_lt⟩
  simpa using this

end Go.Proofs.Ytmfbgcimfmgobaa.Print

-- of YtmfbgcimfmgobaaPrint3
-- Written by a program of this session (wip/gprint/gprint.py) over the kit's print; the parts marked GIVEN by hand.
namespace Go.Proofs.Ytmfbgcimfmgobaa.Print
open Go.RowKit Go.Proofs.YtmfbgcimfmgobaaW.PrintWords Go.Proofs.YtmfbgcimfmgobaaW.PrintLast Go.Proofs.YtmfbgcimfmgobaaW.PrintMore
attribute [local go_sem] max2_int min2_int max_two min_two max_three min_three max_four min_four   -- for this text's walks alone
set_option linter.unusedVariables false
set_option linter.unusedSimpArgs false
/-! ### board_isSquare: function 68 -/
def board_isSquare.f (a0 : Int) : Option (Bool) := if a0 ≥ 0 then (some (decide (a0 < 90))) else (some false)
set_option maxHeartbeats 8000000 in
set_option maxRecDepth 100000 in
theorem board_isSquare.calls (a0 : Int) (r : Bool) (w : World) (h : board_isSquare.f a0 = some r) :
    Calls Try.prog 68 #[.int .i64 a0] w fun e w' => e = .returned (.bool r) ∧ Drawn0 w w' := by
  have H : (if a0 ≥ 0 then (some (decide (a0 < 90))) else (some false)) = some r := h
  clear h
  by_cases c2 : a0 ≥ 0
  · rw [if_pos c2] at H
    have c2b0 : decide (0 ≤ a0) = true := decide_eq_true c2
    clear c2
    obtain rfl := Option.some.inj H
    go_enter Try.func68, Try.ntmps68
    go_wp2
    go_ret
    exact ⟨by first | rfl | (simp; done) | (simp [*]; done), by repeat (first | exact Drawn0.refl _ | apply Drawn0.step)⟩
  · rw [if_neg c2] at H
    have c2b0 : decide (0 ≤ a0) = false := decide_eq_false c2
    clear c2
    obtain rfl := Option.some.inj H
    go_enter Try.func68, Try.ntmps68
    go_wp2
    go_ret
    exact ⟨by first | rfl | (simp; done) | (simp [*]; done), by repeat (first | exact Drawn0.refl _ | apply Drawn0.step)⟩

/-! ### board_File: function 58 -/
def board_File.f (a0 : Int) : Option (Int) := (board_isSquare.f a0).bind fun t101 => (if t101 = true then (some (Int.tmod a0 9)) else (some (-1)))
set_option maxHeartbeats 8000000 in
set_option maxRecDepth 100000 in
theorem board_File.calls (a0 : Int) (r : Int) (w : World) (h : board_File.f a0 = some r) :
    Calls Try.prog 58 #[.int .i64 a0] w fun e w' => e = .returned (.int .i64 r) ∧ Drawn0 w w' := by
  have H : ((board_isSquare.f a0).bind fun t101 => (if t101 = true then (some (Int.tmod a0 9)) else (some (-1)))) = some r := h
  clear h
  replace H := Option.bind_eq_some_iff.mp H
  obtain ⟨t101, A20, H⟩ := H
  replace H : (if t101 = true then (some (Int.tmod a0 9)) else (some (-1))) = some r := H
  have A2 := Aside0.mk A20
  clear A20
  by_cases c3 : t101 = true
  · subst c3
    have H1 : (some (Int.tmod a0 9)) = some r := by rw [if_pos rfl] at H; exact H
    clear H
    have H := H1
    clear H1
    obtain rfl := Option.some.inj H
    go_enter Try.func58, Try.ntmps58
    go_wp2_with (first | ((with_reducible refine gate_callee (f := 68) rfl ?_); refine goesL_ (some 4) rfl rfl Try.func68 (by kernel_rfl) rfl #[.int .i64 a0] rfl (by (try simp only [List.map_toArray, List.map_cons, List.map_nil]); first | done | rfl | (simp only [List.length_drop, List.length_take]; rfl)) ?_; (with_reducible refine (board_isSquare.calls a0 true _ A2.out).mono ?_); rintro e w' ⟨rfl, ⟨nd, rfl⟩⟩; refine ⟨_, rfl, ?_⟩))
    go_ret
    exact ⟨by first | rfl | (simp; done) | (simp [*]; done), by repeat (first | exact Drawn0.refl _ | apply Drawn0.step)⟩
  · replace c3 := Bool.eq_false_iff.mpr c3
    subst c3
    have H1 : (some (-1)) = some r := by rw [if_neg (show ¬ (false = true) by decide)] at H; exact H
    clear H
    have H := H1
    clear H1
    obtain rfl := Option.some.inj H
    go_enter Try.func58, Try.ntmps58
    go_wp2_with (first | ((with_reducible refine gate_callee (f := 68) rfl ?_); refine goesL_ (some 4) rfl rfl Try.func68 (by kernel_rfl) rfl #[.int .i64 a0] rfl (by (try simp only [List.map_toArray, List.map_cons, List.map_nil]); first | done | rfl | (simp only [List.length_drop, List.length_take]; rfl)) ?_; (with_reducible refine (board_isSquare.calls a0 false _ A2.out).mono ?_); rintro e w' ⟨rfl, ⟨nd, rfl⟩⟩; refine ⟨_, rfl, ?_⟩))
    go_ret
    exact ⟨by first | rfl | (simp; done) | (simp [*]; done), by repeat (first | exact Drawn0.refl _ | apply Drawn0.step)⟩

/-! ### key_place: function 47 -/
def key_place.f (a0 : Int) (a1 : Int) : Option (Int) := (strings_IndexByte.f (⟨#[75, 65, 66, 78, 82, 67, 80, 107, 97, 98, 110, 114, 99, 112]⟩ : ByteArray) a0).bind fun t102 => (if t102 < 0 then (some 0) else ((board_File.f a1).bind fun t103 => (if t103 < 0 then (some 0) else (some (wrap64 ((wrap64 (1 + (wrap64 (90 * t102)))) + a1))))))
set_option maxHeartbeats 8000000 in
set_option maxRecDepth 100000 in
theorem key_place.calls (a0 : Int) (a1 : Int) (r : Int) (w : World) (h : key_place.f a0 a1 = some r) :
    Calls Try.prog 47 #[.int .u8 a0, .int .i64 a1] w fun e w' => e = .returned (.int .i64 r) ∧ Drawn0 w w' := by
  have H : ((strings_IndexByte.f (⟨#[75, 65, 66, 78, 82, 67, 80, 107, 97, 98, 110, 114, 99, 112]⟩ : ByteArray) a0).bind fun t102 => (if t102 < 0 then (some 0) else ((board_File.f a1).bind fun t103 => (if t103 < 0 then (some 0) else (some (wrap64 ((wrap64 (1 + (wrap64 (90 * t102)))) + a1))))))) = some r := h
  clear h
  replace H := Option.bind_eq_some_iff.mp H
  obtain ⟨t102, A30, H⟩ := H
  replace H : (if t102 < 0 then (some 0) else ((board_File.f a1).bind fun t103 => (if t103 < 0 then (some 0) else (some (wrap64 ((wrap64 (1 + (wrap64 (90 * t102)))) + a1)))))) = some r := H
  have A3 := Aside0.mk A30
  clear A30
  by_cases c4 : t102 < 0
  · rw [if_pos c4] at H
    have c4b0 : decide (t102 < 0) = true := decide_eq_true c4
    clear c4
    obtain rfl := Option.some.inj H
    go_enter Try.func47, Try.ntmps47
    go_wp2_with (first | ((with_reducible refine gate_callee (f := 56) rfl ?_); refine goesL_ (some 7) rfl rfl Try.func56 (by kernel_rfl) rfl #[.string (⟨#[75, 65, 66, 78, 82, 67, 80, 107, 97, 98, 110, 114, 99, 112]⟩ : ByteArray), .int .u8 a0] rfl (by (try simp only [List.map_toArray, List.map_cons, List.map_nil]); first | done | rfl | (simp only [List.length_drop, List.length_take]; rfl)) ?_; (with_reducible refine (strings_IndexByte.calls (⟨#[75, 65, 66, 78, 82, 67, 80, 107, 97, 98, 110, 114, 99, 112]⟩ : ByteArray) a0 t102 _ A3.out).mono ?_); rintro e w' ⟨rfl, ⟨nd, rfl⟩⟩; refine ⟨_, rfl, ?_⟩))
    go_ret
    exact ⟨by first | rfl | (simp; done) | (simp [*]; done), by repeat (first | exact Drawn0.refl _ | apply Drawn0.step)⟩
  · rw [if_neg c4] at H
    have c4b0 : decide (t102 < 0) = false := decide_eq_false c4
    clear c4
    replace H := Option.bind_eq_some_iff.mp H
    obtain ⟨t103, A50, H⟩ := H
    replace H : (if t103 < 0 then (some 0) else (some (wrap64 ((wrap64 (1 + (wrap64 (90 * t102)))) + a1)))) = some r := H
    have A5 := Aside0.mk A50
    clear A50
    by_cases c6 : t103 < 0
    · rw [if_pos c6] at H
      have c6b0 : decide (t103 < 0) = true := decide_eq_true c6
      clear c6
      obtain rfl := Option.some.inj H
      go_enter Try.func47, Try.ntmps47
      go_wp2_with (first | ((with_reducible refine gate_callee (f := 56) rfl ?_); refine goesL_ (some 7) rfl rfl Try.func56 (by kernel_rfl) rfl #[.string (⟨#[75, 65, 66, 78, 82, 67, 80, 107, 97, 98, 110, 114, 99, 112]⟩ : ByteArray), .int .u8 a0] rfl (by (try simp only [List.map_toArray, List.map_cons, List.map_nil]); first | done | rfl | (simp only [List.length_drop, List.length_take]; rfl)) ?_; (with_reducible refine (strings_IndexByte.calls (⟨#[75, 65, 66, 78, 82, 67, 80, 107, 97, 98, 110, 114, 99, 112]⟩ : ByteArray) a0 t102 _ A3.out).mono ?_); rintro e w' ⟨rfl, ⟨nd, rfl⟩⟩; refine ⟨_, rfl, ?_⟩) | (go_at_call 58; (with_reducible refine (board_File.calls a1 t103 _ A5.out).mono ?_); rintro e w' ⟨rfl, ⟨nd, rfl⟩⟩))
      go_ret
      exact ⟨by first | rfl | (simp; done) | (simp [*]; done), by repeat (first | exact Drawn0.refl _ | apply Drawn0.step)⟩
    · rw [if_neg c6] at H
      have c6b0 : decide (t103 < 0) = false := decide_eq_false c6
      clear c6
      obtain rfl := Option.some.inj H
      go_enter Try.func47, Try.ntmps47
      go_wp2_with (first | ((with_reducible refine gate_callee (f := 56) rfl ?_); refine goesL_ (some 7) rfl rfl Try.func56 (by kernel_rfl) rfl #[.string (⟨#[75, 65, 66, 78, 82, 67, 80, 107, 97, 98, 110, 114, 99, 112]⟩ : ByteArray), .int .u8 a0] rfl (by (try simp only [List.map_toArray, List.map_cons, List.map_nil]); first | done | rfl | (simp only [List.length_drop, List.length_take]; rfl)) ?_; (with_reducible refine (strings_IndexByte.calls (⟨#[75, 65, 66, 78, 82, 67, 80, 107, 97, 98, 110, 114, 99, 112]⟩ : ByteArray) a0 t102 _ A3.out).mono ?_); rintro e w' ⟨rfl, ⟨nd, rfl⟩⟩; refine ⟨_, rfl, ?_⟩) | (go_at_call 58; (with_reducible refine (board_File.calls a1 t103 _ A5.out).mono ?_); rintro e w' ⟨rfl, ⟨nd, rfl⟩⟩))
      go_ret
      exact ⟨by first | rfl | (simp; done) | (simp [*]; done), by repeat (first | exact Drawn0.refl _ | apply Drawn0.step)⟩

-- NOT PRINTED: function 51 (key_row)

end Go.Proofs.Ytmfbgcimfmgobaa.Print

-- of YtmfbgcimfmgobaaPrint1
-- Written by a program of this session (wip/gprint/gprint.py) over the kit's print; the parts marked GIVEN by hand.
namespace Go.Proofs.Ytmfbgcimfmgobaa.Print
open Go.RowKit Go.Proofs.YtmfbgcimfmgobaaW.PrintWords Go.Proofs.YtmfbgcimfmgobaaW.PrintLast Go.Proofs.YtmfbgcimfmgobaaW.PrintMore
attribute [local go_sem] max2_int min2_int max_two min_two max_three min_three max_four min_four   -- for this text's walks alone
set_option linter.unusedVariables false
set_option linter.unusedSimpArgs false
/-! ### key_Next: function 16 -/
def key_Next.f (a0 : Int) : Option (Int) := some (Go.bits .xor .u64 (Go.bits .xor .u64 (Go.bits .xor .u64 a0 (IntKind.u64.wrap (a0 * 8192))) ((Go.bits .xor .u64 a0 (IntKind.u64.wrap (a0 * 8192))) / 128)) (IntKind.u64.wrap ((Go.bits .xor .u64 (Go.bits .xor .u64 a0 (IntKind.u64.wrap (a0 * 8192))) ((Go.bits .xor .u64 a0 (IntKind.u64.wrap (a0 * 8192))) / 128)) * 131072)))
set_option maxHeartbeats 8000000 in
set_option maxRecDepth 100000 in
theorem key_Next.calls (a0 : Int) (r : Int) (w : World) (h : key_Next.f a0 = some r) :
    Calls Try.prog 16 #[.int .u64 a0] w fun e w' => e = .returned (.int .u64 r) ∧ Drawn0 w w' := by
  have H : (some (Go.bits .xor .u64 (Go.bits .xor .u64 (Go.bits .xor .u64 a0 (IntKind.u64.wrap (a0 * 8192))) ((Go.bits .xor .u64 a0 (IntKind.u64.wrap (a0 * 8192))) / 128)) (IntKind.u64.wrap ((Go.bits .xor .u64 (Go.bits .xor .u64 a0 (IntKind.u64.wrap (a0 * 8192))) ((Go.bits .xor .u64 a0 (IntKind.u64.wrap (a0 * 8192))) / 128)) * 131072)))) = some r := h
  clear h
  obtain rfl := Option.some.inj H
  go_enter Try.func16, Try.ntmps16
  go_wp2
  go_ret
  exact ⟨by first | rfl | (simp; done) | (simp [*]; done), by repeat (first | exact Drawn0.refl _ | apply Drawn0.step)⟩

end Go.Proofs.Ytmfbgcimfmgobaa.Print

-- of YtmfbgcimfmgobaaRangeB
/- A range over an iterator that by itself never ends: what the caller must bring besides is that a bound on the rounds follows from his invariant. Turned from the kit's law on ranges over functions (Derived/RangeFuncNested). -/
namespace Go.Proofs.Ytmfbgcimfmgobaa.RangeB
open Go Go.RowKit

variable {F : Fence} {n : Nat} {P : Program}

/-- The contract of an iterator that gives its elements without an end: it is asked of invariants alone that hold of fewer than N elements; it comes back where a round has said that it wants no more. -/
def SeqEndless {α : Type} (F : Fence) (n : Nat) (P : Program) (g : Nat) (lb : Array Value) (encs : α → Array Value) (Nth : Nat → α → Prop) (N : Nat) (w : World) : Prop :=
  ∀ (l : Nat) (J Jx : List α → World → Prop) (W : World), Below w.heap.size w W → AbidesFrom W.heap.size J → AbidesFrom W.heap.size Jx →
    (∀ pre W1, J pre W1 → pre.length < N) →
    (∀ pre x W1, J pre W1 → Nth pre.length x → YieldAt F (n - 1) P l (encs x) W1 fun e W' =>
      (e = .returned (.bool true) ∧ J (pre ++ [x]) W') ∨ (e = .returned (.bool false) ∧ Jx (pre ++ [x]) W')) →
    J [] W →
    CallsIn F n P g (#[.func (.yield l) #[] #[]] ++ lb) W fun e W' => (∃ v, e = .returned v) ∧ ∃ pre, Jx pre W'

/-- How a round's body may be left. -/
def leftBy {α : Type} (B : Nat) (I : List α → World → Prop) (Ix : Code → List α → World → Prop) (xs : List α) (W : World) : Exit → Act → World → Prop
  | .normal, _, W' => KeepsFrom B W W' ∧ I xs W'
  | .ret, _, W' => KeepsFrom B W W' ∧ Ix .ret xs W'
  | .exit id, _, W' => KeepsFrom B W W' ∧ Ix (.exit id) xs W'
  | .goto t, _, W' => KeepsFrom B W W' ∧ Ix (.goto t) xs W'
  | .panic _, _, _ => False
  | .outgrown, _, _ => False

theorem wpIn_range_endless {α : Type} {g : Operand} {ps : Array Tmp} {assign body : Code} {Q : Exit → Act → World → Prop} {a : Act} {w : World}
    (hro : F.round = none) (h1 : 1 ≤ n) {gf : Nat} {lb : Array Value} (hg : a.eval g = .func (.func gf) #[] lb) (hFg : F.fn gf) (eg : ∀ args w, (callFunc gf args).run P w = .ok (.enter gf args) w)
    {encs : α → Array Value} {Nth : Nat → α → Prop} {N : Nat} {w0 : World} (hseq : SeqEndless F (n - 1) P gf lb encs Nth N w0)
    (hb0 : Below w0.heap.size w0 w) (hps : ∀ x, (encs x).size = ps.size)
    (I : List α → World → Prop) (Ix : Code → List α → World → Prop) (hI : OwnFrom w.heap.size I) (hIx : ∀ c, OwnFrom w.heap.size (Ix c)) (hN : ∀ pre W, I pre W → pre.length < N) (h0 : I [] w) (a₁ : α → Act)
    (hassign : ∀ (l : Nat) (x : α) (W : World) (K : Act → World → Prop), K (a₁ x) W →
      assign.wpIn (F.inRound l) (n - 1 - 1) P (Exit.then K (fun _ _ _ => False)) { tmps := (ps.zip (encs x)).foldl (fun t (p, v) => t.setIfInBounds p v) a.tmps, defers := [] } W)
    (hbody : ∀ (l : Nat) (pre : List α) (x : α) (W : World), I pre W → Nth pre.length x → body.wpIn (F.inRound l) (n - 1 - 1) P (leftBy w.heap.size I Ix (pre ++ [x]) W) (a₁ x) W)
    (hstop : ∀ (D : Nat) (c : Code) (pre : List α) (W : World), w.heap.size ≤ D → Ix c pre W → W.heap[D]? = some (.deferred (some [])) → c.wpIn F n P Q { a with defers := { target := .collected D, args := #[] } :: a.defers } W) :
    (Code.rangeFunc g ps assign body).wpIn F n P Q a w := by
  refine wpIn_rangeFunc fun fn hfn => ?_
  rw [hro]
  -- the two blocks of the loop's books: that for deferred calls at s, the record behind it
  obtain ⟨s, hs⟩ : ∃ s, s = w.heap.size := ⟨_, rfl⟩
  obtain ⟨rec, hrec⟩ : ∃ rec : LoopState → Option Code → Loop, rec = fun st pe => { state := st, pending := pe, fn, tmps := a.tmps, params := ps, assign, body, defers := s } := ⟨_, rfl⟩
  obtain ⟨W1, hW1⟩ : ∃ W1, (w.alloc (.deferred (some []))).alloc (.loop (rec .ready none)) = W1 := ⟨_, rfl⟩
  have hL1 : W1.heap[s + 1]? = some (.loop (rec .ready none)) := by
    rw [← hW1, hs]; have := World.alloc_heap_new (w.alloc (.deferred (some []))) (.loop (rec .ready none)); rwa [World.size_alloc] at this
  have hK1 : W1.heap[s]? = some (.deferred (some [])) := by
    rw [← hW1, hs]; exact (Below.heap_alloc _ _ _ (by simp)).trans (World.alloc_heap_new w _)
  have hb1 : Below w.heap.size w W1 := by
    rw [← hW1]; exact ((Below.refl _ w).alloc (Nat.le_refl _) _).alloc (by simp) _
  rw [← hs] at hI hbody hstop
  have hIx' : ∀ c, OwnFrom s (Ix c) := by rw [hs]; exact hIx
  have hI1 : I [] W1 := by rw [← hW1]; exact hI.alloc _ (hI.alloc _ h0)
  refine ⟨s + 1, [{ target := .collected s, args := #[] }], W1, { target := .fn (.func gf) lb, args := #[.func (.yield (s + 1)) #[] #[]] }, W1, gf,
    #[.func (.yield (s + 1)) #[] #[]] ++ lb, W1, ?_, ?_, ?_, ?_, fun _ => h1, ?_⟩
  · rw [← hW1, hrec, hs]; exact run_enterLoop_outer _ _ _ _ _
  · simp only [resolve, hg]; simp [go_sem]
  · intro f' hf'; simp [Target.leads] at hf'; subst hf'; exact hFg
  · simp [invoke, go_sem, eg]
  have hnw : ∀ {A B : World} {row : Option Nat}, (∀ r, row = some r → W1.heap.size ≤ r ∧ ∃ o : Obj, A.heap[r]? = some o ∧ o.isWalk = true) → (∀ r, row = some r → s ≤ r ∧ ∃ o : Obj, A.heap[r]? = some o ∧ o.isCells = false) :=
    fun hr r e => by
      obtain ⟨hB, o, ho, hw⟩ := hr r e
      have := hb1.size
      exact ⟨by omega, o, ho, Obj.not_cells_of_walk hw⟩
  refine (hseq (s + 1)
    (fun pre W => I pre W ∧ W.heap[s + 1]? = some (.loop (rec .ready none)) ∧ W.heap[s]? = some (.deferred (some [])))
    (fun pre W => ∃ c, Ix c pre W ∧ W.heap[s + 1]? = some (.loop (rec .done (some c))) ∧ W.heap[s]? = some (.deferred (some [])))
    W1 (hb0.trans (hb1.mono hb0.size))
    (fun t A B row h hg' hr => ⟨hI t A B row h.1 hg' (hnw (B := B) hr), (grownBy_keeps hg' (fun r e => (hr r e).2) h.2.1 rfl).trans h.2.1, (grownBy_keeps hg' (fun r e => (hr r e).2) h.2.2 rfl).trans h.2.2⟩)
    (fun t A B row h hg' hr => by
      obtain ⟨c, hc, hl, hk⟩ := h
      exact ⟨c, hIx' c t A B row hc hg' (hnw (B := B) hr), (grownBy_keeps hg' (fun r e => (hr r e).2) hl rfl).trans hl, (grownBy_keeps hg' (fun r e => (hr r e).2) hk rfl).trans hk⟩)
    (fun pre W h => hN pre W h.1) ?_ ⟨hI1, hL1, hK1⟩).mono ?_
  · rintro pre x W ⟨hi, hl, hk⟩ hx
    have hlt : s + 1 < W.heap.size := (Array.getElem?_eq_some_iff.1 hl).1
    have hy := run_yield (P := P) (args := encs x) hl (by rw [hrec]; exact hps x)
    rw [hrec] at hy
    refine ⟨fn, _, assign, body, hy, roundIn_of_wpIn hfn (hassign _ x W _ ⟨_, run_beginRound hl (by rw [hrec]), ?_⟩)⟩
    obtain ⟨Wb, hWb⟩ : ∃ Wb, W.putObj (s + 1) (.loop { rec .ready none with state := .busy }) = Wb := ⟨_, rfl⟩
    rw [hWb]
    have hl2 : Wb.heap[s + 1]? = some (.loop { rec .ready none with state := .busy }) := by rw [← hWb]; exact World.putObj_heap_same hlt
    have hk2 : Wb.heap[s]? = some (.deferred (some [])) := by rw [← hWb]; exact (World.putObj_heap_other (by omega)).trans hk
    have hi2 : I pre Wb := by rw [← hWb]; exact hI.putObj _ hi (by omega) hl rfl
    refine wpIn_mono (hbody _ pre x Wb hi2 hx) ?_
    have fin : ∀ (jump : Option Code) (W3 : World), KeepsFrom s Wb W3 →
        (Instr.endRound (s + 1) jump).run P W3 = .ok (.bool jump.isNone) (W3.putObj (s + 1) (.loop (rec (if jump.isNone then .ready else .done) jump))) ∧
        W3.heap[s + 1]? = some (.loop { rec .ready none with state := .busy }) ∧
        (W3.putObj (s + 1) (.loop (rec (if jump.isNone then .ready else .done) jump))).heap[s + 1]? = some (.loop (rec (if jump.isNone then .ready else .done) jump)) ∧
        (W3.putObj (s + 1) (.loop (rec (if jump.isNone then .ready else .done) jump))).heap[s]? = some (.deferred (some [])) := fun jump W3 hk3 => by
      have hl3 := hk3.same _ _ (by omega) hl2 rfl
      have := run_endRound (P := P) jump hl3
      rw [hrec] at this ⊢
      exact ⟨this, by rw [hrec] at hl3; exact hl3, World.putObj_heap_same (Array.getElem?_eq_some_iff.1 hl3).1, (World.putObj_heap_other (by omega)).trans (hk3.same _ _ (Nat.le_refl _) hk2 rfl)⟩
    have out : ∀ (c : Code) (W3 : World), KeepsFrom s Wb W3 → Ix c (pre ++ [x]) W3 → ∃ v w', (Instr.endRound (s + 1) (some c)).run P W3 = .ok v w' ∧
        ((Ending.returned v = .returned (.bool true) ∧ I (pre ++ [x]) w' ∧ w'.heap[s + 1]? = some (.loop (rec .ready none)) ∧ w'.heap[s]? = some (.deferred (some []))) ∨
         (Ending.returned v = .returned (.bool false) ∧ ∃ c, Ix c (pre ++ [x]) w' ∧ w'.heap[s + 1]? = some (.loop (rec .done (some c))) ∧ w'.heap[s]? = some (.deferred (some [])))) := fun c W3 hk3 hi3 => by
      obtain ⟨hr, hl3, hl4, hk4⟩ := fin (some c) W3 hk3
      exact ⟨_, _, hr, .inr ⟨rfl, c, (hIx' _).putObj _ hi3 (by omega) hl3 rfl, hl4, hk4⟩⟩
    rintro e a3 W3 hp
    cases e with
    | normal =>
      obtain ⟨hk3, hi3⟩ := hp
      obtain ⟨hr, hl3, hl4, hk4⟩ := fin none W3 hk3
      exact ⟨_, _, hr, .inl ⟨rfl, hI.putObj _ hi3 (by omega) hl3 rfl, hl4, hk4⟩⟩
    | ret => exact out _ _ hp.1 hp.2
    | exit id => exact out _ _ hp.1 hp.2
    | goto t => exact out _ _ hp.1 hp.2
    | panic ch => exact hp.elim
    | outgrown => exact hp.elim
  · rintro e W2 ⟨⟨v, rfl⟩, pre, c, hi, hl, hk⟩
    exact ⟨some c, _, by have := run_endLoop (P := P) hl (by rw [hrec]; simp); rw [hrec] at this; exact this, hstop _ c pre _ (Nat.le_refl _) ((hIx' c).putObj _ hi (by omega) hl rfl) ((World.putObj_heap_other (by omega)).trans hk)⟩

end Go.Proofs.Ytmfbgcimfmgobaa.RangeB

-- of YtmfbgcimfmgobaaPrint4
-- Written by a program of this session (wip/gprint/gprint.py) over the kit's print; the parts marked GIVEN by hand.
namespace Go.Proofs.Ytmfbgcimfmgobaa.Print
open Go.RowKit Go.Proofs.YtmfbgcimfmgobaaW.PrintWords Go.Proofs.YtmfbgcimfmgobaaW.PrintLast Go.Proofs.YtmfbgcimfmgobaaW.PrintMore
attribute [local go_sem] max2_int min2_int max_two min_two max_three min_three max_four min_four   -- for this text's walks alone
set_option linter.unusedVariables false
set_option linter.unusedSimpArgs false
/-! GIVEN key_number -/
-- GIVEN riverbank/key.number
-- MAKES yes
-- NEEDS riverbank/key.Next
-- IMPORT Derived.Test.YtmfbgcimfmgobaaRangeB
-- IMPORT Derived.RangeFuncLeaves
-- IMPORT Derived.RangeFuncBound
-- IMPORT Derived.Shelf.Abstract
-- IMPORT Derived.Shelf.RegionOpen
-- IMPORT Derived.OwnWalkIn
-- IMPORT Derived.TacticsInMore
-- IMPORT Derived.LoopNIn
-- IMPORT Derived.LoopIn
open Go.Proofs.Ytmfbgcimfmgobaa.RangeB Go.Shelf
attribute [local go_sem] Oper.semAt_some

/-- The row of numbers. -/
def nextN (x : Int) : Int := (key_Next.f x).getD 0
def rowN : Nat → Int
  | 0 => 7640891576956012809
  | n + 1 => nextN (rowN n)
def key_number.f (a0 : Int) : Option (Int) := if 0 ≤ a0 ∧ a0 ≤ 1261 then some (rowN a0.toNat) else none
abbrev rowEnc (i : Nat) : Array Value := #[.int .i64 i, .int .u64 (rowN i)]
theorem next_is (i : Nat) : key_Next.f (rowN i) = some (rowN (i + 1)) := rfl

set_option maxRecDepth 100000 in
set_option maxHeartbeats 1000000 in
theorem row_endless (n : Nat) (hn : 2 ≤ n) (N : Nat) (hN : N ≤ 1000000) (w : World) : SeqEndless Fence.wide n Try.prog 70 #[] rowEnc (fun k x => x = k) N w := fun l J Jx W hW hJ hJx hB hY h0 => by
  have h1 : 1 ≤ n := by omega
  refine callsIn_of_wp Try.func70 rfl trivial ?_ rfl
  simp only [Try.ntmps70, List.size_toArray, List.length_cons, List.length_nil, Nat.reduceAdd, Nat.reduceSub, Array.replicate_succ, Array.replicate_zero, List.push_toArray, List.append_toArray, List.nil_append, List.cons_append]
  gi_wp2
  gi_loopw [2, 3] (fun x i wr => ∃ pre : List Nat, x = .int .u64 (rowN pre.length) ∧ i = .int .i64 pre.length ∧ J pre wr)
    (fun _ i _ => N - (intOf i).toNat)
  case atStart => exact ⟨[], rfl, rfl, h0⟩
  case round =>
    obtain ⟨pre, rfl, rfl, hj⟩ := hrel
    have hlen := hB _ _ hj
    obtain ⟨fn, tmps, assign, body, hy, hR⟩ := hY pre pre.length wr hj rfl
    dsimp only [rowEnc] at hy
    gi_wp2
    refine hR.mono ?_
    rintro e W3 (⟨rfl, hJ3⟩ | ⟨rfl, hJx3⟩)
    · gi_wp2_with (refine ⟨trivial, ?_⟩; gi_at_call 16; refine (callsIn_wide.2 (key_Next.calls _ _ _ (next_is pre.length))).mono ?_; rintro e w' ⟨rfl, ⟨q, rfl⟩⟩)
      go_roundw
      case rel =>
        refine ⟨pre ++ [pre.length], by simp, by simp, ?_⟩
        exact hJ _ _ _ none hJ3 ⟨rfl, rfl, rfl, Nat.le_refl _, fun _ _ _ => rfl⟩ (fun r e => by cases e)
      case measure => simp [intOf]; omega
    · gi_wp2
      go_end0
      exact ⟨⟨_, rfl⟩, _, hJx3⟩
theorem cell_of_block1 {W : World} {B : Nat} {v : Value} {t : TypeId} (h : W.heap[B]? = some (.cells #[v] t (0, 0))) : W.cell? ⟨B, 0, none⟩ = some v ∧ W.frozen? ⟨B, 0, none⟩ = false := by
  constructor <;> simp [World.cell?, World.frozen?, h]
theorem cell_new (W : World) (v : Value) (t : TypeId) : (W.alloc (.cells #[v] t)).cell? ⟨W.heap.size, 0, none⟩ = some v ∧ (W.alloc (.cells #[v] t)).frozen? ⟨W.heap.size, 0, none⟩ = false := by
  exact cell_of_block1 (World.alloc_heap_new W _)
theorem cell_later_alloc {W : World} {a : Addr} {v : Value} (o : Obj) (h : W.cell? a = some v) : (W.alloc o).cell? a = some v := cell_kept h (World.grownBy_alloc W o none) (fun r e => by cases e)
theorem frozen_later_alloc {W : World} {a : Addr} {v : Value} (o : Obj) (h : W.cell? a = some v) (hf : W.frozen? a = false) : (W.alloc o).frozen? a = false := (frozen_kept h (World.grownBy_alloc W o none) (fun r e => by cases e)).trans hf

set_option maxHeartbeats 1000000 in
theorem key_row_in (n : Nat) (w : World) : CallsIn Fence.wide n Try.prog 51 #[] w fun e w' => e = .returned (.func (.func 70) #[] #[]) ∧ w = w' := by
  refine callsIn_of_wp Try.func51 rfl trivial ?_ rfl
  simp only [Try.ntmps51, List.size_toArray, List.length_cons, List.length_nil, Nat.reduceAdd, Nat.reduceSub, Array.replicate_succ, Array.replicate_zero, List.push_toArray, List.append_toArray, List.nil_append, List.cons_append]
  gi_wp2
  go_ret
  exact ⟨rfl, rfl⟩

set_option maxRecDepth 100000 in
set_option maxHeartbeats 2000000 in
theorem key_number.calls (a0 : Int) (r : Int) (w : World) (h : key_number.f a0 = some r) :
    Calls Try.prog 48 #[.int .i64 a0] w fun e w' => e = .returned (.int .u64 r) ∧ Below w.heap.size w w' := by
  have hp : 0 ≤ a0 ∧ a0 ≤ 1261 := by
    unfold key_number.f at h; split at h
    · assumption
    · cases h
  have hr : r = rowN a0.toNat := by
    unfold key_number.f at h; rw [if_pos hp] at h; exact (Option.some.inj h).symm
  subst hr
  clear h
  obtain ⟨p, rfl⟩ : ∃ p : Nat, a0 = p := ⟨a0.toNat, by omega⟩
  have hp1 : p ≤ 1261 := by omega
  clear hp
  simp only [Int.toNat_natCast]
  refine (callsIn_wide (n := 6)).1 ?_
  have h1 : 1 ≤ 6 := by decide
  refine callsIn_of_wp_marks Try.func48 rfl trivial ?_ rfl
  simp only [Try.ntmps48, List.size_toArray, List.length_cons, List.length_nil, Nat.reduceAdd, Nat.reduceSub, Array.replicate_succ, Array.replicate_zero, List.push_toArray, List.append_toArray, List.nil_append, List.cons_append]
  gi_wp2_with (refine ⟨trivial, ?_⟩; gi_at_call 51; refine (key_row_in _ _).mono ?_; rintro e w' ⟨rfl, rfl⟩)
  have hs := cell_new w (.int .i64 p) 3
  have hb := cell_new (w.alloc (.cells #[.int .i64 p] 3)) (.int .u64 0) 22
  rw [World.size_alloc] at hb
  have hB0 : Below w.heap.size w ((w.alloc (.cells #[.int .i64 p] 3)).alloc (.cells #[.int .u64 0] 22)) := ((Below.refl _ w).alloc (Nat.le_refl _) _).alloc (by simp) _
  refine wpIn_range_endless rfl h1 (gf := 70) (lb := #[]) rfl trivial (enters_of Try.func70 (by kernel_rfl) rfl) (row_endless 5 (by decide) (p + 1) (by omega) _) (Below.refl _ _) (fun _ => rfl)
    (fun pre W => ((W.cell? ⟨w.heap.size, 0, none⟩ = some (.int .i64 p) ∧ W.cell? ⟨w.heap.size + 1, 0, none⟩ = some (.int .u64 0) ∧ W.frozen? ⟨w.heap.size + 1, 0, none⟩ = false) ∧ pre.length ≤ p) ∧ Below w.heap.size w W)
    (fun c pre W => (c = .ret ∧ W.cell? ⟨w.heap.size + 1, 0, none⟩ = some (.int .u64 (rowN p))) ∧ Below w.heap.size w W)
    (OwnFrom.and (OwnFrom.and (fun s A B row hs hg hr => ⟨cell_kept hs.1 hg (fun r e => (hr r e).2), cell_kept hs.2.1 hg (fun r e => (hr r e).2), (frozen_kept hs.2.1 hg (fun r e => (hr r e).2)).trans hs.2.2⟩) (fun _ _ _ _ hs _ _ => hs)) (ownFrom_below (Nat.le_refl _) (by simp; omega)))
    (fun c => OwnFrom.and (fun s A B row hs hg hr => ⟨hs.1, cell_kept hs.2 hg (fun r e => (hr r e).2)⟩) (ownFrom_below (Nat.le_refl _) (by simp; omega)))
    (fun pre W hi => by have := hi.1.2; omega)
    ⟨⟨⟨cell_later_alloc _ hs.1, hb.1, hb.2⟩, by simp⟩, hB0⟩
    (fun i => { tmps := #[.int .i64 p, .pointer (some ⟨w.heap.size, 0, none⟩), .pointer (some ⟨w.heap.size + 1, 0, none⟩), .int .i64 i, .int .u64 (rowN i), .func (.func 70) #[] #[], .int .i64 i, .int .u64 (rowN i), undef, undef, undef, undef], defers := [] }) ?assign ?body ?stop
  case assign =>
    intro l x W K hK
    gi_wp2
    exact hK
  case body =>
    rintro l pre x W ⟨⟨⟨hc, hc2, hf2⟩, hlen⟩, hB⟩ rfl
    by_cases e : pre.length = p
    · have he : ((pre.length : Int) == (p : Int)) = true := by simp [e]
      gi_wp2
      exact ⟨(KeepsOthers.setCell _ _ _).from _, ⟨rfl, World.cell?_setCell_same' _ _ _ (by rw [hc2]; rfl)⟩, hB.setCell (p := ⟨w.heap.size + 1, 0, none⟩) (by simp) _⟩
    · have he : ((pre.length : Int) == (p : Int)) = false := by simp; omega
      gi_wp2
      exact ⟨(KeepsOthers.refl _).from _, ⟨⟨hc, hc2, hf2⟩, by simp; omega⟩, hB⟩
  case stop =>
    rintro D c pre W hD ⟨⟨rfl, hc⟩, hB⟩ hK
    gi_wp2
    refine ⟨by simp, .inl ⟨_, _, rfl, run_takeDeferred hK, ?_⟩⟩
    have hc5 := cell_kept hc (grownBy_putObj' _ D (.deferred none)) (fun r e => by cases e; exact ⟨_, hK, rfl⟩)
    refine ⟨.int .u64 (rowN p), ?_, rfl, hB.trans (belowK_b (w := w) (Nat.le_refl _) W D _ _ (by simp at hD; omega) hK rfl rfl)⟩
    simp [results, Try.f48, go_sem, hc5]

end Go.Proofs.Ytmfbgcimfmgobaa.Print

-- of YtmfbgcimfmgobaaPrint5
-- Written by a program of this session (wip/gprint/gprint.py) over the kit's print; the parts marked GIVEN by hand.
namespace Go.Proofs.Ytmfbgcimfmgobaa.Print
open Go.RowKit Go.Proofs.YtmfbgcimfmgobaaW.PrintWords Go.Proofs.YtmfbgcimfmgobaaW.PrintLast Go.Proofs.YtmfbgcimfmgobaaW.PrintMore
attribute [local go_sem] max2_int min2_int max_two min_two max_three min_three max_four min_four   -- for this text's walks alone
set_option linter.unusedVariables false
set_option linter.unusedSimpArgs false
/-! ### key_Cell: function 18 -/
def key_Cell.f (a0 : Int) (a1 : Int) : Option (Int) := (key_place.f a0 a1).bind fun t104 => (if t104 = 0 then (some 0) else ((key_number.f t104).bind fun t105 => (some t105)))
set_option maxHeartbeats 8000000 in
set_option maxRecDepth 100000 in
theorem key_Cell.calls (a0 : Int) (a1 : Int) (r : Int) (w : World) (h : key_Cell.f a0 a1 = some r) :
    Calls Try.prog 18 #[.int .u8 a0, .int .i64 a1] w fun e w' => e = .returned (.int .u64 r) ∧ Below w.heap.size w w' := by
  have HB := Aside0.mk (Below.refl w.heap.size w)
  have H : ((key_place.f a0 a1).bind fun t104 => (if t104 = 0 then (some 0) else ((key_number.f t104).bind fun t105 => (some t105)))) = some r := h
  clear h
  replace H := Option.bind_eq_some_iff.mp H
  obtain ⟨t104, A30, H⟩ := H
  replace H : (if t104 = 0 then (some 0) else ((key_number.f t104).bind fun t105 => (some t105))) = some r := H
  have A3 := Aside0.mk A30
  clear A30
  by_cases c4 : t104 = 0
  · rw [if_pos c4] at H
    have c4b0 : (t104 == 0) = true := beq_iff_eq.mpr c4
    have c4b1 : (t104 != 0) = false := bne_eq_false_iff_eq.mpr c4
    clear c4
    obtain rfl := Option.some.inj H
    go_enter Try.func18, Try.ntmps18
    go_wp2_with (first | ((with_reducible refine gate_callee (f := 47) rfl ?_); refine goesL_ (some 8) rfl rfl Try.func47 (by kernel_rfl) rfl #[.int .u8 a0, .int .i64 a1] rfl (by (try simp only [List.map_toArray, List.map_cons, List.map_nil]); first | done | rfl | (simp only [List.length_drop, List.length_take]; rfl)) ?_; (with_reducible refine (key_place.calls a0 a1 t104 _ A3.out).mono ?_); rintro e w' ⟨rfl, ⟨nd, rfl⟩⟩; refine ⟨_, rfl, ?_⟩))
    go_ret
    exact ⟨by first | rfl | (simp [errW_none, errW_some] <;> rfl) | (simp [*, errW_none, errW_some] <;> rfl), by repeat (first | (with_reducible first | exact HB.out | apply below_alloc | apply pw_below_drewN | apply below_drew1) | exact HB.out)⟩
  · rw [if_neg c4] at H
    have c4b0 : (t104 == 0) = false := beq_eq_false_iff_ne.mpr c4
    have c4b1 : (t104 != 0) = true := bne_iff_ne.mpr c4
    replace H := Option.bind_eq_some_iff.mp H
    obtain ⟨t105, A50, H⟩ := H
    replace H : (some t105) = some r := H
    have A5 := Aside0.mk A50
    clear A50
    obtain rfl := Option.some.inj H
    go_enter Try.func18, Try.ntmps18
    go_wp2_with (first | ((with_reducible refine gate_callee (f := 47) rfl ?_); refine goesL_ (some 8) rfl rfl Try.func47 (by kernel_rfl) rfl #[.int .u8 a0, .int .i64 a1] rfl (by (try simp only [List.map_toArray, List.map_cons, List.map_nil]); first | done | rfl | (simp only [List.length_drop, List.length_take]; rfl)) ?_; (with_reducible refine (key_place.calls a0 a1 t104 _ A3.out).mono ?_); rintro e w' ⟨rfl, ⟨nd, rfl⟩⟩; refine ⟨_, rfl, ?_⟩) | ((with_reducible refine gate_callee (f := 48) rfl ?_); refine goesL_ (some 12) rfl rfl Try.func48 (by kernel_rfl) rfl #[.int .i64 t104] rfl (by (try simp only [List.map_toArray, List.map_cons, List.map_nil]); first | done | rfl | (simp only [List.length_drop, List.length_take]; rfl)) ?_; (with_reducible refine (key_number.calls t104 t105 _ A5.out).mono ?_); rintro e w6 ⟨rfl, hb⟩; refine ⟨_, rfl, ?_⟩; have n0_ := Aside0.mk (below_step (by repeat (first | (with_reducible first | exact HB.out | apply below_alloc | apply pw_below_drewN | apply below_drew1) | exact HB.out)) hb); clear HB; have HB := n0_; clear n0_; (try clear hb); (try clear hb2); (try clear hk); (try clear hi)))
    go_ret
    exact ⟨by first | rfl | (simp [errW_none, errW_some] <;> rfl) | (simp [*, errW_none, errW_some] <;> rfl), by repeat (first | (with_reducible first | exact HB.out | apply below_alloc | apply pw_below_drewN | apply below_drew1) | exact HB.out)⟩

/-! ### riverbankref10_place: function 69 -/
def riverbankref10_place.l0 : Nat → Int → ByteArray → Int → Option (Int)
  | 0, _, _, _ => none
  | k + 1, x0, x3, x4 => if x4 < (x3.size : Int) then (if 0 ≤ x4 then (if (bt x3 x4) = x0 then (some x4) else (riverbankref10_place.l0 k x0 x3 (wrap64 (x4 + 1)))) else (none)) else (some (-1))
def riverbankref10_place.f (k : Nat) (a0 : Int) : Option (Int) := riverbankref10_place.l0 k a0 (⟨#[75, 65, 66, 78, 82, 67, 80, 107, 97, 98, 110, 114, 99, 112]⟩ : ByteArray) 0
theorem riverbankref10_place.mono_l : ∀ k, (∀ y0 y1 y2, LeO (riverbankref10_place.l0 k y0 y1 y2) (riverbankref10_place.l0 (k + 1) y0 y1 y2))
  | 0 => fun _ _ _ r h => by simp [riverbankref10_place.l0] at h
  | k + 1 => by
    have ih0 := riverbankref10_place.mono_l k
    · intro y0 y1 y2
      unfold riverbankref10_place.l0
      repeat' first
      | (with_reducible exact ih0 _ _ _)
      | (with_reducible exact LeO.refl _)
      | (with_reducible exact LeO.none _)
      | (with_reducible refine LeO.ite ?_ ?_)
      | (with_reducible refine LeO.bind ?_ (fun _ => ?_))
      | exact ih0 _ _ _
      | exact LeO.none _
      | refine LeO.ite ?_ ?_
      | refine LeO.bind ?_ (fun _ => ?_)
theorem riverbankref10_place.mono : ∀ a0 k, LeO (riverbankref10_place.f k a0) (riverbankref10_place.f (k + 1) a0) := by
  intro a0 k
  have ih0 := riverbankref10_place.mono_l k
  unfold riverbankref10_place.f
  repeat' first
      | (with_reducible exact ih0 _ _ _)
      | (with_reducible exact LeO.refl _)
      | (with_reducible exact LeO.none _)
      | (with_reducible refine LeO.ite ?_ ?_)
      | (with_reducible refine LeO.bind ?_ (fun _ => ?_))
      | exact ih0 _ _ _
      | exact LeO.none _
      | refine LeO.ite ?_ ?_
      | refine LeO.bind ?_ (fun _ => ?_)
set_option maxHeartbeats 8000000 in
set_option maxRecDepth 100000 in
theorem riverbankref10_place.calls (k : Nat) (a0 : Int) (r : Int) (w : World) (h : riverbankref10_place.f k a0 = some r) :
    Calls Try.prog 69 #[.int .u8 a0] w fun e w' => e = .returned (.int .i64 r) ∧ Drawn0 w w' := by
  have H : (riverbankref10_place.l0 k a0 (⟨#[75, 65, 66, 78, 82, 67, 80, 107, 97, 98, 110, 114, 99, 112]⟩ : ByteArray) 0) = some r := h
  clear h
  have H' := Aside0.mk H
  clear H
  go_enter Try.func69, Try.ntmps69
  go_wp2
  go_loopg [4] k (fun kq v4 w' => ∃ (x4_1 : Int), v4 = .int .i64 x4_1 ∧ Aside0 (riverbankref10_place.l0 kq a0 (⟨#[75, 65, 66, 78, 82, 67, 80, 107, 97, 98, 110, 114, 99, 112]⟩ : ByteArray) x4_1 = some r) ∧ Aside0 (kq ≤ k) ∧ Drawn0 w w')
  case atStart => exact ⟨(0), (by first | rfl | (simp; done) | (simp [*]; done)), H', ⟨Nat.le_refl _⟩, by repeat (first | exact Drawn0.refl _ | apply Drawn0.step)⟩
  case round =>
    clear H'
    obtain ⟨x4_1, rfl, HA, HK1, ⟨m1, rfl⟩⟩ := hrel
    cases gk with
    | zero => exact absurd HA.out (by simp [riverbankref10_place.l0])
    | succ k1 =>
      have H := HA.out
      clear HA
      simp only [riverbankref10_place.l0] at H
      by_cases c2 : x4_1 < ((⟨#[75, 65, 66, 78, 82, 67, 80, 107, 97, 98, 110, 114, 99, 112]⟩ : ByteArray).size : Int)
      · rw [if_pos c2] at H
        have c2b0 : decide (x4_1 < (14 : Int)) = true := decide_eq_true c2
        clear c2
        by_cases c3 : 0 ≤ x4_1
        · rw [if_pos c3] at H
          have c3b0 : decide (0 ≤ x4_1) = true := decide_eq_true c3
          clear c3
          by_cases c5 : (bt (⟨#[75, 65, 66, 78, 82, 67, 80, 107, 97, 98, 110, 114, 99, 112]⟩ : ByteArray) x4_1) = a0
          · rw [if_pos c5] at H
            have c5b0 : ((bt (⟨#[75, 65, 66, 78, 82, 67, 80, 107, 97, 98, 110, 114, 99, 112]⟩ : ByteArray) x4_1) == a0) = true := beq_iff_eq.mpr c5
            have c5b1 : ((bt (⟨#[75, 65, 66, 78, 82, 67, 80, 107, 97, 98, 110, 114, 99, 112]⟩ : ByteArray) x4_1) != a0) = false := bne_eq_false_iff_eq.mpr c5
            clear c5
            obtain rfl := Option.some.inj H
            have p4 : 0 ≤ (x4_1 : Int) := of_decide_eq_true (by first | (with_reducible assumption) | assumption)
            have q4 : x4_1 < (14 : Int) := of_decide_eq_true (by first | (with_reducible assumption) | assumption)
            have hx4 := bt_at (⟨#[75, 65, 66, 78, 82, 67, 80, 107, 97, 98, 110, 114, 99, 112]⟩ : ByteArray) x4_1
            replace p4 := eq_true p4
            replace q4 := eq_true q4
            go_wp2
            go_ret
            exact ⟨by first | rfl | (simp; done) | (simp [*]; done), by repeat (first | exact Drawn0.refl _ | apply Drawn0.step)⟩
          · rw [if_neg c5] at H
            have c5b0 : ((bt (⟨#[75, 65, 66, 78, 82, 67, 80, 107, 97, 98, 110, 114, 99, 112]⟩ : ByteArray) x4_1) == a0) = false := beq_eq_false_iff_ne.mpr c5
            have c5b1 : ((bt (⟨#[75, 65, 66, 78, 82, 67, 80, 107, 97, 98, 110, 114, 99, 112]⟩ : ByteArray) x4_1) != a0) = true := bne_iff_ne.mpr c5
            have H' := Aside0.mk H
            clear H
            have p4 : 0 ≤ (x4_1 : Int) := of_decide_eq_true (by first | (with_reducible assumption) | assumption)
            have q4 : x4_1 < (14 : Int) := of_decide_eq_true (by first | (with_reducible assumption) | assumption)
            have hx4 := bt_at (⟨#[75, 65, 66, 78, 82, 67, 80, 107, 97, 98, 110, 114, 99, 112]⟩ : ByteArray) x4_1
            replace p4 := eq_true p4
            replace q4 := eq_true q4
            go_wp2
            go_roundg k1
            case measure => have := HK1.out; omega
            case rel => exact ⟨(wrap64 (x4_1 + 1)), (by first | rfl | (simp; done) | (simp [*]; done)), H', ⟨by have := HK1.out; omega⟩, by repeat (first | exact Drawn0.refl _ | apply Drawn0.step)⟩
        · rw [if_neg c3] at H
          exact absurd H (by simp)
      · rw [if_neg c2] at H
        have c2b0 : decide (x4_1 < (14 : Int)) = false := decide_eq_false c2
        clear c2
        obtain rfl := Option.some.inj H
        go_wp2
        go_ret
        exact ⟨by first | rfl | (simp; done) | (simp [*]; done), by repeat (first | exact Drawn0.refl _ | apply Drawn0.step)⟩

/-! ### riverbankref10_cell: function 49 -/
def riverbankref10_cell.f (k : Nat) (l0 : List Int) (a1 : Int) (a2 : Int) : Option (Int) := (riverbankref10_place.f k a1).bind fun t106 => (if t106 < 0 then (some 0) else (if a2 < 0 then (some 0) else (if a2 > 89 then (some 0) else (if 0 ≤ (wrap64 ((wrap64 (1 + (wrap64 (90 * t106)))) + a2)) then (if (wrap64 ((wrap64 (1 + (wrap64 (90 * t106)))) + a2)) < (l0.length : Int) then (some (rd l0 (wrap64 ((wrap64 (1 + (wrap64 (90 * t106)))) + a2)))) else (none)) else (none)))))
theorem riverbankref10_cell.mono : ∀ a0 a1 a2 k, LeO (riverbankref10_cell.f k a0 a1 a2) (riverbankref10_cell.f (k + 1) a0 a1 a2) := by
  intro a0 a1 a2 k
  unfold riverbankref10_cell.f
  repeat' first
      | (with_reducible exact riverbankref10_place.mono _ _)
      | (with_reducible exact LeO.refl _)
      | (with_reducible exact LeO.none _)
      | (with_reducible refine LeO.ite ?_ ?_)
      | (with_reducible refine LeO.bind ?_ (fun _ => ?_))
      | exact riverbankref10_place.mono _ _
      | exact LeO.none _
      | refine LeO.ite ?_ ?_
      | refine LeO.bind ?_ (fun _ => ?_)
set_option maxHeartbeats 8000000 in
set_option maxRecDepth 100000 in
theorem riverbankref10_cell.calls (k : Nat) (A0 : Option Addr) (c0 : Nat) (l0 : List Int) (a1 : Int) (a2 : Int) (r : Int) (w : World) (hr0 : Kd.C (Kd.int .u64) w A0 l0.length l0) (hc0 : l0.length ≤ c0) (h : riverbankref10_cell.f k l0 a1 a2 = some r) :
    Calls Try.prog 49 #[.slice A0 l0.length c0, .int .u8 a1, .int .i64 a2] w fun e w' => e = .returned (.int .u64 r) ∧ Drawn0 w w' := by
  have HR0 := Aside0.mk hr0
  have HC0 := Aside0.mk hc0
  clear hr0 hc0
  have H : ((riverbankref10_place.f k a1).bind fun t106 => (if t106 < 0 then (some 0) else (if a2 < 0 then (some 0) else (if a2 > 89 then (some 0) else (if 0 ≤ (wrap64 ((wrap64 (1 + (wrap64 (90 * t106)))) + a2)) then (if (wrap64 ((wrap64 (1 + (wrap64 (90 * t106)))) + a2)) < (l0.length : Int) then (some (rd l0 (wrap64 ((wrap64 (1 + (wrap64 (90 * t106)))) + a2)))) else (none)) else (none)))))) = some r := h
  clear h
  replace H := Option.bind_eq_some_iff.mp H
  obtain ⟨t106, A40, H⟩ := H
  replace H : (if t106 < 0 then (some 0) else (if a2 < 0 then (some 0) else (if a2 > 89 then (some 0) else (if 0 ≤ (wrap64 ((wrap64 (1 + (wrap64 (90 * t106)))) + a2)) then (if (wrap64 ((wrap64 (1 + (wrap64 (90 * t106)))) + a2)) < (l0.length : Int) then (some (rd l0 (wrap64 ((wrap64 (1 + (wrap64 (90 * t106)))) + a2)))) else (none)) else (none))))) = some r := H
  have A4 := Aside0.mk A40
  clear A40
  by_cases c5 : t106 < 0
  · rw [if_pos c5] at H
    have c5b0 : decide (t106 < 0) = true := decide_eq_true c5
    clear c5
    obtain rfl := Option.some.inj H
    go_enter Try.func49, Try.ntmps49
    go_wp2_with (first | ((with_reducible refine gate_callee (f := 69) rfl ?_); refine goesL_ (some 9) rfl rfl Try.func69 (by kernel_rfl) rfl #[.int .u8 a1] rfl (by (try simp only [List.map_toArray, List.map_cons, List.map_nil]); first | done | rfl | (simp only [List.length_drop, List.length_take]; rfl)) ?_; (with_reducible refine (riverbankref10_place.calls k a1 t106 _ A4.out).mono ?_); rintro e w' ⟨rfl, ⟨nd, rfl⟩⟩; refine ⟨_, rfl, ?_⟩))
    go_ret
    exact ⟨by first | rfl | (simp; done) | (simp [*]; done), by repeat (first | exact Drawn0.refl _ | apply Drawn0.step)⟩
  · rw [if_neg c5] at H
    have c5b0 : decide (t106 < 0) = false := decide_eq_false c5
    clear c5
    by_cases c6 : a2 < 0
    · rw [if_pos c6] at H
      have c6b0 : decide (a2 < 0) = true := decide_eq_true c6
      clear c6
      obtain rfl := Option.some.inj H
      go_enter Try.func49, Try.ntmps49
      go_wp2_with (first | ((with_reducible refine gate_callee (f := 69) rfl ?_); refine goesL_ (some 9) rfl rfl Try.func69 (by kernel_rfl) rfl #[.int .u8 a1] rfl (by (try simp only [List.map_toArray, List.map_cons, List.map_nil]); first | done | rfl | (simp only [List.length_drop, List.length_take]; rfl)) ?_; (with_reducible refine (riverbankref10_place.calls k a1 t106 _ A4.out).mono ?_); rintro e w' ⟨rfl, ⟨nd, rfl⟩⟩; refine ⟨_, rfl, ?_⟩))
      go_ret
      exact ⟨by first | rfl | (simp; done) | (simp [*]; done), by repeat (first | exact Drawn0.refl _ | apply Drawn0.step)⟩
    · rw [if_neg c6] at H
      have c6b0 : decide (a2 < 0) = false := decide_eq_false c6
      clear c6
      by_cases c7 : a2 > 89
      · rw [if_pos c7] at H
        have c7b0 : decide (89 < a2) = true := decide_eq_true c7
        clear c7
        obtain rfl := Option.some.inj H
        go_enter Try.func49, Try.ntmps49
        go_wp2_with (first | ((with_reducible refine gate_callee (f := 69) rfl ?_); refine goesL_ (some 9) rfl rfl Try.func69 (by kernel_rfl) rfl #[.int .u8 a1] rfl (by (try simp only [List.map_toArray, List.map_cons, List.map_nil]); first | done | rfl | (simp only [List.length_drop, List.length_take]; rfl)) ?_; (with_reducible refine (riverbankref10_place.calls k a1 t106 _ A4.out).mono ?_); rintro e w' ⟨rfl, ⟨nd, rfl⟩⟩; refine ⟨_, rfl, ?_⟩))
        go_ret
        exact ⟨by first | rfl | (simp; done) | (simp [*]; done), by repeat (first | exact Drawn0.refl _ | apply Drawn0.step)⟩
      · rw [if_neg c7] at H
        have c7b0 : decide (89 < a2) = false := decide_eq_false c7
        clear c7
        obtain ⟨ji8, hji8⟩ : ∃ j_ : Int, (wrap64 ((wrap64 (1 + (wrap64 (90 * t106)))) + a2)) = j_ := ⟨_, rfl⟩
        replace H : (if 0 ≤ (ji8) then (if (ji8) < (l0.length : Int) then (some (rd l0 (ji8))) else (none)) else (none)) = some r := by first | (rw [hji8] at H; exact H) | (simp only [hji8] at H ⊢; exact H)
        (try rw [hji8] at A4)
        have hji8w : (IntKind.i64.wrap ((wrap64 (1 + (wrap64 (90 * t106)))) + a2)) = ji8 := (i64_w _).trans hji8
        by_cases c9 : 0 ≤ (ji8)
        · rw [if_pos c9] at H
          have c9b0 : decide (0 ≤ (ji8)) = true := decide_eq_true c9
          clear c9
          by_cases c10 : (ji8) < (l0.length : Int)
          · rw [if_pos c10] at H
            have c10b0 : decide ((ji8) < (l0.length : Int)) = true := decide_eq_true c10
            clear c10
            obtain rfl := Option.some.inj H
            go_enter Try.func49, Try.ntmps49
            go_wp2_with (first | ((with_reducible refine gate_callee (f := 69) rfl ?_); refine goesL_ (some 9) rfl rfl Try.func69 (by kernel_rfl) rfl #[.int .u8 a1] rfl (by (try simp only [List.map_toArray, List.map_cons, List.map_nil]); first | done | rfl | (simp only [List.length_drop, List.length_take]; rfl)) ?_; (with_reducible refine (riverbankref10_place.calls k a1 t106 _ A4.out).mono ?_); rintro e w' ⟨rfl, ⟨nd, rfl⟩⟩; refine ⟨_, rfl, ?_⟩; have p107 : 0 ≤ ((ji8) : Int) := of_decide_eq_true (by first | (with_reducible assumption) | assumption); have q107 : (ji8) < (l0.length : Int) := of_decide_eq_true (by first | (with_reducible assumption) | assumption); obtain ⟨ad107, e107, hx107_0⟩ := Kd.at_int HR0.out (ji8) p107 q107; cases e107; replace p107 := eq_true p107; replace q107 := eq_true q107))
            go_ret
            exact ⟨by first | rfl | (simp; done) | (simp only [← hji8] <;> (first | rfl | simp)) | (simp [*]; done), by repeat (first | exact Drawn0.refl _ | apply Drawn0.step)⟩
          · rw [if_neg c10] at H
            exact absurd H (by simp)
        · rw [if_neg c9] at H
          exact absurd H (by simp)

/-! ### key_Turn: function 20 -/
def key_Turn.f  : Option (Int) := (key_number.f 1261).bind fun t116 => (some t116)
set_option maxHeartbeats 8000000 in
set_option maxRecDepth 100000 in
theorem key_Turn.calls  (r : Int) (w : World) (h : key_Turn.f  = some r) :
    Calls Try.prog 20 #[] w fun e w' => e = .returned (.int .u64 r) ∧ Below w.heap.size w w' := by
  have HB := Aside0.mk (Below.refl w.heap.size w)
  have H : ((key_number.f 1261).bind fun t116 => (some t116)) = some r := h
  clear h
  replace H := Option.bind_eq_some_iff.mp H
  obtain ⟨t116, A10, H⟩ := H
  replace H : (some t116) = some r := H
  have A1 := Aside0.mk A10
  clear A10
  obtain rfl := Option.some.inj H
  go_enter Try.func20, Try.ntmps20
  go_wp2_with (first | ((with_reducible refine gate_callee (f := 48) rfl ?_); refine goesL_ (some 1) rfl rfl Try.func48 (by kernel_rfl) rfl #[.int .i64 1261] rfl (by (try simp only [List.map_toArray, List.map_cons, List.map_nil]); first | done | rfl | (simp only [List.length_drop, List.length_take]; rfl)) ?_; (with_reducible refine (key_number.calls 1261 t116 _ A1.out).mono ?_); rintro e w2 ⟨rfl, hb⟩; refine ⟨_, rfl, ?_⟩; have n0_ := Aside0.mk (below_step (by repeat (first | (with_reducible first | exact HB.out | apply below_alloc | apply pw_below_drewN | apply below_drew1) | exact HB.out)) hb); clear HB; have HB := n0_; clear n0_; (try clear hb); (try clear hb2); (try clear hk); (try clear hi)))
  go_ret
  exact ⟨by first | rfl | (simp [errW_none, errW_some] <;> rfl) | (simp [*, errW_none, errW_some] <;> rfl), by repeat (first | (with_reducible first | exact HB.out | apply below_alloc | apply pw_below_drewN | apply below_drew1) | exact HB.out)⟩

/-! ### board_Side: function 43 -/
def board_Side.f (a0 : Int) : Option (Int) := (strings_IndexByte.f (⟨#[75, 65, 66, 78, 82, 67, 80]⟩ : ByteArray) a0).bind fun t121 => (if t121 ≥ 0 then (some 0) else ((strings_IndexByte.f (⟨#[107, 97, 98, 110, 114, 99, 112]⟩ : ByteArray) a0).bind fun t122 => (if t122 ≥ 0 then (some 1) else (some (-1)))))
set_option maxHeartbeats 8000000 in
set_option maxRecDepth 100000 in
theorem board_Side.calls (a0 : Int) (r : Int) (w : World) (h : board_Side.f a0 = some r) :
    Calls Try.prog 43 #[.int .u8 a0] w fun e w' => e = .returned (.int .i64 r) ∧ Drawn0 w w' := by
  have H : ((strings_IndexByte.f (⟨#[75, 65, 66, 78, 82, 67, 80]⟩ : ByteArray) a0).bind fun t121 => (if t121 ≥ 0 then (some 0) else ((strings_IndexByte.f (⟨#[107, 97, 98, 110, 114, 99, 112]⟩ : ByteArray) a0).bind fun t122 => (if t122 ≥ 0 then (some 1) else (some (-1)))))) = some r := h
  clear h
  replace H := Option.bind_eq_some_iff.mp H
  obtain ⟨t121, A20, H⟩ := H
  replace H : (if t121 ≥ 0 then (some 0) else ((strings_IndexByte.f (⟨#[107, 97, 98, 110, 114, 99, 112]⟩ : ByteArray) a0).bind fun t122 => (if t122 ≥ 0 then (some 1) else (some (-1))))) = some r := H
  have A2 := Aside0.mk A20
  clear A20
  by_cases c3 : t121 ≥ 0
  · rw [if_pos c3] at H
    have c3b0 : decide (0 ≤ t121) = true := decide_eq_true c3
    clear c3
    obtain rfl := Option.some.inj H
    go_enter Try.func43, Try.ntmps43
    go_wp2_with (first | ((with_reducible refine gate_callee (f := 56) rfl ?_); refine goesL_ (some 5) rfl rfl Try.func56 (by kernel_rfl) rfl #[.string (⟨#[75, 65, 66, 78, 82, 67, 80]⟩ : ByteArray), .int .u8 a0] rfl (by (try simp only [List.map_toArray, List.map_cons, List.map_nil]); first | done | rfl | (simp only [List.length_drop, List.length_take]; rfl)) ?_; (with_reducible refine (strings_IndexByte.calls (⟨#[75, 65, 66, 78, 82, 67, 80]⟩ : ByteArray) a0 t121 _ A2.out).mono ?_); rintro e w' ⟨rfl, ⟨nd, rfl⟩⟩; refine ⟨_, rfl, ?_⟩))
    go_ret
    exact ⟨by first | rfl | (simp; done) | (simp [*]; done), by repeat (first | exact Drawn0.refl _ | apply Drawn0.step)⟩
  · rw [if_neg c3] at H
    have c3b0 : decide (0 ≤ t121) = false := decide_eq_false c3
    clear c3
    replace H := Option.bind_eq_some_iff.mp H
    obtain ⟨t122, A40, H⟩ := H
    replace H : (if t122 ≥ 0 then (some 1) else (some (-1))) = some r := H
    have A4 := Aside0.mk A40
    clear A40
    by_cases c5 : t122 ≥ 0
    · rw [if_pos c5] at H
      have c5b0 : decide (0 ≤ t122) = true := decide_eq_true c5
      clear c5
      obtain rfl := Option.some.inj H
      go_enter Try.func43, Try.ntmps43
      go_wp2_with (first | ((with_reducible refine gate_callee (f := 56) rfl ?_); refine goesL_ (some 5) rfl rfl Try.func56 (by kernel_rfl) rfl #[.string (⟨#[75, 65, 66, 78, 82, 67, 80]⟩ : ByteArray), .int .u8 a0] rfl (by (try simp only [List.map_toArray, List.map_cons, List.map_nil]); first | done | rfl | (simp only [List.length_drop, List.length_take]; rfl)) ?_; (with_reducible refine (strings_IndexByte.calls (⟨#[75, 65, 66, 78, 82, 67, 80]⟩ : ByteArray) a0 t121 _ A2.out).mono ?_); rintro e w' ⟨rfl, ⟨nd, rfl⟩⟩; refine ⟨_, rfl, ?_⟩) | ((with_reducible refine gate_callee (f := 56) rfl ?_); refine goesL_ (some 9) rfl rfl Try.func56 (by kernel_rfl) rfl #[.string (⟨#[107, 97, 98, 110, 114, 99, 112]⟩ : ByteArray), .int .u8 a0] rfl (by (try simp only [List.map_toArray, List.map_cons, List.map_nil]); first | done | rfl | (simp only [List.length_drop, List.length_take]; rfl)) ?_; (with_reducible refine (strings_IndexByte.calls (⟨#[107, 97, 98, 110, 114, 99, 112]⟩ : ByteArray) a0 t122 _ A4.out).mono ?_); rintro e w' ⟨rfl, ⟨nd, rfl⟩⟩; refine ⟨_, rfl, ?_⟩))
      go_ret
      exact ⟨by first | rfl | (simp; done) | (simp [*]; done), by repeat (first | exact Drawn0.refl _ | apply Drawn0.step)⟩
    · rw [if_neg c5] at H
      have c5b0 : decide (0 ≤ t122) = false := decide_eq_false c5
      clear c5
      obtain rfl := Option.some.inj H
      go_enter Try.func43, Try.ntmps43
      go_wp2_with (first | ((with_reducible refine gate_callee (f := 56) rfl ?_); refine goesL_ (some 5) rfl rfl Try.func56 (by kernel_rfl) rfl #[.string (⟨#[75, 65, 66, 78, 82, 67, 80]⟩ : ByteArray), .int .u8 a0] rfl (by (try simp only [List.map_toArray, List.map_cons, List.map_nil]); first | done | rfl | (simp only [List.length_drop, List.length_take]; rfl)) ?_; (with_reducible refine (strings_IndexByte.calls (⟨#[75, 65, 66, 78, 82, 67, 80]⟩ : ByteArray) a0 t121 _ A2.out).mono ?_); rintro e w' ⟨rfl, ⟨nd, rfl⟩⟩; refine ⟨_, rfl, ?_⟩) | ((with_reducible refine gate_callee (f := 56) rfl ?_); refine goesL_ (some 9) rfl rfl Try.func56 (by kernel_rfl) rfl #[.string (⟨#[107, 97, 98, 110, 114, 99, 112]⟩ : ByteArray), .int .u8 a0] rfl (by (try simp only [List.map_toArray, List.map_cons, List.map_nil]); first | done | rfl | (simp only [List.length_drop, List.length_take]; rfl)) ?_; (with_reducible refine (strings_IndexByte.calls (⟨#[107, 97, 98, 110, 114, 99, 112]⟩ : ByteArray) a0 t122 _ A4.out).mono ?_); rintro e w' ⟨rfl, ⟨nd, rfl⟩⟩; refine ⟨_, rfl, ?_⟩))
      go_ret
      exact ⟨by first | rfl | (simp; done) | (simp [*]; done), by repeat (first | exact Drawn0.refl _ | apply Drawn0.step)⟩

/-! ### board_isCell: function 66 -/
def board_isCell.f (a0 : Int) : Option (Bool) := if a0 = 46 then (some true) else ((board_Side.f a0).bind fun t123 => (some (decide (t123 ≥ 0))))
set_option maxHeartbeats 8000000 in
set_option maxRecDepth 100000 in
theorem board_isCell.calls (a0 : Int) (r : Bool) (w : World) (h : board_isCell.f a0 = some r) :
    Calls Try.prog 66 #[.int .u8 a0] w fun e w' => e = .returned (.bool r) ∧ Drawn0 w w' := by
  have H : (if a0 = 46 then (some true) else ((board_Side.f a0).bind fun t123 => (some (decide (t123 ≥ 0))))) = some r := h
  clear h
  by_cases c2 : a0 = 46
  · rw [if_pos c2] at H
    have c2b0 : (a0 == 46) = true := beq_iff_eq.mpr c2
    have c2b1 : (a0 != 46) = false := bne_eq_false_iff_eq.mpr c2
    clear c2
    obtain rfl := Option.some.inj H
    go_enter Try.func66, Try.ntmps66
    go_wp2
    go_ret
    exact ⟨by first | rfl | (simp; done) | (simp [*]; done), by repeat (first | exact Drawn0.refl _ | apply Drawn0.step)⟩
  · rw [if_neg c2] at H
    have c2b0 : (a0 == 46) = false := beq_eq_false_iff_ne.mpr c2
    have c2b1 : (a0 != 46) = true := bne_iff_ne.mpr c2
    replace H := Option.bind_eq_some_iff.mp H
    obtain ⟨t123, A30, H⟩ := H
    replace H : (some (decide (t123 ≥ 0))) = some r := H
    have A3 := Aside0.mk A30
    clear A30
    obtain rfl := Option.some.inj H
    go_enter Try.func66, Try.ntmps66
    go_wp2_with (first | (go_at_call 43; (with_reducible refine (board_Side.calls a0 t123 _ A3.out).mono ?_); rintro e w' ⟨rfl, ⟨nd, rfl⟩⟩))
    go_ret
    exact ⟨by first | rfl | (simp; done) | (simp [*]; done), by repeat (first | exact Drawn0.refl _ | apply Drawn0.step)⟩

end Go.Proofs.Ytmfbgcimfmgobaa.Print

-- of YtmfbgcimfmgobaaPrint6
-- Written by a program of this session (wip/gprint/gprint.py) over the kit's print; the parts marked GIVEN by hand.
namespace Go.Proofs.Ytmfbgcimfmgobaa.Print
open Go.RowKit Go.Proofs.YtmfbgcimfmgobaaW.PrintWords Go.Proofs.YtmfbgcimfmgobaaW.PrintLast Go.Proofs.YtmfbgcimfmgobaaW.PrintMore
attribute [local go_sem] max2_int min2_int max_two min_two max_three min_three max_four min_four   -- for this text's walks alone
set_option linter.unusedVariables false
set_option linter.unusedSimpArgs false
/-! GIVEN board_Is -/
-- GIVEN riverbank/board.Is
-- MAKES yes
-- NEEDS riverbank/board.isCell
-- IMPORT Derived.Test.YtmfbgcimfmgobaaShelf
/-- A byte that may stand on a square. -/
def okCell (b : UInt8) : Bool := b == 46 || b == 75 || b == 65 || b == 66 || b == 78 || b == 67 || b == 82 || b == 80 || b == 107 || b == 97 || b == 98 || b == 110 || b == 99 || b == 114 || b == 112
def strange (r : Nat) : Bool := decide (122 < r) || !okCell r.toUInt8

theorem decode_low (s : ByteArray) (i : Nat) (h : (s.get! i).toNat < 128) : Utf8.decode s i = ((s.get! i).toNat, 1) := by
  unfold Utf8.decode; simp [h]
theorem decode_high (s : ByteArray) (i : Nat) (h : ¬ (s.get! i).toNat < 128) : 122 < (Utf8.decode s i).1 := by
  rw [Lib.decode_at]; unfold Lib.decodeN
  repeat' split
  all_goals (simp; try omega)

theorem okCell_low (b : UInt8) (h : okCell b = true) : b.toNat ≤ 122 := by
  have := u8_all (fun b => !okCell b || decide (b.toNat ≤ 122)) (by decide +kernel) b
  simpa [h] using this
theorem okCell_hi (b : UInt8) (h : 122 < b.toNat) : okCell b = false := by
  cases e : okCell b with
  | false => rfl
  | true => have := okCell_low b e; omega

theorem idx_from (s : ByteArray) : ∀ (f pos : Nat), s.size - pos ≤ f → (Lib.idxFuncFrom strange true s f pos < 0 ↔ ∀ j, pos ≤ j → j < s.size → okCell (s.get! j) = true) := by
  intro f
  induction f with
  | zero => intro pos h; simp [Lib.idxFuncFrom]; intro j h1 h2; omega
  | succ f ih =>
    intro pos h
    unfold Lib.idxFuncFrom
    by_cases hp : pos < s.size
    · rw [if_pos hp]
      by_cases hb : (s.get! pos).toNat < 128
      · rw [decode_low s pos hb]
        simp only
        have e : strange (s.get! pos).toNat = !okCell (s.get! pos) := by
          unfold strange
          have : ((s.get! pos).toNat).toUInt8 = s.get! pos := by simp
          rw [this]
          by_cases h1 : 122 < (s.get! pos).toNat
          · simp [h1, okCell_hi _ h1]
          · simp [h1]
        rw [e]
        by_cases hk : okCell (s.get! pos) = true
        · rw [if_neg (by simp [hk]), ih (pos + 1) (by omega)]
          constructor
          · intro hh j h1 h2
            by_cases hj : j = pos
            · subst hj; exact hk
            · exact hh j (by omega) h2
          · intro hh j h1 h2; exact hh j (by omega) h2
        · rw [if_pos (by simp [hk])]
          constructor
          · intro hh; omega
          · intro hh; exact absurd (hh pos (Nat.le_refl _) hp) hk
      · have hd := decode_high s pos hb
        rw [if_pos (by unfold strange; simp [hd])]
        constructor
        · intro hh; omega
        · intro hh
          have := okCell_low _ (hh pos (Nat.le_refl _) hp); omega
    · rw [if_neg hp]
      constructor
      · intro _ j h1 h2; omega
      · intro _; decide

theorem all_okCell (s : ByteArray) : s.data.toList.all okCell = true ↔ ∀ j, j < s.size → okCell (s.get! j) = true := by
  rw [List.all_eq_true]
  constructor
  · intro h j hj
    have e : s.get! j = s.data[j]'hj := by
      simp [ByteArray.get!, hj]
    rw [e]; exact h _ (by simp)
  · intro h x hx
    obtain ⟨j, hj, rfl⟩ := List.getElem_of_mem hx
    have hj' : j < s.size := by simpa using hj
    have := h j hj'
    have e : s.get! j = s.data[j]'hj' := by simp [ByteArray.get!, hj']
    rw [e] at this
    exact this

theorem idx_board (s : ByteArray) : (Lib.idxFunc strange true s < 0) = (s.data.toList.all okCell = true) := by
  rw [all_okCell]; unfold Lib.idxFunc
  rw [idx_from s s.size 0 (by omega)]
  simp
theorem isCell_eq (b : UInt8) : board_isCell.f (b.toNat : Int) = some (okCell b) := by
  have := u8_all (fun b => board_isCell.f (b.toNat : Int) == some (okCell b)) (by decide +kernel) b
  simpa using this
set_option maxHeartbeats 1000000 in
theorem strange_pays (w : World) : PredAt Try.prog 65 #[] encR strange w := fun W r _ => by
  unfold FnGives
  by_cases h : 122 < r
  · have e : strange r = true := by simp [strange, h]
    rw [e]
    have hz : decide ((122 : Int) < (r : Int)) = true := decide_eq_true (by omega)
    go_enter Try.func65, Try.ntmps65
    go_wp2
    go_ret
    exact ⟨rfl, 0, rfl⟩
  · have hz : decide ((122 : Int) < (r : Int)) = false := decide_eq_false (by omega)
    have hm : (r : Int) % 256 = r := by omega
    have hu : (r.toUInt8.toNat : Int) = r := by simp; omega
    have e : strange r = !okCell r.toUInt8 := by simp [strange, h]
    rw [e]
    have hc := isCell_eq r.toUInt8
    rw [hu] at hc
    obtain ⟨b, hb⟩ : ∃ b, b = okCell r.toUInt8 := ⟨_, rfl⟩
    rw [← hb] at hc ⊢
    have HC := Aside0.mk hc
    clear hc hb e hu
    go_enter Try.func65, Try.ntmps65
    go_wp2_with (go_at_call 66; refine (board_isCell.calls _ b _ HC.out).mono ?_; rintro e w' ⟨rfl, ⟨q, rfl⟩⟩)
    go_ret
    exact ⟨rfl, _, rfl⟩
def board_Is.f (a0 : ByteArray) : Option (Bool) := some (decide (a0.size = 90) && a0.data.toList.all okCell)
set_option maxHeartbeats 1000000 in
theorem board_Is.calls (a0 : ByteArray) (r : Bool) (w : World) (h : board_Is.f a0 = some r) :
    Calls Try.prog 41 #[.string a0] w fun e w' => e = .returned (.bool r) ∧ Below w.heap.size w w' := by
  obtain rfl := Option.some.inj h
  by_cases hs : a0.size = 90
  · have hs0 : ((a0.size : Int) == 90) = true := by simp [hs]
    have hI := Try.strings_IndexFunc 65 #[] (enters_of Try.func65 (by kernel_rfl) rfl) strange a0 w (strange_pays w)
    obtain ⟨z, hz⟩ : ∃ z, z = Lib.idxFunc strange true a0 := ⟨_, rfl⟩
    rw [← hz] at hI
    have e : (decide (a0.size = 90) && a0.data.toList.all okCell) = decide (z < 0) := by
      rw [hz]; simp only [hs, decide_true, Bool.true_and, idx_board]; simp
    rw [e]
    clear hz e h
    have HI := Aside0.mk hI
    clear hI hs
    go_enter Try.func41, Try.ntmps41
    go_wp2_with (go_at_call 64; refine HI.out.mono ?_; rintro e w' ⟨rfl, hb⟩)
    go_ret
    exact ⟨rfl, hb⟩
  · have hs0 : ((a0.size : Int) == 90) = false := by simp; omega
    have e : (decide (a0.size = 90) && a0.data.toList.all okCell) = false := by simp [hs]
    rw [e]
    clear e h hs
    go_enter Try.func41, Try.ntmps41
    go_wp2
    go_ret
    exact ⟨rfl, Below.refl _ _⟩

end Go.Proofs.Ytmfbgcimfmgobaa.Print

-- of YtmfbgcimfmgobaaPrint7
-- Written by a program of this session (wip/gprint/gprint.py) over the kit's print; the parts marked GIVEN by hand.
namespace Go.Proofs.Ytmfbgcimfmgobaa.Print
open Go.RowKit Go.Proofs.YtmfbgcimfmgobaaW.PrintWords Go.Proofs.YtmfbgcimfmgobaaW.PrintLast Go.Proofs.YtmfbgcimfmgobaaW.PrintMore
attribute [local go_sem] max2_int min2_int max_two min_two max_three min_three max_four min_four   -- for this text's walks alone
set_option linter.unusedVariables false
set_option linter.unusedSimpArgs false
/-! GIVEN key_Of -/
-- GIVEN riverbank/key.Of
-- MAKES yes
-- NEEDS riverbank/key.number
-- IMPORT Derived.Maps.OwnIn
open Go.Proofs.Ytmfbgcimfmgobaa.RangeB Go.Shelf
attribute [local go_sem] Oper.semAt_some

/-- Where the piece on square j stands in the row of numbers; 0: there is none. -/
def placeN (s : ByteArray) (j : Nat) : Int := (key_place.f (bt s j) j).getD 0
/-- Is place i wanted, when the first n squares have been seen? -/
def wantedN (s : ByteArray) (side : Int) : Nat → Nat → Bool
  | 0, i => decide (i = 1261) && (side == 1)
  | n + 1, i => wantedN s side n i || (decide (0 < placeN s n) && decide (placeN s n = (i : Int)))
/-- The key, when the first m numbers of the row have been seen. -/
def keyFold (s : ByteArray) (side : Int) : Nat → Int
  | 0 => 0
  | m + 1 => if wantedN s side 90 m = true then Go.bits .xor .u64 (keyFold s side m) (rowN m) else keyFold s side m
def key_Of.f (a0_0 : ByteArray) (a0_1 : Int) (a0_2 : Int) (a0_3 : Int) : Option (Int) := (board_Is.f a0_0).bind fun t => if t = true then some (keyFold a0_0 a0_1 1262) else some 0

theorem place_some (c : Int) (n : Nat) (hn : n < 90) : ∃ a, key_place.f c n = some a ∧ 0 ≤ a ∧ a ≤ 1260 := by
  have h1 := idx_lt [75, 65, 66, 78, 82, 67, 80, 107, 97, 98, 110, 114, 99, 112] c.toNat.toUInt8
  have h2 := Lib.indexByte_ge [75, 65, 66, 78, 82, 67, 80, 107, 97, 98, 110, 114, 99, 112] c.toNat.toUInt8
  unfold key_place.f strings_IndexByte.f board_File.f board_isSquare.f
  obtain ⟨t, ht⟩ : ∃ t, t = Lib.indexByte [75, 65, 66, 78, 82, 67, 80, 107, 97, 98, 110, 114, 99, 112] c.toNat.toUInt8 := ⟨_, rfl⟩
  rw [← ht] at h1 h2
  simp only [List.length_cons, List.length_nil] at h1
  simp only [← ht, Option.bind_some]
  clear ht
  by_cases e : t < 0
  · rw [if_pos e]; exact ⟨0, rfl, by omega, by omega⟩
  · rw [if_neg e, if_pos (by omega)]
    simp only [Option.bind_some, show (n : Int) < 90 by omega, decide_true, if_true]
    rw [if_neg (by have := Int.tmod_nonneg (a := (n : Int)) 9 (by omega); omega)]
    rw [w64 (90 * t) (by omega) (by omega), w64 (1 + 90 * t) (by omega) (by omega), w64 (1 + 90 * t + n) (by omega) (by omega)]
    exact ⟨_, rfl, by omega, by omega⟩
theorem placeN_is (s : ByteArray) (j : Nat) (hj : j < 90) : key_place.f (bt s j) j = some (placeN s j) ∧ 0 ≤ placeN s j ∧ placeN s j ≤ 1260 := by
  obtain ⟨a, ha, h0, h1⟩ := place_some (bt s j) j hj
  unfold placeN
  rw [ha]; exact ⟨rfl, h0, h1⟩

section
variable {H : Type} {F : Fence} {nF : Nat} {P : Program} (w : World) {ops : Array Oper} {rest : List Oper} {o : Oper} {a : Act} {Q : Exit → Act → World → Prop}
/-- A composite literal's entry, as a store. -/
theorem wpListIn_insert_own
    (hg : o.guard = none) (m x v : Operand) (t : TypeId) (hop : o.op = Op.insert t m x v)
    (k e : TypeId) (K : Go.Maps.Keyed P k) (ht : P.underlying t = some (.map k e)) (R : Value → Option (DataW H × List MemPlace)) (b n : Nat) (D : DataW H)
    (hm : a.eval m = .map (some b)) (hown : w.ownsMap P k R b n D) (hn : n < maxLen) (key val : Value) (kl : Lit) (hx : a.eval x = key) (hv : a.eval v = val) (hkey : keyOf P k key = some kl)
    (d : DataW H) (ps : List MemPlace) (hval : R val = some (d, ps))
    (hK : ∀ w', w'.ownsMap P k R b (n + 1) (D.put kl d) → w.grownBy w' (some b) → wpListIn F nF P ops Q rest (a.put o.dst undef) w') :
    wpListIn F nF P ops Q (o :: rest) a w := by
  refine wpListIn_plain hg fun K' hK' => ?_
  obtain ⟨w', hrun, r1, r2⟩ := hown.update K ht hn hkey hval
  unfold Oper.wpIn
  refine ⟨by simp [Oper.about, hop], ?_⟩
  rw [Oper.semAt_plain F _ _ (by rw [hop]; intro c hc'; cases hc')]
  simp [execOp, hop, hm, hx, hv, hrun, Result.andThen]
  exact hK' _ _ (hK w' r1 r2)
/-- 'm[k]' at elements that are truths. -/
theorem wpListIn_lookup_own_bool
    (hg : o.guard = none) (m x : Operand) (t : TypeId) (hop : o.op = Op.lookup t m x false)
    (k e : TypeId) (K : Go.Maps.Keyed P k) (ht : P.underlying t = some (.map k e)) (he : P.underlying e = some .bool) (hz : (zeroValue e).run P w = .ok (.bool false) w) (b n : Nat) (D : DataW H)
    (hm : a.eval m = .map (some b)) (hown : w.ownsMap P k (plainElem P e) b n D) (key : Value) (kl : Lit) (hx : a.eval x = key) (hkey : keyOf P k key = some kl) (c : Bool) (hc : D.atKey kl (.lit (.bool false)) = .lit (.bool c))
    (hK : wpListIn F nF P ops Q rest (a.put o.dst (.bool c)) w) :
    wpListIn F nF P ops Q (o :: rest) a w := by
  refine wpListIn_plain hg fun K' hK' => ?_
  obtain ⟨v, ps, hrun, hv⟩ := hown.lookup K ht hz (plainElem_bool he false) hkey
  rw [hc] at hv
  have e1 : v = .bool c := by
    unfold plainElem at hv
    rw [he] at hv
    cases v <;> simp at hv
    rw [hv.1]
  subst e1
  unfold Oper.wpIn
  refine ⟨by simp [Oper.about, hop], ?_⟩
  rw [Oper.semAt_plain F _ _ (by rw [hop]; intro c hc'; cases hc')]
  simp [execOp, hop, hm, hx, hrun, Result.andThen]
  exact hK' _ _ hK
end

/-- The map says which places are wanted. -/
structure Says (s : ByteArray) (side : Int) (n : Nat) (D : DataW Unit) : Prop where
  map : Maps.IsMap D
  at_ : ∀ i : Nat, D.atKey (.int .i64 i) (.lit (.bool false)) = .lit (.bool (wantedN s side n i))
theorem says_start (s : ByteArray) (side : Int) : Says s side 0 ((DataW.map []).put (.int .i64 1261) (.lit (.bool (side == 1)))) := by
  refine ⟨Maps.IsMap.put Maps.isMap_empty _ _, fun i => ?_⟩
  by_cases e : i = 1261
  · subst e
    rw [show ((1261 : Nat) : Int) = 1261 from rfl, Maps.atKey_put_same Maps.isMap_empty (by exact True.intro)]
    simp [wantedN]
  · rw [Maps.atKey_put_other (by intro h; injection h with _ h; omega)]
    simp [wantedN, e]
    rfl
theorem says_put {s : ByteArray} {side : Int} {n : Nat} {D : DataW Unit} (h : Says s side n D) (hp : 0 < placeN s n) : Says s side (n + 1) (D.put (.int .i64 (placeN s n)) (.lit (.bool true))) := by
  refine ⟨h.map.put _ _, fun i => ?_⟩
  by_cases e : placeN s n = (i : Int)
  · rw [← e, Maps.atKey_put_same h.map (by exact True.intro)]
    simp [wantedN, e]; omega
  · rw [Maps.atKey_put_other (by intro hh; injection hh with _ hh; exact e hh.symm), h.at_]
    simp [wantedN, e]
theorem says_skip {s : ByteArray} {side : Int} {n : Nat} {D : DataW Unit} (h : Says s side n D) (hp : ¬ 0 < placeN s n) : Says s side (n + 1) D := by
  refine ⟨h.map, fun i => ?_⟩
  rw [h.at_]; simp [wantedN]; omega
set_option maxRecDepth 100000 in
set_option maxHeartbeats 400000 in
theorem key_Of.board (a0_0 : ByteArray) (a0_1 : Int) (a0_2 : Int) (a0_3 : Int) (w : World) (hI : board_Is.f a0_0 = some true) :
    Calls Try.prog 23 #[.agg #[.string a0_0, .int .i64 a0_1, .int .i64 a0_2, .int .i64 a0_3]] w fun e w' => e = .returned (.int .u64 (keyFold a0_0 a0_1 1262)) ∧ Below w.heap.size w w' := by
  have hsz : a0_0.size = 90 := by
    unfold board_Is.f at hI; have := Option.some.inj hI; simp at this; exact this.1
  have HI := Aside0.mk hI
  clear hI
  have hs1 : a0_0.size ≤ 90 := by omega
  have hs2 : 90 ≤ a0_0.size := by omega
  clear hsz
  have hmm := @run_makeMap Try.prog
  refine (callsIn_wide (n := 6)).1 ?_
  have h1 : 1 ≤ 6 := by decide
  refine callsIn_of_wp_marks Try.func23 rfl trivial ?_ rfl
  simp only [Try.ntmps23, List.size_toArray, List.length_cons, List.length_nil, Nat.reduceAdd, Nat.reduceSub, Array.replicate_succ, Array.replicate_zero, List.push_toArray, List.append_toArray, List.nil_append, List.cons_append]
  gi_wp2
  refine ⟨trivial, ?_⟩
  refine (callsIn_wide.2 (board_Is.calls _ true _ HI.out)).mono ?_
  rintro e w1 ⟨rfl, hb1⟩
  have c0 : w1.cell? ⟨w.heap.size, 0, none⟩ = some (.string a0_0) := (hb1.cell (p := ⟨w.heap.size, 0, none⟩) (by simp)).trans (by simp)
  have c1 : w1.cell? ⟨w.heap.size, 1, none⟩ = some (.int .i64 a0_1) := (hb1.cell (p := ⟨w.heap.size, 1, none⟩) (by simp)).trans (by simp)
  have hB1 : Below w.heap.size w w1 := ((Below.refl _ w).alloc (Nat.le_refl _) _).trans (hb1.mono (by simp))
  have hz1 : w.heap.size + 1 ≤ w1.heap.size := by have := hb1.size; simp at this; omega
  clear hb1
  have hm0 := World.ownsMap_made w1 Try.prog 3 (plainElem (H := Unit) Try.prog 4)
  have c1' := cell_later_alloc (.map #[] 0) c1
  gi_wp2_with (refine wpListIn_insert_own _ rfl (.tmp 13) (.const (.int .i64 1261)) (.tmp 16) 66 rfl 3 4 (Maps.int_keyed Try.underlying3) Try.underlying66 _ w1.heap.size 0 _ rfl hm0 (by unfold maxLen; omega) _ _ (.int .i64 1261) rfl rfl (Maps.keyOf_int_mk Try.underlying3 (by decide)) _ [] (plainElem_bool Try.underlying4 (a0_1 == 1)) ?_; intro w2 hown2 hgrow2)
  have d0 : w2.cell? ⟨w.heap.size, 0, none⟩ = some (.string a0_0) := by
    obtain ⟨es, ck, hh, _⟩ := hm0
    exact cell_kept (cell_later_alloc _ c0) hgrow2 (fun r e => by cases e; exact ⟨_, hh, rfl⟩)
  have hB2 : Below w.heap.size w w2 := (hB1.alloc hB1.size _).grown hgrow2 (hB1.alloc hB1.size _).size (fun k e => by cases e; omega)
  have hz2 : w1.heap.size + 1 ≤ w2.heap.size := by have := hgrow2.size; simpa using this
  have hS0 := says_start a0_0 a0_1
  have hO : ∃ D, w2.ownsMap Try.prog 3 (plainElem (H := Unit) Try.prog 4) w1.heap.size 1 D ∧ Says a0_0 a0_1 0 D := ⟨_, hown2, hS0⟩
  obtain ⟨mb, hmb⟩ : ∃ mb, mb = w1.heap.size := ⟨_, rfl⟩
  rw [← hmb] at hO hz2 hz1 ⊢
  clear hmb hB1
  clear hown2 hgrow2 hS0 c1' c0 c1 hm0 hmm
  have e1 := cell_new w2 (.map (some mb)) 66
  gi_loopw [18] (fun i wr => ∃ k : Nat, i = .int .i64 k ∧ k ≤ 90 ∧ wr.cell? ⟨w.heap.size, 0, none⟩ = some (.string a0_0) ∧ wr.cell? ⟨w2.heap.size, 0, none⟩ = some (.map (some mb)) ∧
      (∃ D, wr.ownsMap Try.prog 3 (plainElem (H := Unit) Try.prog 4) mb (k + 1) D ∧ Says a0_0 a0_1 k D) ∧ Below w.heap.size w wr) (fun i _ => 90 - (intOf i).toNat)
  case atStart =>
    refine ⟨0, rfl, by omega, cell_later_alloc _ d0, e1.1, ?_, hB2.alloc hB2.size _⟩
    obtain ⟨D, hD, hS⟩ := hO
    exact ⟨D, hD.alloc _, hS⟩
  case round =>
    clear d0 hB2 hO e1
    obtain ⟨k, rfl, hk, f0, f1, ⟨D, hD, hS⟩, hB⟩ := hrel
    by_cases hlt : k < 90
    · obtain ⟨hp, hp0, hp1⟩ := placeN_is a0_0 k hlt
      have hk' : k < a0_0.size := by omega
      have ex : ((a0_0[k]'hk').toNat : Int) = bt a0_0 k := by simp [bt, hk']
      rw [← ex] at hp
      have hput := says_put hS
      have hskip := says_skip hS
      obtain ⟨p, hpe⟩ : ∃ p, p = placeN a0_0 k := ⟨_, rfl⟩
      rw [← hpe] at hp hp0 hp1 hput hskip
      have HP := Aside0.mk hp
      have hwf : (Lit.int .i64 p).wf = true := by
        have := wrap64_wf p
        rwa [w64 p (by omega) (by omega)] at this
      clear hp ex hpe
      by_cases hpos : 0 < p
      · have HS := hput hpos
        clear hput hskip hS
        gi_wp2
        refine ⟨trivial, ?_⟩
        (with_reducible refine (callsIn_wide.2 (key_place.calls _ _ _ _ HP.out)).mono ?_)
        rintro e w' ⟨rfl, ⟨q, rfl⟩⟩
        have hD' : (wr.drewN q).ownsMap Try.prog 3 (plainElem (H := Unit) Try.prog 4) mb (k + 1) D := hD
        have f0' : (wr.drewN q).cell? ⟨w.heap.size, 0, none⟩ = some (.string a0_0) := f0
        have f1' : (wr.drewN q).cell? ⟨w2.heap.size, 0, none⟩ = some (.map (some mb)) := f1
        have hB' : Below w.heap.size w (wr.drewN q) := ⟨hB.os, hB.tape, hB.output, hB.size, hB.block⟩
        clear hD f0 f1 hB
        gi_wp2_with (gi_at_mapUpdate; refine wpListIn_mapUpdate_own _ rfl _ _ _ 66 rfl 3 4 (Maps.int_keyed Try.underlying3) Try.underlying66 _ mb (k + 1) _ rfl hD' (by unfold maxLen; omega) _ _ (.int .i64 p) rfl rfl (Maps.keyOf_int_mk Try.underlying3 hwf) _ [] (plainElem_bool Try.underlying4 true) ?_; intro w3 hown3 hgrow3)
        go_roundw
        case rel =>
          obtain ⟨es, ck, hh, _⟩ := hD'
          exact ⟨k + 1, by go_num, by omega, cell_kept f0' hgrow3 (fun r e => by cases e; exact ⟨_, hh, rfl⟩), cell_kept f1' hgrow3 (fun r e => by cases e; exact ⟨_, hh, rfl⟩), ⟨_, hown3, HS⟩, hB'.grown hgrow3 hB'.size (fun k e => by cases e; omega)⟩
        case measure => simp [intOf]; omega
      · have HS := hskip hpos
        clear hput hskip hS
        gi_wp2
        refine ⟨trivial, ?_⟩
        (with_reducible refine (callsIn_wide.2 (key_place.calls _ _ _ _ HP.out)).mono ?_)
        rintro e w' ⟨rfl, ⟨q, rfl⟩⟩
        gi_wp2
        go_roundw
        case rel => exact ⟨k + 1, by go_num, by omega, f0, f1, ⟨D, hD.mono (by omega), HS⟩, ⟨hB.os, hB.tape, hB.output, hB.size, hB.block⟩⟩
        case measure => simp [intOf]; omega
    · obtain rfl : k = 90 := by omega
      gi_wp2
      refine ⟨trivial, ?_⟩
      refine (key_row_in _ _).mono ?_
      rintro e w' ⟨rfl, rfl⟩
      gi_wp2
      have g0 := cell_new wr (.int .u64 0) 22
      have hmb := hD.lt
      have hwr : w.heap.size ≤ wr.heap.size := hB.size
      have hw2 : w2.heap.size < wr.heap.size := by
        obtain ⟨o, ho, _⟩ := cells_of_cell f1
        exact (Array.getElem?_eq_some_iff.1 ho).1
      refine wpIn_range_endless rfl h1 (gf := 70) (lb := #[]) rfl trivial (enters_of Try.func70 (by kernel_rfl) rfl) (row_endless 5 (by decide) 1262 (by omega) _) (Below.refl _ _) (fun _ => rfl)
        (fun pre W => ((W.cell? ⟨w2.heap.size, 0, none⟩ = some (.map (some mb)) ∧ W.cell? ⟨wr.heap.size, 0, none⟩ = some (.int .u64 (keyFold a0_0 a0_1 pre.length)) ∧ W.frozen? ⟨wr.heap.size, 0, none⟩ = false ∧ W.ownsMap Try.prog 3 (plainElem (H := Unit) Try.prog 4) mb 91 D) ∧ pre.length ≤ 1261) ∧ Below w.heap.size w W)
        (fun c pre W => (c = .exit 2 ∧ W.cell? ⟨wr.heap.size, 0, none⟩ = some (.int .u64 (keyFold a0_0 a0_1 1262))) ∧ Below w.heap.size w W)
        (OwnFrom.and (OwnFrom.and (fun s A B row hs hg hr => ⟨cell_kept hs.1 hg (fun r e => (hr r e).2), cell_kept hs.2.1 hg (fun r e => (hr r e).2), (frozen_kept hs.2.1 hg (fun r e => (hr r e).2)).trans hs.2.2.1, hs.2.2.2.kept hg (fun e => by have := (hr _ e.symm).1; simp at this; omega)⟩) (fun _ _ _ _ hs _ _ => hs)) (ownFrom_below (Nat.le_refl _) (by simp; omega)))
        (fun c => OwnFrom.and (fun s A B row hs hg hr => ⟨hs.1, cell_kept hs.2 hg (fun r e => (hr r e).2)⟩) (ownFrom_below (Nat.le_refl _) (by simp; omega)))
        (fun pre W hi => by have := hi.1.2; omega)
        ⟨⟨⟨cell_later_alloc _ f1, g0.1, g0.2, hD.alloc _⟩, by simp⟩, hB.alloc hB.size _⟩
        (fun i => { tmps := #[.agg #[.string a0_0, .int .i64 a0_1, .int .i64 a0_2, .int .i64 a0_3], .pointer (some ⟨w.heap.size, 0, none⟩), .int .u64 0, .pointer (some ⟨w2.heap.size, 0, none⟩), u4, u5, .pointer (some ⟨wr.heap.size, 0, none⟩), .int .i64 i, .int .u64 (rowN i), .pointer (some ⟨w.heap.size, 0, none⟩), .string a0_0, .bool true, .bool false, .map (some mb), .pointer (some ⟨w.heap.size, 1, none⟩), .int .i64 a0_1, .bool (a0_1 == 1),
          .map (some mb), .int .i64 90, .bool false, u20, u21, u22, u23, u24, u25, u26, u27, u28, u29, u30, u31, .func (.func 70) #[] #[], .int .i64 i, .int .u64 (rowN i), undef, undef, undef, undef, undef, undef, undef, undef, undef], defers := [] }) ?assign ?body ?stop
      case assign =>
        intro l x W K hK
        gi_wp2
        exact hK
      case body =>
        rintro l pre x W ⟨⟨⟨hc1, hc2, hf2, hown⟩, hlen⟩, hBW⟩ rfl
        have hsay := hS.at_ pre.length
        have hfold : keyFold a0_0 a0_1 (pre.length + 1) = if wantedN a0_0 a0_1 90 pre.length = true then Go.bits .xor .u64 (keyFold a0_0 a0_1 pre.length) (rowN pre.length) else keyFold a0_0 a0_1 pre.length := rfl
        obtain ⟨c, hc⟩ : ∃ c, c = wantedN a0_0 a0_1 90 pre.length := ⟨_, rfl⟩
        rw [← hc] at hsay hfold
        obtain ⟨m, hm⟩ : ∃ m, m = pre.length := ⟨_, rfl⟩
        obtain ⟨y, hy⟩ : ∃ y, y = keyFold a0_0 a0_1 m := ⟨_, rfl⟩
        rw [← hm, ← hy] at hfold
        rw [← hm] at hsay hlen hc2 ⊢
        rw [← hy] at hc2
        have HF := Aside0.mk hfold
        have HS := Aside0.mk hsay
        have HM := Aside0.mk hm
        clear hfold hsay hc hy hm
        have hwf : (Lit.int .i64 (m : Int)).wf = true := by
          have := wrap64_wf (m : Int)
          rwa [w64 (m : Int) (by omega) (by omega)] at this
        gi_wp2_with (gi_at_lookup; refine wpListIn_lookup_own_bool _ rfl _ _ 66 rfl 3 4 (Maps.int_keyed Try.underlying3) Try.underlying66 Try.underlying4 (Try.zeroValue4 _) mb 91 _ rfl hown _ _ rfl (Maps.keyOf_int_mk Try.underlying3 hwf) c HS.out ?_)
        · have h61 : m = 1261 := by
            have : ((m : Int) == 1261) = true := by assumption
            simp at this; omega
          have hv := HF.out
          rw [if_pos (by assumption), h61] at hv
          rw [h61]
          exact ⟨(KeepsOthers.setCell _ _ _).from _, ⟨rfl, by rw [hv]; exact World.cell?_setCell_same' _ _ _ (by rw [hc2]; rfl)⟩, hBW.setCell (p := ⟨wr.heap.size, 0, none⟩) (by simp; omega) _⟩
        · have h61 : m ≠ 1261 := by
            have : ((m : Int) == 1261) = false := by assumption
            simp at this; omega
          have hv := HF.out
          rw [if_pos (by assumption)] at hv
          have hm := HM.out
          exact ⟨(KeepsOthers.setCell _ _ _).from _, ⟨⟨(World.cell?_setCell_other W ⟨wr.heap.size, 0, none⟩ ⟨w2.heap.size, 0, none⟩ _ (by intro e; injection e; omega)).trans hc1, by rw [List.length_append, ← hm]; simp only [List.length_cons, List.length_nil, Nat.zero_add]; rw [hv]; exact World.cell?_setCell_same' _ _ _ (by rw [hc2]; rfl), by rw [World.frozen?_setCell]; exact hf2, hown.kept (grownBy_setCell' W wr.heap.size _) (by intro e; cases e; omega)⟩, by simp; omega⟩, hBW.setCell (p := ⟨wr.heap.size, 0, none⟩) (by simp; omega) _⟩
        · have h61 : m = 1261 := by
            have : ((m : Int) == 1261) = true := by assumption
            simp at this; omega
          have hv := HF.out
          have hcf : c = false := by assumption
          rw [hcf, if_neg (by decide), h61] at hv
          exact ⟨(KeepsOthers.refl _).from _, ⟨rfl, by rw [hv]; exact hc2⟩, hBW⟩
        · have h61 : m ≠ 1261 := by
            have : ((m : Int) == 1261) = false := by assumption
            simp at this; omega
          have hv := HF.out
          have hcf : c = false := by assumption
          rw [hcf, if_neg (by decide)] at hv
          have hm := HM.out
          exact ⟨(KeepsOthers.refl _).from _, ⟨⟨hc1, by rw [List.length_append, ← hm]; simp only [List.length_cons, List.length_nil, Nat.zero_add]; rw [hv]; exact hc2, hf2, hown⟩, by simp; omega⟩, hBW⟩
      case stop =>
        rintro Dd c pre W hDd ⟨⟨rfl, hc⟩, hBW⟩ hK
        gi_wp2
        refine ⟨by simp, .inl ⟨_, _, rfl, run_takeDeferred hK, ?_⟩⟩
        exact ⟨_, results_tmp rfl _ _ _, rfl, hBW.trans (belowK_b (w := w) (Nat.le_refl _) W Dd _ _ (by simp at hDd; omega) hK rfl rfl)⟩

set_option maxHeartbeats 1000000 in
theorem key_Of.other (a0_0 : ByteArray) (a0_1 : Int) (a0_2 : Int) (a0_3 : Int) (w : World) (hI : board_Is.f a0_0 = some false) :
    Calls Try.prog 23 #[.agg #[.string a0_0, .int .i64 a0_1, .int .i64 a0_2, .int .i64 a0_3]] w fun e w' => e = .returned (.int .u64 0) ∧ Below w.heap.size w w' := by
  have HI := Aside0.mk hI
  clear hI
  go_enter Try.func23, Try.ntmps23
  go_wp2_with (go_at_call 41; refine (board_Is.calls _ false _ HI.out).mono ?_; rintro e w1 ⟨rfl, hb1⟩)
  go_ret
  exact ⟨rfl, ((Below.refl _ w).alloc (Nat.le_refl _) _).trans (hb1.mono (by simp))⟩

theorem key_Of.calls (a0_0 : ByteArray) (a0_1 : Int) (a0_2 : Int) (a0_3 : Int) (r : Int) (w : World) (h : key_Of.f a0_0 a0_1 a0_2 a0_3 = some r) :
    Calls Try.prog 23 #[.agg #[.string a0_0, .int .i64 a0_1, .int .i64 a0_2, .int .i64 a0_3]] w fun e w' => e = .returned (.int .u64 r) ∧ Below w.heap.size w w' := by
  unfold key_Of.f at h
  obtain ⟨b, hb, h⟩ := Option.bind_eq_some_iff.mp h
  cases b with
  | true => rw [if_pos rfl] at h; obtain rfl := Option.some.inj h; exact key_Of.board _ _ _ _ w hb
  | false => rw [if_neg (by decide)] at h; obtain rfl := Option.some.inj h; exact key_Of.other _ _ _ _ w hb

end Go.Proofs.Ytmfbgcimfmgobaa.Print

-- of YtmfbgcimfmgobaaKeyMath
/- The numbers of positions, as natural numbers: the row, the key as a sum of what is wanted, both by the program's text and by the document's. -/
namespace Go.Proofs.Ytmfbgcimfmgobaa.KeyMath
open Go.RowKit Go.Proofs.Ytmfbgcimfmgobaa.Print Go.Proofs.YtmfbgcimfmgobaaW.PrintWords Go.Proofs.YtmfbgcimfmgobaaW.PrintLast
def nxt (x : Nat) : Nat :=
  let y := x ^^^ (x * 8192 % 18446744073709551616)
  let z := y ^^^ (y / 128)
  z ^^^ (z * 131072 % 18446744073709551616)
def rowNat : Nat → Nat
  | 0 => 7640891576956012809
  | n + 1 => nxt (rowNat n)
theorem xor_lt {a b : Nat} (ha : a < 18446744073709551616) (hb : b < 18446744073709551616) : a ^^^ b < 18446744073709551616 := Nat.xor_lt_two_pow (n := 64) ha hb
theorem nxt_lt (x : Nat) (hx : x < 18446744073709551616) : nxt x < 18446744073709551616 := by
  unfold nxt
  have h1 : x ^^^ (x * 8192 % 18446744073709551616) < 18446744073709551616 := xor_lt hx (Nat.mod_lt _ (by decide))
  have h2 := xor_lt h1 (show (x ^^^ (x * 8192 % 18446744073709551616)) / 128 < 18446744073709551616 by omega)
  exact xor_lt h2 (Nat.mod_lt _ (by decide))
theorem rowNat_lt (n : Nat) : rowNat n < 18446744073709551616 := by
  induction n with
  | zero => decide
  | succ n ih => exact nxt_lt _ ih
theorem wrap_mul (x c : Nat) : IntKind.u64.wrap ((x : Int) * (c : Int)) = ((x * c % 18446744073709551616 : Nat) : Int) := by
  rw [IntKind.wrap_u64]; omega
theorem nextN_nat (x : Nat) (hx : x < 18446744073709551616) : nextN (x : Int) = (nxt x : Int) := by
  have h1 : x ^^^ (x * 8192 % 18446744073709551616) < 18446744073709551616 := xor_lt hx (Nat.mod_lt _ (by decide))
  have h2 := xor_lt h1 (show (x ^^^ (x * 8192 % 18446744073709551616)) / 128 < 18446744073709551616 by omega)
  unfold nextN key_Next.f nxt
  simp only [Option.getD_some]
  have e1 : Go.bits .xor .u64 (x : Int) (IntKind.u64.wrap ((x : Int) * 8192)) = ((x ^^^ (x * 8192 % 18446744073709551616) : Nat) : Int) := by
    rw [show (8192 : Int) = ((8192 : Nat) : Int) from rfl, wrap_mul, bits_xor_u64_nat _ _ hx (Nat.mod_lt _ (by decide))]
  rw [e1]
  obtain ⟨y, hy⟩ : ∃ y, y = x ^^^ (x * 8192 % 18446744073709551616) := ⟨_, rfl⟩
  rw [← hy] at h1 h2 ⊢
  have e2 : Go.bits .xor .u64 (y : Int) ((y : Int) / 128) = ((y ^^^ (y / 128) : Nat) : Int) := by
    rw [show (y : Int) / 128 = ((y / 128 : Nat) : Int) by omega, bits_xor_u64_nat _ _ h1 (by omega)]
  rw [e2]
  obtain ⟨z, hz⟩ : ∃ z, z = y ^^^ (y / 128) := ⟨_, rfl⟩
  rw [← hz] at h2 ⊢
  rw [show (131072 : Int) = ((131072 : Nat) : Int) from rfl, wrap_mul, bits_xor_u64_nat _ _ h2 (Nat.mod_lt _ (by decide))]
theorem rowN_nat (n : Nat) : rowN n = (rowNat n : Int) := by
  induction n with
  | zero => rfl
  | succ n ih => unfold rowN rowNat; rw [ih, nextN_nat _ (rowNat_lt n)]

def noZero : Nat → Nat → Bool
  | 0, _ => true
  | n + 1, x => if x == 0 then false else noZero n (nxt x)
theorem noZero_row : ∀ n m, noZero n (rowNat m) = true → ∀ i, i < n → rowNat (m + i) ≠ 0 := by
  intro n
  induction n with
  | zero => intro m _ i hi; omega
  | succ n ih =>
    intro m h i hi
    unfold noZero at h
    split at h
    · cases h
    · rename_i hz
      cases i with
      | zero => simpa using hz
      | succ i =>
        have := ih (m + 1) h i (by omega)
        rwa [show m + 1 + i = m + (i + 1) by omega] at this
theorem rows_nz : noZero 1262 7640891576956012809 = true := by decide +kernel
theorem row_nz {i : Nat} (hi : i < 1262) : rowNat i ≠ 0 := by
  have := noZero_row 1262 0 rows_nz i hi
  rwa [Nat.zero_add] at this

/-! The sum of what is wanted. -/
def X (W : Nat → Bool) : Nat → Nat
  | 0 => 0
  | m + 1 => X W m ^^^ (if W m = true then rowNat m else 0)
theorem X_lt (W : Nat → Bool) (m : Nat) : X W m < 18446744073709551616 := by
  induction m with
  | zero => unfold X; omega
  | succ m ih =>
    unfold X
    refine xor_lt ih ?_
    split
    · exact rowNat_lt m
    · decide
theorem X_congr {W W' : Nat → Bool} (m : Nat) (h : ∀ i, i < m → W i = W' i) : X W m = X W' m := by
  induction m with
  | zero => rfl
  | succ m ih => unfold X; rw [ih (fun i hi => h i (by omega)), h m (by omega)]
theorem xor_swap (a b c : Nat) : a ^^^ b ^^^ c = a ^^^ c ^^^ b := by rw [Nat.xor_assoc, Nat.xor_comm b c, ← Nat.xor_assoc]
theorem X_more {W W' : Nat → Bool} (a : Nat) (ha : W a = false) (h : ∀ i, W' i = (W i || decide (i = a))) (m : Nat) (hm : a < m) : X W' m = X W m ^^^ rowNat a := by
  induction m with
  | zero => omega
  | succ m ih =>
    unfold X
    by_cases e : m = a
    · subst e
      rw [X_congr (W := W') (W' := W) m (fun i hi => by rw [h i]; simp; omega), h m, ha]
      simp
    · rw [ih (by omega), h m]
      have e2 : decide (m = a) = false := by simpa using e
      rw [e2, Bool.or_false, xor_swap]
theorem keyFold_X (s : ByteArray) (side : Int) (m : Nat) : keyFold s side m = (X (wantedN s side 90) m : Int) := by
  induction m with
  | zero => rfl
  | succ m ih =>
    unfold keyFold X
    split
    · rw [ih, rowN_nat, bits_xor_u64_nat _ _ (X_lt _ _) (rowNat_lt m)]
    · rw [ih, Nat.xor_zero]
/-- What the piece on square j counts. -/
def vN (s : ByteArray) (j : Nat) : Nat := if 0 < placeN s j then rowNat (placeN s j).toNat else 0
def vSum (s : ByteArray) : Nat → Nat
  | 0 => 0
  | n + 1 => vSum s n ^^^ vN s n
def turnV (side : Int) : Nat := if side = 1 then rowNat 1261 else 0
theorem place_mod (c : Int) (n : Nat) (hn : n < 90) (a : Int) (h : key_place.f c n = some a) (ha : 0 < a) : a % 90 = (n + 1) % 90 ∧ a ≤ 1260 := by
  have h1 := idx_lt [75, 65, 66, 78, 82, 67, 80, 107, 97, 98, 110, 114, 99, 112] c.toNat.toUInt8
  have h2 := Lib.indexByte_ge [75, 65, 66, 78, 82, 67, 80, 107, 97, 98, 110, 114, 99, 112] c.toNat.toUInt8
  unfold key_place.f strings_IndexByte.f board_File.f board_isSquare.f at h
  obtain ⟨t, ht⟩ : ∃ t, t = Lib.indexByte [75, 65, 66, 78, 82, 67, 80, 107, 97, 98, 110, 114, 99, 112] c.toNat.toUInt8 := ⟨_, rfl⟩
  rw [← ht] at h1 h2
  simp only [List.length_cons, List.length_nil] at h1
  simp only [← ht, Option.bind_some] at h
  clear ht
  by_cases e : t < 0
  · rw [if_pos e] at h; cases h; omega
  · rw [if_neg e, if_pos (by omega)] at h
    simp only [Option.bind_some, show (n : Int) < 90 by omega, decide_true, if_true] at h
    rw [if_neg (by have := Int.tmod_nonneg (a := (n : Int)) 9 (by omega); omega)] at h
    rw [w64 (90 * t) (by omega) (by omega), w64 (1 + 90 * t) (by omega) (by omega), w64 (1 + 90 * t + n) (by omega) (by omega)] at h
    have := Option.some.inj h
    omega
theorem wanted_fresh (s : ByteArray) (side : Int) (n : Nat) (hn : n < 90) (hp : 0 < placeN s n) : ∀ m, m ≤ n → wantedN s side m (placeN s n).toNat = false := by
  intro m hm
  obtain ⟨hpn, h0, h1⟩ := placeN_is s n hn
  obtain ⟨q1, q2⟩ := place_mod _ n hn _ hpn hp
  induction m with
  | zero => simp [wantedN]; omega
  | succ m ih =>
    unfold wantedN
    rw [ih (by omega), Bool.false_or]
    by_cases hq : 0 < placeN s m
    · obtain ⟨hpm, _, _⟩ := placeN_is s m (by omega)
      obtain ⟨r1, r2⟩ := place_mod _ m (by omega) _ hpm hq
      have : placeN s m ≠ ((placeN s n).toNat : Int) := by omega
      rw [show decide (placeN s m = ((placeN s n).toNat : Int)) = false from decide_eq_false this, Bool.and_false]
    · rw [show decide (0 < placeN s m) = false from decide_eq_false hq, Bool.false_and]
theorem X_wanted (s : ByteArray) (side : Int) : ∀ n, n ≤ 90 → X (wantedN s side n) 1262 = turnV side ^^^ vSum s n := by
  intro n
  induction n with
  | zero =>
    intro _
    have h0 : X (fun _ => false) 1262 = 0 := by
      have : ∀ m, X (fun _ => false) m = 0 := by
        intro m; induction m with
        | zero => rfl
        | succ m ih => unfold X; rw [ih]; simp
      exact this 1262
    unfold turnV vSum
    rw [Nat.xor_zero]
    by_cases e : side = 1
    · rw [if_pos e, X_more (W := fun _ => false) 1261 rfl (fun i => by simp [wantedN, e]) 1262 (by omega), h0, Nat.zero_xor]
    · rw [if_neg e]
      refine Eq.trans ?_ h0
      exact X_congr 1262 (fun i _ => by
        have : wantedN s side 0 i = (decide (i = 1261) && (side == 1)) := rfl
        rw [this]; simp [e])
  | succ n ih =>
    intro hn
    have ihn := ih (by omega)
    unfold vSum vN
    by_cases hp : 0 < placeN s n
    · obtain ⟨hpn, h0, h1⟩ := placeN_is s n (by omega)
      rw [if_pos hp, X_more (W := wantedN s side n) (placeN s n).toNat (wanted_fresh s side n (by omega) hp n (Nat.le_refl _)) (fun i => ?_) 1262 (by omega), ihn, Nat.xor_assoc]
      have e1 : wantedN s side (n + 1) i = (wantedN s side n i || (decide (0 < placeN s n) && decide (placeN s n = (i : Int)))) := rfl
      rw [e1, show decide (0 < placeN s n) = true from decide_eq_true hp, Bool.true_and]
      congr 1
      exact decide_eq_decide.mpr ⟨fun h => by omega, fun h => by omega⟩
    · rw [if_neg hp, Nat.xor_zero, ← ihn]
      exact X_congr 1262 (fun i _ => by
        have : wantedN s side (n + 1) i = (wantedN s side n i || (decide (0 < placeN s n) && decide (placeN s n = (i : Int)))) := rfl
        rw [this, show decide (0 < placeN s n) = false from decide_eq_false hp, Bool.false_and, Bool.or_false])
/-- The key of a board. -/
def keyV (s : ByteArray) (side : Int) : Nat := turnV side ^^^ vSum s 90
theorem keyV_lt (s : ByteArray) (side : Int) : keyV s side < 18446744073709551616 := by
  unfold keyV; rw [← X_wanted s side 90 (Nat.le_refl _)]; exact X_lt _ _
theorem keyFold_V (s : ByteArray) (side : Int) : keyFold s side 1262 = (keyV s side : Int) := by
  rw [keyFold_X, X_wanted s side 90 (Nat.le_refl _)]; rfl
theorem key_Of_board (s : ByteArray) (a b c : Int) (h : board_Is.f s = some true) : key_Of.f s a b c = some (keyV s a : Int) := by
  unfold key_Of.f; rw [h]; simp [keyFold_V]
theorem key_Of_other (s : ByteArray) (a b c : Int) (h : board_Is.f s = some false) : key_Of.f s a b c = some 0 := by
  unfold key_Of.f; rw [h]; rfl
theorem turn_f : key_Turn.f = some (rowNat 1261 : Int) := by
  unfold key_Turn.f key_number.f
  rw [if_pos (by decide)]
  show some (rowN 1261) = _
  rw [rowN_nat]
theorem key_sides (s : ByteArray) : Go.bits .xor .u64 (keyV s 0 : Int) (keyV s 1 : Int) = (rowNat 1261 : Int) := by
  rw [bits_xor_u64_nat _ _ (keyV_lt _ _) (keyV_lt _ _)]
  unfold keyV turnV
  rw [if_neg (by decide), if_pos rfl, Nat.zero_xor, Nat.xor_comm (rowNat 1261), ← Nat.xor_assoc, Nat.xor_self, Nat.zero_xor]
end Go.Proofs.Ytmfbgcimfmgobaa.KeyMath

-- of YtmfbgcimfmgobaaBytes
/- What is known of the block of a text's bytes. -/
namespace Go.Proofs.Ytmfbgcimfmgobaa.Print
open Go.RowKit

theorem below_past {w wr W w3 : World} {n : Nat} (hB : Below w.heap.size w wr) (hW : W = wr.drewN n) (hb : Below W.heap.size W w3) : Below w.heap.size w w3 := by
  subst hW
  exact (⟨hB.os, hB.tape, hB.output, hB.size, hB.block⟩ : Below w.heap.size w (wr.drewN n)).trans (hb.mono hB.size)
/-- What is known of the block of a text's bytes. -/
structure HasBytes (W : World) (B : Nat) (l : List UInt8) : Prop where
  cell : ∀ j (h : j < l.length), W.cell? ⟨B, j, none⟩ = some (.int .u8 (l[j].toNat : Int))
  free : ∀ j, j < l.length → W.frozen? ⟨B, j, none⟩ = false
theorem HasBytes.start (w : World) (e : TypeId) (s : ByteArray) : HasBytes (Lib.bytesWorld w e s) w.heap.size s.data.toList := by
  refine ⟨fun j h => ?_, fun j h => ?_⟩
  · have hj : j < s.size := by simpa using h
    rw [Lib.bytesWorld_cell w e s j hj]
    simp [List.getD, hj]
  · have hn := Lib.bytesWorld_at_new w e s
    have hj : j < s.data.size := by simpa using h
    have hb : j < (Lib.bytesCells w e s).size := by
      have h2 : s.data.size = s.size := rfl
      unfold Lib.bytesCells; simp; omega
    obtain ⟨m, hm⟩ : ∃ m, m = Lib.bytesCells w e s := ⟨_, rfl⟩
    rw [← hm] at hn hb
    simp only [World.frozen?, hn]
    rw [show decide (m.size ≤ j) = false from decide_eq_false (by omega)]
    rfl
theorem HasBytes.set {W : World} {B : Nat} {l : List UInt8} (h : HasBytes W B l) (i : Nat) (hi : i < l.length) (c : UInt8) : HasBytes (W.setCell ⟨B, i, none⟩ (.int .u8 (c.toNat : Int))) B (l.set i c) := by
  refine ⟨fun j hj => ?_, fun j hj => ?_⟩
  · have hj' : j < l.length := by simpa using hj
    by_cases e : i = j
    · subst e
      rw [World.cell?_setCell_same' _ _ _ (by rw [h.cell i hi]; rfl)]
      simp
    · rw [World.cell?_setCell_other W ⟨B, i, none⟩ ⟨B, j, none⟩ _ (by intro x; injection x; omega), h.cell j hj']
      simp [e]
  · rw [World.frozen?_setCell]; exact h.free j (by simpa using hj)

theorem HasBytes.drewN {W : World} {B : Nat} {l : List UInt8} (h : HasBytes W B l) (n : Nat) : HasBytes (W.drewN n) B l := ⟨h.cell, h.free⟩
theorem below_bytes (w : World) (e : TypeId) (s : ByteArray) : Below w.heap.size w (Lib.bytesWorld w e s) :=
  ⟨rfl, rfl, rfl, by rw [Lib.bytesWorld_size]; omega, fun j hj => Lib.bytesWorld_at_old w e s j hj⟩

theorem addr_add0 (B k : Nat) : (⟨B, 0, none⟩ : Addr).add k = ⟨B, k, none⟩ := by
  unfold Addr.add; split <;> simp_all
theorem one_back {P : Program} (W : World) (src dst e : TypeId) (g : Nat) (c : UInt8) (hs : P.underlying src = some (.slice e)) (he : P.underlying e = some (.int .u8)) (hd : P.underlying dst = some .string)
    (hg : W.cell? ⟨g, 0, none⟩ = some (.int .u8 (c.toNat : Int))) : (convert src dst (.slice (some ⟨g, 0, none⟩) 1 1)).run P W = .ok (.string ⟨#[c]⟩) W := by
  refine run_convert_bytes_back W src dst e ⟨g, 0, none⟩ 1 [c] hs he hd (fun k hk => ?_)
  have hk0 : k = 0 := by simpa using hk
  subst hk0
  rw [addr_add0]; exact hg
end Go.Proofs.Ytmfbgcimfmgobaa.Print

-- of YtmfbgcimfmgobaaPrint8
-- Written by a program of this session (wip/gprint/gprint.py) over the kit's print; the parts marked GIVEN by hand.
namespace Go.Proofs.Ytmfbgcimfmgobaa.Print
open Go.RowKit Go.Proofs.YtmfbgcimfmgobaaW.PrintWords Go.Proofs.YtmfbgcimfmgobaaW.PrintLast Go.Proofs.YtmfbgcimfmgobaaW.PrintMore
attribute [local go_sem] max2_int min2_int max_two min_two max_three min_three max_four min_four   -- for this text's walks alone
set_option linter.unusedVariables false
set_option linter.unusedSimpArgs false
/-! GIVEN riverbanklaw10_live -/
-- GIVEN riverbank/riverbanklaw10.live
-- MAKES yes
-- IMPORT Derived.Test.YtmfbgcimfmgobaaKeyMath
-- IMPORT Derived.Test.YtmfbgcimfmgobaaBytes
-- IMPORT Derived.Deep.RegionWith
open Go.Proofs.Ytmfbgcimfmgobaa.KeyMath
def startB : ByteArray := ⟨#[82, 78, 66, 65, 75, 65, 66, 78, 82, 46, 46, 46, 46, 46, 46, 46, 46, 46, 46, 67, 46, 46, 46, 46, 46, 67, 46, 80, 46, 80, 46, 80, 46, 80, 46, 80, 46, 46, 46, 46, 46, 46, 46, 46, 46, 46, 46, 46, 46, 46, 46, 46, 46, 46, 112, 46, 112, 46, 112, 46, 112, 46, 112, 46, 99, 46, 46, 46, 46, 46, 99, 46, 46, 46, 46, 46, 46, 46, 46, 46, 46, 114, 110, 98, 97, 107, 97, 98, 110, 114]⟩
theorem start_is : board_Is.f startB = some true := by decide +kernel
def riverbanklaw10_live.f : Option (Bool) := some true
/-- Two positions in memory: the start, and the start with black to move. -/
structure Boxes (W : World) (b c : Nat) (s : ByteArray) : Prop where
  p0 : W.cell? ⟨b, 0, none⟩ = some (.string s)
  p1 : W.cell? ⟨b, 1, none⟩ = some (.int .i64 0)
  p2 : W.cell? ⟨b, 2, none⟩ = some (.int .i64 0)
  p3 : W.cell? ⟨b, 3, none⟩ = some (.int .i64 1)
  q0 : W.cell? ⟨c, 0, none⟩ = some (.string s)
  q1 : W.cell? ⟨c, 1, none⟩ = some (.int .i64 1)
  q2 : W.cell? ⟨c, 2, none⟩ = some (.int .i64 9)
  q3 : W.cell? ⟨c, 3, none⟩ = some (.int .i64 1)
theorem cell_past {W W' w3 : World} {b o : Nat} {v : Value} (h : W.cell? ⟨b, o, none⟩ = some v) (hh : W'.heap = W.heap) (hb : Below W'.heap.size W' w3) : w3.cell? ⟨b, o, none⟩ = some v := by
  have hlt := World.block_lt_of_cell? W _ h
  have e : W'.cell? ⟨b, o, none⟩ = W.cell? ⟨b, o, none⟩ := by simp only [World.cell?, hh]
  exact (hb.cell (p := ⟨b, o, none⟩) (by rw [hh]; exact hlt)).trans (e.trans h)
theorem Boxes.later {W W' w3 : World} {b c : Nat} {s : ByteArray} (h : Boxes W b c s) (hb : Below W'.heap.size W' w3) (hh : W'.heap = W.heap) : Boxes w3 b c s :=
  ⟨cell_past h.p0 hh hb, cell_past h.p1 hh hb, cell_past h.p2 hh hb, cell_past h.p3 hh hb, cell_past h.q0 hh hb, cell_past h.q1 hh hb, cell_past h.q2 hh hb, cell_past h.q3 hh hb⟩
theorem boxes_new (w : World) (s : ByteArray) : Boxes ((w.alloc (.cells #[.string s, .int .i64 0, .int .i64 0, .int .i64 1] 29)).alloc (.cells #[.string s, .int .i64 1, .int .i64 9, .int .i64 1] 29)) w.heap.size (w.heap.size + 1) s := by
  constructor <;> simp
set_option maxRecDepth 100000 in
set_option maxHeartbeats 6000000 in
theorem riverbanklaw10_live.calls (r : Bool) (w : World) (h : riverbanklaw10_live.f = some r) :
    Calls Try.prog 22 #[] w fun e w' => e = .returned (.bool r) ∧ Below w.heap.size w w' := by
  obtain rfl := Option.some.inj h
  clear h
  have n1 : Aside0 (key_Next.f 1 = some 1082269761) := ⟨by decide +kernel⟩
  have n2 : Aside0 (key_Next.f 7640891576956012809 = some 8225832080697643739) := ⟨by decide +kernel⟩
  have c1 : Aside0 (key_Cell.f 75 0 = some 8225832080697643739) := ⟨by decide +kernel⟩
  have c2 : Aside0 (key_Cell.f 46 0 = some 0) := ⟨by decide +kernel⟩
  have c3 : Aside0 (key_Cell.f 75 90 = some 0) := ⟨by decide +kernel⟩
  have k1 : Aside0 (key_Of.f startB 0 0 1 = some (keyV startB 0 : Int)) := ⟨key_Of_board startB 0 0 1 start_is⟩
  have k2 : Aside0 (key_Of.f startB 1 9 1 = some (keyV startB 1 : Int)) := ⟨key_Of_board startB 1 9 1 start_is⟩
  have k3 : Aside0 (key_Of.f ⟨#[]⟩ 0 0 0 = some 0) := ⟨key_Of_other ⟨#[]⟩ 0 0 0 (by decide +kernel)⟩
  have t1 : Aside0 (key_Turn.f = some (rowNat 1261 : Int)) := ⟨turn_f⟩
  have x1 := key_sides startB
  have x2 := row_nz (i := 1261) (by omega)
  obtain ⟨A, hA⟩ : ∃ A : Int, A = (keyV startB 0 : Int) := ⟨_, rfl⟩
  obtain ⟨B, hB⟩ : ∃ B : Int, B = (keyV startB 1 : Int) := ⟨_, rfl⟩
  obtain ⟨T, hT⟩ : ∃ T : Int, T = (rowNat 1261 : Int) := ⟨_, rfl⟩
  have y1 : (Go.bits .xor .u64 A B == T) = true := by rw [hA, hB, hT, x1]; simp
  have y2 : (T != 0) = true := by rw [hT]; simp; omega
  rw [← hA] at k1
  rw [← hB] at k2
  rw [← hT] at t1
  clear x1 x2 hA hB hT
  unfold startB at k1 k2
  go_enter Try.func22, Try.ntmps22
  go_wp2_with (go_at_call 16; (with_reducible refine (key_Next.calls _ _ _ n2.out).mono ?_); rintro e w' ⟨rfl, ⟨q, rfl⟩⟩)
  have hx0 := boxes_new w startB
  have hB0 : Below w.heap.size w ((w.alloc (.cells #[.string startB, .int .i64 0, .int .i64 0, .int .i64 1] 29)).alloc (.cells #[.string startB, .int .i64 1, .int .i64 9, .int .i64 1] 29)) := ((Below.refl _ w).alloc (Nat.le_refl _) _).alloc (by simp) _
  unfold startB at hx0 hB0
  obtain ⟨W0, hW0⟩ : ∃ W0, W0 = (w.alloc (.cells #[.string ⟨#[82, 78, 66, 65, 75, 65, 66, 78, 82, 46, 46, 46, 46, 46, 46, 46, 46, 46, 46, 67, 46, 46, 46, 46, 46, 67, 46, 80, 46, 80, 46, 80, 46, 80, 46, 80, 46, 46, 46, 46, 46, 46, 46, 46, 46, 46, 46, 46, 46, 46, 46, 46, 46, 46, 112, 46, 112, 46, 112, 46, 112, 46, 112, 46, 99, 46, 46, 46, 46, 46, 99, 46, 46, 46, 46, 46, 46, 46, 46, 46, 46, 114, 110, 98, 97, 107, 97, 98, 110, 114]⟩, .int .i64 0, .int .i64 0, .int .i64 1] 29)).alloc (.cells #[.string ⟨#[82, 78, 66, 65, 75, 65, 66, 78, 82, 46, 46, 46, 46, 46, 46, 46, 46, 46, 46, 67, 46, 46, 46, 46, 46, 67, 46, 80, 46, 80, 46, 80, 46, 80, 46, 80, 46, 46, 46, 46, 46, 46, 46, 46, 46, 46, 46, 46, 46, 46, 46, 46, 46, 46, 112, 46, 112, 46, 112, 46, 112, 46, 112, 46, 99, 46, 46, 46, 46, 46, 99, 46, 46, 46, 46, 46, 46, 46, 46, 46, 46, 114, 110, 98, 97, 107, 97, 98, 110, 114]⟩, .int .i64 1, .int .i64 9, .int .i64 1] 29) := ⟨_, rfl⟩
  rw [← hW0] at hx0 hB0 ⊢
  clear hW0
  have fp0 := hx0.p0
  have fp1 := hx0.p1
  have fp2 := hx0.p2
  have fp3 := hx0.p3
  have fq0 := hx0.q0
  have fq1 := hx0.q1
  have fq2 := hx0.q2
  have fq3 := hx0.q3
  go_region_with (first
    | (go_at_call 16; (with_reducible refine (key_Next.calls _ _ _ n1.out).mono ?_); rintro e w' ⟨rfl, ⟨q1, rfl⟩⟩)
    | (go_at_call 18; (with_reducible refine (key_Cell.calls 75 0 _ _ c1.out).mono ?_); rintro e w1 ⟨rfl, hb1⟩; have hB1 : Below w.heap.size w w1 := (by first | exact below_past hB0 rfl hb1 | exact hB0.trans (hb1.mono hB0.size)); clear hB0; have hx1 := Boxes.later hx0 hb1 rfl; have fp10 := hx1.p0; have fp11 := hx1.p1; have fp12 := hx1.p2; have fp13 := hx1.p3; have fq10 := hx1.q0; have fq11 := hx1.q1; have fq12 := hx1.q2; have fq13 := hx1.q3; clear hx0)
    | (go_at_call 18; (with_reducible refine (key_Cell.calls 46 0 _ _ c2.out).mono ?_); rintro e w2 ⟨rfl, hb2⟩; have hB2 : Below w.heap.size w w2 := (by first | exact below_past hB1 rfl hb2 | exact hB1.trans (hb2.mono hB1.size)); clear hB1; have hx2 := Boxes.later hx1 hb2 rfl; have fp20 := hx2.p0; have fp21 := hx2.p1; have fp22 := hx2.p2; have fp23 := hx2.p3; have fq20 := hx2.q0; have fq21 := hx2.q1; have fq22 := hx2.q2; have fq23 := hx2.q3; clear hx1)
    | (go_at_call 18; (with_reducible refine (key_Cell.calls 75 90 _ _ c3.out).mono ?_); rintro e w3 ⟨rfl, hb3⟩; have hB3 : Below w.heap.size w w3 := (by first | exact below_past hB2 rfl hb3 | exact hB2.trans (hb3.mono hB2.size)); clear hB2; have hx3 := Boxes.later hx2 hb3 rfl; have fp30 := hx3.p0; have fp31 := hx3.p1; have fp32 := hx3.p2; have fp33 := hx3.p3; have fq30 := hx3.q0; have fq31 := hx3.q1; have fq32 := hx3.q2; have fq33 := hx3.q3; clear hx2)
    | (go_at_call 23; (with_reducible refine (key_Of.calls _ _ _ _ A _ k1.out).mono ?_); rintro e w4 ⟨rfl, hb4⟩; have hB4 : Below w.heap.size w w4 := (by first | exact below_past hB3 rfl hb4 | exact hB3.trans (hb4.mono hB3.size)); clear hB3; have hx4 := Boxes.later hx3 hb4 rfl; have fp40 := hx4.p0; have fp41 := hx4.p1; have fp42 := hx4.p2; have fp43 := hx4.p3; have fq40 := hx4.q0; have fq41 := hx4.q1; have fq42 := hx4.q2; have fq43 := hx4.q3; clear hx3)
    | (go_at_call 23; (with_reducible refine (key_Of.calls _ _ _ _ B _ k2.out).mono ?_); rintro e w5 ⟨rfl, hb5⟩; have hB5 : Below w.heap.size w w5 := (by first | exact below_past hB4 rfl hb5 | exact hB4.trans (hb5.mono hB4.size)); clear hB4; have hx5 := Boxes.later hx4 hb5 rfl; have fp50 := hx5.p0; have fp51 := hx5.p1; have fp52 := hx5.p2; have fp53 := hx5.p3; have fq50 := hx5.q0; have fq51 := hx5.q1; have fq52 := hx5.q2; have fq53 := hx5.q3; clear hx4)
    | (go_at_call 20; (with_reducible refine (key_Turn.calls T _ t1.out).mono ?_); rintro e w6 ⟨rfl, hb6⟩; have hB6 : Below w.heap.size w w6 := (by first | exact below_past hB5 rfl hb6 | exact hB5.trans (hb6.mono hB5.size)); clear hB5)
    | (go_at_call 20; (with_reducible refine (key_Turn.calls T _ t1.out).mono ?_); rintro e w7 ⟨rfl, hb7⟩; have hB7 : Below w.heap.size w w7 := (by first | exact below_past hB6 rfl hb7 | exact hB6.trans (hb7.mono hB6.size)); clear hB6)
    | (go_at_call 23; (with_reducible refine (key_Of.calls _ _ _ _ 0 _ k3.out).mono ?_); rintro e w8 ⟨rfl, hb8⟩; have hB8 : Below w.heap.size w w8 := (by first | exact below_past hB7 rfl hb8 | exact hB7.trans (hb8.mono hB7.size)); clear hB7))
  all_goals
    go_wp2
    go_ret
    exact ⟨rfl, by assumption⟩

end Go.Proofs.Ytmfbgcimfmgobaa.Print

-- of YtmfbgcimfmgobaaPrint15
-- Written by a program of this session (wip/gprint/gprint.py) over the kit's print; the parts marked GIVEN by hand.
namespace Go.Proofs.Ytmfbgcimfmgobaa.Print
open Go.RowKit Go.Proofs.YtmfbgcimfmgobaaW.PrintWords Go.Proofs.YtmfbgcimfmgobaaW.PrintLast Go.Proofs.YtmfbgcimfmgobaaW.PrintMore
attribute [local go_sem] max2_int min2_int max_two min_two max_three min_three max_four min_four   -- for this text's walks alone
set_option linter.unusedVariables false
set_option linter.unusedSimpArgs false
/-! ### key_Moved: function 28 -/
def key_Moved.f (a0 : Int) (a1 : Int) (a2_0 : Int) (a2_1 : Int) (a3 : Int) : Option (Int) := (key_Cell.f a1 a2_0).bind fun t175 => ((key_Cell.f a1 a2_1).bind fun t176 => ((key_Cell.f a3 a2_1).bind fun t177 => ((key_Turn.f).bind fun t178 => (some (Go.bits .xor .u64 (Go.bits .xor .u64 (Go.bits .xor .u64 (Go.bits .xor .u64 a0 t175) t176) t177) t178)))))
def key_Moved.T1 : Bool × List (List Nat × List Nat) := (true, [([], []), ([], []), ([], []), ([2], [2]), ([1, 3], [1, 3]), ([0, 4], [0, 4]), ([], []), ([], []), ([7], [7]), ([6, 8, 4], [6, 8]), ([5, 9], [5, 9]), ([], []), ([], []), ([12], [12]), ([11, 13, 9], [11, 13]), ([10, 14], [10, 14]), ([14], []), ([15, 16], [15, 16]), ([17, 16, 0, 1, 2, 3, 4, 5, 6, 7, 8, 9, 10, 11, 12, 13, 14, 15, 16, 17], [17])])
def key_Moved.B1 : List Nat := [0, 0, 0, 4, 14, 31, 0, 0, 128, 478, 1023, 0, 0, 4096, 15326, 32767, 31710, 131071, 262143]
theorem key_Moved.tab1 : rtab .any (opsOf Try.f28 1) = key_Moved.T1 := by kernel_rfl
theorem key_Moved.bits1 : waitsOk key_Moved.T1.2 key_Moved.B1 = true := by kernel_rfl
set_option maxHeartbeats 8000000 in
set_option maxRecDepth 100000 in
theorem key_Moved.calls (a0 : Int) (a1 : Int) (a2_0 : Int) (a2_1 : Int) (a3 : Int) (r : Int) (w : World) (h : key_Moved.f a0 a1 a2_0 a2_1 a3 = some r) :
    Calls Try.prog 28 #[.int .u64 a0, .int .u8 a1, .agg #[.int .i64 a2_0, .int .i64 a2_1], .int .u8 a3] w fun e w' => e = .returned (.int .u64 r) ∧ Below w.heap.size w w' := by
  have hu41 := Try.underlying41
  have HB := Aside0.mk (Below.refl w.heap.size w)
  have H : ((key_Cell.f a1 a2_0).bind fun t175 => ((key_Cell.f a1 a2_1).bind fun t176 => ((key_Cell.f a3 a2_1).bind fun t177 => ((key_Turn.f).bind fun t178 => (some (Go.bits .xor .u64 (Go.bits .xor .u64 (Go.bits .xor .u64 (Go.bits .xor .u64 a0 t175) t176) t177) t178)))))) = some r := h
  clear h
  replace H := Option.bind_eq_some_iff.mp H
  obtain ⟨t175, A50, H⟩ := H
  replace H : ((key_Cell.f a1 a2_1).bind fun t176 => ((key_Cell.f a3 a2_1).bind fun t177 => ((key_Turn.f).bind fun t178 => (some (Go.bits .xor .u64 (Go.bits .xor .u64 (Go.bits .xor .u64 (Go.bits .xor .u64 a0 t175) t176) t177) t178))))) = some r := H
  have A5 := Aside0.mk A50
  clear A50
  replace H := Option.bind_eq_some_iff.mp H
  obtain ⟨t176, A60, H⟩ := H
  replace H : ((key_Cell.f a3 a2_1).bind fun t177 => ((key_Turn.f).bind fun t178 => (some (Go.bits .xor .u64 (Go.bits .xor .u64 (Go.bits .xor .u64 (Go.bits .xor .u64 a0 t175) t176) t177) t178)))) = some r := H
  have A6 := Aside0.mk A60
  clear A60
  replace H := Option.bind_eq_some_iff.mp H
  obtain ⟨t177, A70, H⟩ := H
  replace H : ((key_Turn.f).bind fun t178 => (some (Go.bits .xor .u64 (Go.bits .xor .u64 (Go.bits .xor .u64 (Go.bits .xor .u64 a0 t175) t176) t177) t178))) = some r := H
  have A7 := Aside0.mk A70
  clear A70
  replace H := Option.bind_eq_some_iff.mp H
  obtain ⟨t178, A80, H⟩ := H
  replace H : (some (Go.bits .xor .u64 (Go.bits .xor .u64 (Go.bits .xor .u64 (Go.bits .xor .u64 a0 t175) t176) t177) t178)) = some r := H
  have A8 := Aside0.mk A80
  clear A80
  obtain rfl := Option.some.inj H
  go_enter Try.func28, Try.ntmps28
  try go_wp2_with (first | ((with_reducible refine gate_dst (N := 6) rfl ?_); refine box_event ?hg (N := 6) ?hd (cs := #[.int .i64 a2_0, .int .i64 a2_1]) (t := 41) ?hr ?_; (case hd => rfl); (case hg => rfl); (case hr => first | (go_simp; done) | (go_simp; rfl)); intro gb174 hg w9 hbox hb; have n0_ := Aside0.mk (below_step (by repeat (first | (with_reducible first | exact HB.out | apply below_alloc | apply pw_below_drewN | apply below_drew1) | exact HB.out)) hb); have n1_ := Aside0.mk (hbox); have n2_ := Aside0.mk ((by rw [hg]; exact (below_size (by repeat (first | (with_reducible first | exact HB.out | apply below_alloc | apply pw_below_drewN | apply below_drew1) | exact HB.out))) : w.heap.size ≤ gb174)); have n3_ := Aside0.mk ((by rw [hg]; exact (below_size (by repeat (first | (with_reducible first | exact HB.out | apply below_alloc | apply pw_below_drewN | apply below_drew1) | exact HB.out))) : w.heap.size ≤ gb174)); clear HB; have HB := n0_; have BK174 := n1_; have GW174 := n2_; have GE174 := n3_; clear n0_ n1_ n2_ n3_; clear hb hbox hg))
  have n0_ := Aside0.mk (blk_drew BK174.out)
  have n1_ := Aside0.mk (below_drew1 HB.out)
  clear BK174
  clear HB
  have BK174 := n0_
  have HB := n1_
  clear n0_ n1_
  refine start_ (n := 19) (S := fun w' => w'.cell? ⟨gb174, 0, none⟩ = some (.int .i64 a2_0) ∧ w'.cell? ⟨gb174, 1, none⟩ = some (.int .i64 a2_1)) (ds := []) #[false, false, false, false, false, false, false, false, false, false, false, false, false, false, false, false, false, false, false] (by kernel_rfl) rfl rfl ⟨(blk_cell BK174.out 0).trans rfl, (blk_cell BK174.out 1).trans rfl⟩ (fun hHeld => ?_); refine with_tabW key_Moved.tab1 key_Moved.bits1 (fun HT_ HW_ => ?_)
  generalize w9.drew = w10 at BK174 HB hHeld ⊢
  refine pure_ (i := 0) (N := some 9) (v := ?_) (a' := ?_) #[true, false, false, false, false, false, false, false, false, false, false, false, false, false, false, false, false, false, false] rfl rfl (any_of HT_.out (by kernel_rfl)) (fun _ _ _ h => h) (Or.inl ⟨by rfl, ?_⟩) ?_ ?_
  rotate_left
  · intro w'
    go_simp
    with_reducible rfl
  rotate_left
  · simp only [Act.put, List.setIfInBounds_toArray, List.set_cons_zero, List.set_cons_succ, i64_w, i32_w]
    rfl
  refine pure_ (i := 1) (N := some 10) (v := ?_) (a' := ?_) #[true, true, false, false, false, false, false, false, false, false, false, false, false, false, false, false, false, false, false] rfl rfl (any_of HT_.out (by kernel_rfl)) (fun _ _ _ h => h) (Or.inl ⟨by rfl, ?_⟩) ?_ ?_
  rotate_left
  · intro w'
    go_simp
    with_reducible rfl
  rotate_left
  · simp only [Act.put, List.setIfInBounds_toArray, List.set_cons_zero, List.set_cons_succ, i64_w, i32_w]
    rfl
  refine pure_ (i := 2) (N := some 11) (v := ?_) (a' := ?_) #[true, true, true, false, false, false, false, false, false, false, false, false, false, false, false, false, false, false, false] rfl rfl (any_of HT_.out (by kernel_rfl)) (fun _ _ _ h => h) (Or.inl ⟨by rfl, ?_⟩) ?_ ?_
  rotate_left
  · intro w'
    go_simp
    with_reducible rfl
  rotate_left
  · simp only [Act.put, List.setIfInBounds_toArray, List.set_cons_zero, List.set_cons_succ, i64_w, i32_w]
    rfl
  refine pure_ (i := 6) (N := some 15) (v := ?_) (a' := ?_) #[true, true, true, false, false, false, true, false, false, false, false, false, false, false, false, false, false, false, false] rfl rfl (any_of HT_.out (by kernel_rfl)) (fun _ _ _ h => h) (Or.inl ⟨by rfl, ?_⟩) ?_ ?_
  rotate_left
  · intro w'
    go_simp
    with_reducible rfl
  rotate_left
  · simp only [Act.put, List.setIfInBounds_toArray, List.set_cons_zero, List.set_cons_succ, i64_w, i32_w]
    rfl
  refine pure_ (i := 7) (N := some 16) (v := ?_) (a' := ?_) #[true, true, true, false, false, false, true, true, false, false, false, false, false, false, false, false, false, false, false] rfl rfl (any_of HT_.out (by kernel_rfl)) (fun _ _ _ h => h) (Or.inl ⟨by rfl, ?_⟩) ?_ ?_
  rotate_left
  · intro w'
    go_simp
    with_reducible rfl
  rotate_left
  · simp only [Act.put, List.setIfInBounds_toArray, List.set_cons_zero, List.set_cons_succ, i64_w, i32_w]
    rfl
  refine pure_ (i := 11) (N := some 20) (v := ?_) (a' := ?_) #[true, true, true, false, false, false, true, true, false, false, false, true, false, false, false, false, false, false, false] rfl rfl (any_of HT_.out (by kernel_rfl)) (fun _ _ _ h => h) (Or.inl ⟨by rfl, ?_⟩) ?_ ?_
  rotate_left
  · intro w'
    go_simp
    with_reducible rfl
  rotate_left
  · simp only [Act.put, List.setIfInBounds_toArray, List.set_cons_zero, List.set_cons_succ, i64_w, i32_w]
    rfl
  refine pure_ (i := 12) (N := some 21) (v := ?_) (a' := ?_) #[true, true, true, false, false, false, true, true, false, false, false, true, true, false, false, false, false, false, false] rfl rfl (any_of HT_.out (by kernel_rfl)) (fun _ _ _ h => h) (Or.inl ⟨by rfl, ?_⟩) ?_ ?_
  rotate_left
  · intro w'
    go_simp
    with_reducible rfl
  rotate_left
  · simp only [Act.put, List.setIfInBounds_toArray, List.set_cons_zero, List.set_cons_succ, i64_w, i32_w]
    rfl
  refine take_ (i := 3) (N := some 12) (v := ?_) (a' := ?_) #[true, true, true, true, false, false, true, true, false, false, false, true, true, false, false, false, false, false, false] rfl rfl (take_ofW HT_.out HW_.out (by kernel_rfl)) (fun _ _ _ h => h) (Or.inl ⟨by rfl, ?_⟩) hHeld ?_ ?_
  rotate_left
  · rintro w' ⟨s0, s1⟩
    go_simp
    with_reducible rfl
  rotate_left
  · simp only [Act.put, List.setIfInBounds_toArray, List.set_cons_zero, List.set_cons_succ, i64_w, i32_w]
    rfl
  refine take_ (i := 8) (N := some 17) (v := ?_) (a' := ?_) #[true, true, true, true, false, false, true, true, true, false, false, true, true, false, false, false, false, false, false] rfl rfl (take_ofW HT_.out HW_.out (by kernel_rfl)) (fun _ _ _ h => h) (Or.inl ⟨by rfl, ?_⟩) hHeld ?_ ?_
  rotate_left
  · rintro w' ⟨s0, s1⟩
    go_simp
    with_reducible rfl
  rotate_left
  · simp only [Act.put, List.setIfInBounds_toArray, List.set_cons_zero, List.set_cons_succ, i64_w, i32_w]
    rfl
  refine take_ (i := 13) (N := some 22) (v := ?_) (a' := ?_) #[true, true, true, true, false, false, true, true, true, false, false, true, true, true, false, false, false, false, false] rfl rfl (take_ofW HT_.out HW_.out (by kernel_rfl)) (fun _ _ _ h => h) (Or.inl ⟨by rfl, ?_⟩) hHeld ?_ ?_
  rotate_left
  · rintro w' ⟨s0, s1⟩
    go_simp
    with_reducible rfl
  rotate_left
  · simp only [Act.put, List.setIfInBounds_toArray, List.set_cons_zero, List.set_cons_succ, i64_w, i32_w]
    rfl
  refine one_ (i := 4) (N := some 13) #[true, true, true, true, true, false, true, true, true, false, false, true, true, true, false, false, false, false, false] rfl rfl (one_of HT_.out (by kernel_rfl)) (by decide) (fun K hK => ?_)
  refine goes_ Try.func18 (by kernel_rfl) rfl #[.int .u8 a1, .int .i64 a2_0] (by rfl) rfl rfl (by (try simp only [List.map_toArray, List.map_cons, List.map_nil]); first | done | rfl | (simp only [List.length_drop, List.length_take]; rfl)) ?_
  with_reducible refine (key_Cell.calls a1 a2_0 t175 _ A5.out).mono ?_
  rintro e w11 ⟨rfl, hb⟩
  refine ⟨_, rfl, ?_⟩
  have n0_ := Aside0.mk (blk_below (g := gb174) (o := .cells #[.int .i64 a2_0, .int .i64 a2_1] 41 (0, 0)) (by (with_reducible repeat (first | refine blk_drewN ?_ _ | refine blk_drew ?_ | refine blk_alloc ?_ _)); exact BK174.out) hb)
  have n1_ := Aside0.mk (below_step (by repeat (first | (with_reducible first | exact HB.out | apply below_alloc | apply pw_below_drewN | apply below_drew1 | refine below_set ?_ GE174.out) | exact HB.out)) hb)
  clear BK174
  clear HB
  have BK174 := n0_
  have HB := n1_
  clear n0_ n1_
  (try clear hb)
  (try clear hb2)
  (try clear hk)
  (try clear hi)
  refine hK.out _ _ ⟨(blk_cell BK174.out 0).trans rfl, (blk_cell BK174.out 1).trans rfl⟩ (fun hHeld => ?_)
  clear hK K
  refine norm_ (a' := ?_) ?_ ?_
  rotate_left
  · show Act.put _ (some 13) _ = _
    simp only [Act.put, List.setIfInBounds_toArray, List.set_cons_zero, List.set_cons_succ, i64_w, i32_w]
    rfl
  refine pure_ (i := 5) (N := some 14) (v := ?_) (a' := ?_) #[true, true, true, true, true, true, true, true, true, false, false, true, true, true, false, false, false, false, false] rfl rfl (any_of HT_.out (by kernel_rfl)) (fun _ _ _ h => h) (Or.inl ⟨by rfl, ?_⟩) ?_ ?_
  rotate_left
  · intro w'
    go_simp
    with_reducible rfl
  rotate_left
  · simp only [Act.put, List.setIfInBounds_toArray, List.set_cons_zero, List.set_cons_succ, i64_w, i32_w]
    rfl
  refine one_ (i := 9) (N := some 18) #[true, true, true, true, true, true, true, true, true, true, false, true, true, true, false, false, false, false, false] rfl rfl (one_of HT_.out (by kernel_rfl)) (by decide) (fun K hK => ?_)
  refine goes_ Try.func18 (by kernel_rfl) rfl #[.int .u8 a1, .int .i64 a2_1] (by rfl) rfl rfl (by (try simp only [List.map_toArray, List.map_cons, List.map_nil]); first | done | rfl | (simp only [List.length_drop, List.length_take]; rfl)) ?_
  with_reducible refine (key_Cell.calls a1 a2_1 t176 _ A6.out).mono ?_
  rintro e w12 ⟨rfl, hb⟩
  refine ⟨_, rfl, ?_⟩
  have n0_ := Aside0.mk (blk_below (g := gb174) (o := .cells #[.int .i64 a2_0, .int .i64 a2_1] 41 (0, 0)) (by (with_reducible repeat (first | refine blk_drewN ?_ _ | refine blk_drew ?_ | refine blk_alloc ?_ _)); exact BK174.out) hb)
  have n1_ := Aside0.mk (below_step (by repeat (first | (with_reducible first | exact HB.out | apply below_alloc | apply pw_below_drewN | apply below_drew1 | refine below_set ?_ GE174.out) | exact HB.out)) hb)
  clear BK174
  clear HB
  have BK174 := n0_
  have HB := n1_
  clear n0_ n1_
  (try clear hb)
  (try clear hb2)
  (try clear hk)
  (try clear hi)
  refine hK.out _ _ ⟨(blk_cell BK174.out 0).trans rfl, (blk_cell BK174.out 1).trans rfl⟩ (fun hHeld => ?_)
  clear hK K
  refine norm_ (a' := ?_) ?_ ?_
  rotate_left
  · show Act.put _ (some 18) _ = _
    simp only [Act.put, List.setIfInBounds_toArray, List.set_cons_zero, List.set_cons_succ, i64_w, i32_w]
    rfl
  refine pure_ (i := 10) (N := some 19) (v := ?_) (a' := ?_) #[true, true, true, true, true, true, true, true, true, true, true, true, true, true, false, false, false, false, false] rfl rfl (any_of HT_.out (by kernel_rfl)) (fun _ _ _ h => h) (Or.inl ⟨by rfl, ?_⟩) ?_ ?_
  rotate_left
  · intro w'
    go_simp
    with_reducible rfl
  rotate_left
  · simp only [Act.put, List.setIfInBounds_toArray, List.set_cons_zero, List.set_cons_succ, i64_w, i32_w]
    rfl
  refine one_ (i := 14) (N := some 23) #[true, true, true, true, true, true, true, true, true, true, true, true, true, true, true, false, false, false, false] rfl rfl (one_of HT_.out (by kernel_rfl)) (by decide) (fun K hK => ?_)
  refine goes_ Try.func18 (by kernel_rfl) rfl #[.int .u8 a3, .int .i64 a2_1] (by rfl) rfl rfl (by (try simp only [List.map_toArray, List.map_cons, List.map_nil]); first | done | rfl | (simp only [List.length_drop, List.length_take]; rfl)) ?_
  with_reducible refine (key_Cell.calls a3 a2_1 t177 _ A7.out).mono ?_
  rintro e w13 ⟨rfl, hb⟩
  refine ⟨_, rfl, ?_⟩
  have n0_ := Aside0.mk (blk_below (g := gb174) (o := .cells #[.int .i64 a2_0, .int .i64 a2_1] 41 (0, 0)) (by (with_reducible repeat (first | refine blk_drewN ?_ _ | refine blk_drew ?_ | refine blk_alloc ?_ _)); exact BK174.out) hb)
  have n1_ := Aside0.mk (below_step (by repeat (first | (with_reducible first | exact HB.out | apply below_alloc | apply pw_below_drewN | apply below_drew1 | refine below_set ?_ GE174.out) | exact HB.out)) hb)
  clear BK174
  clear HB
  have BK174 := n0_
  have HB := n1_
  clear n0_ n1_
  (try clear hb)
  (try clear hb2)
  (try clear hk)
  (try clear hi)
  refine hK.out _ _ ⟨(blk_cell BK174.out 0).trans rfl, (blk_cell BK174.out 1).trans rfl⟩ (fun hHeld => ?_)
  clear hK K
  refine norm_ (a' := ?_) ?_ ?_
  rotate_left
  · show Act.put _ (some 23) _ = _
    simp only [Act.put, List.setIfInBounds_toArray, List.set_cons_zero, List.set_cons_succ, i64_w, i32_w]
    rfl
  refine pure_ (i := 15) (N := some 24) (v := ?_) (a' := ?_) #[true, true, true, true, true, true, true, true, true, true, true, true, true, true, true, true, false, false, false] rfl rfl (any_of HT_.out (by kernel_rfl)) (fun _ _ _ h => h) (Or.inl ⟨by rfl, ?_⟩) ?_ ?_
  rotate_left
  · intro w'
    go_simp
    with_reducible rfl
  rotate_left
  · simp only [Act.put, List.setIfInBounds_toArray, List.set_cons_zero, List.set_cons_succ, i64_w, i32_w]
    rfl
  refine one_ (i := 16) (N := some 25) #[true, true, true, true, true, true, true, true, true, true, true, true, true, true, true, true, true, false, false] rfl rfl (one_of HT_.out (by kernel_rfl)) (by decide) (fun K hK => ?_)
  refine goes_ Try.func20 (by kernel_rfl) rfl #[] (by rfl) rfl rfl (by (try simp only [List.map_toArray, List.map_cons, List.map_nil]); first | done | rfl | (simp only [List.length_drop, List.length_take]; rfl)) ?_
  with_reducible refine (key_Turn.calls  t178 _ A8.out).mono ?_
  rintro e w14 ⟨rfl, hb⟩
  refine ⟨_, rfl, ?_⟩
  have n0_ := Aside0.mk (blk_below (g := gb174) (o := .cells #[.int .i64 a2_0, .int .i64 a2_1] 41 (0, 0)) (by (with_reducible repeat (first | refine blk_drewN ?_ _ | refine blk_drew ?_ | refine blk_alloc ?_ _)); exact BK174.out) hb)
  have n1_ := Aside0.mk (below_step (by repeat (first | (with_reducible first | exact HB.out | apply below_alloc | apply pw_below_drewN | apply below_drew1 | refine below_set ?_ GE174.out) | exact HB.out)) hb)
  clear BK174
  clear HB
  have BK174 := n0_
  have HB := n1_
  clear n0_ n1_
  (try clear hb)
  (try clear hb2)
  (try clear hk)
  (try clear hi)
  refine hK.out _ _ ⟨(blk_cell BK174.out 0).trans rfl, (blk_cell BK174.out 1).trans rfl⟩ (fun hHeld => ?_)
  clear hK K
  refine norm_ (a' := ?_) ?_ ?_
  rotate_left
  · show Act.put _ (some 25) _ = _
    simp only [Act.put, List.setIfInBounds_toArray, List.set_cons_zero, List.set_cons_succ, i64_w, i32_w]
    rfl
  refine pure_ (i := 17) (N := some 26) (v := ?_) (a' := ?_) #[true, true, true, true, true, true, true, true, true, true, true, true, true, true, true, true, true, true, false] rfl rfl (any_of HT_.out (by kernel_rfl)) (fun _ _ _ h => h) (Or.inl ⟨by rfl, ?_⟩) ?_ ?_
  rotate_left
  · intro w'
    go_simp
    with_reducible rfl
  rotate_left
  · simp only [Act.put, List.setIfInBounds_toArray, List.set_cons_zero, List.set_cons_succ, i64_w, i32_w]
    rfl
  refine pure_ (i := 18) (N := some 8) (v := ?_) (a' := ?_) #[true, true, true, true, true, true, true, true, true, true, true, true, true, true, true, true, true, true, true] rfl rfl (any_of HT_.out (by kernel_rfl)) (fun _ _ _ h => h) (Or.inl ⟨by rfl, ?_⟩) ?_ ?_
  rotate_left
  · intro w'
    go_simp
    with_reducible rfl
  rotate_left
  · simp only [Act.put, List.setIfInBounds_toArray, List.set_cons_zero, List.set_cons_succ, i64_w, i32_w]
    rfl
  refine done_ (done_of HT_.out (by kernel_rfl)) ?_
  try go_wp2
  go_ret
  exact ⟨by first | rfl | (simp [errW_none, errW_some] <;> rfl) | (simp [*, errW_none, errW_some] <;> rfl), by repeat (first | (with_reducible first | exact HB.out | apply below_alloc | apply pw_below_drewN | apply below_drew1 | refine below_set ?_ GE174.out) | exact HB.out)⟩

end Go.Proofs.Ytmfbgcimfmgobaa.Print

-- of YtmfbgcimfmgobaaPrint9
-- Written by a program of this session (wip/gprint/gprint.py) over the kit's print; the parts marked GIVEN by hand.
namespace Go.Proofs.Ytmfbgcimfmgobaa.Print
open Go.RowKit Go.Proofs.YtmfbgcimfmgobaaW.PrintWords Go.Proofs.YtmfbgcimfmgobaaW.PrintLast Go.Proofs.YtmfbgcimfmgobaaW.PrintMore
attribute [local go_sem] max2_int min2_int max_two min_two max_three min_three max_four min_four   -- for this text's walks alone
set_option linter.unusedVariables false
set_option linter.unusedSimpArgs false
/-! ### riverbankref02_Side: function 26 -/
def riverbankref02_Side.j0 : Nat → Int → Bool → Option (Int)
  | 0, _, _ => none
  | k + 1, x3, x4 => if x4 = true then (some 0) else (if x3 = 107 then (some 1) else (if x3 = 97 then (some 1) else (if x3 = 98 then (some 1) else (if x3 = 110 then (some 1) else (if x3 = 114 then (some 1) else (if x3 = 99 then (some 1) else (if x3 = 112 then (some 1) else (some (-1)))))))))
def riverbankref02_Side.f (k : Nat) (a0 : Int) : Option (Int) := if a0 = 75 then (riverbankref02_Side.j0 k a0 (a0 == 75)) else (if a0 = 65 then (riverbankref02_Side.j0 k a0 (a0 == 65)) else (if a0 = 66 then (riverbankref02_Side.j0 k a0 (a0 == 66)) else (if a0 = 78 then (riverbankref02_Side.j0 k a0 (a0 == 78)) else (if a0 = 82 then (riverbankref02_Side.j0 k a0 (a0 == 82)) else (if a0 = 67 then (riverbankref02_Side.j0 k a0 (a0 == 67)) else (riverbankref02_Side.j0 k a0 (a0 == 80)))))))
theorem riverbankref02_Side.mono_l : ∀ k, (∀ y0 y1, LeO (riverbankref02_Side.j0 k y0 y1) (riverbankref02_Side.j0 (k + 1) y0 y1))
  | 0 => fun _ _ r h => by simp [riverbankref02_Side.j0] at h
  | k + 1 => by
    have ih0 := riverbankref02_Side.mono_l k
    · intro y0 y1
      unfold riverbankref02_Side.j0
      repeat' first
      | (with_reducible exact ih0 _ _)
      | (with_reducible exact LeO.refl _)
      | (with_reducible exact LeO.none _)
      | (with_reducible refine LeO.ite ?_ ?_)
      | (with_reducible refine LeO.bind ?_ (fun _ => ?_))
      | exact ih0 _ _
      | exact LeO.none _
      | refine LeO.ite ?_ ?_
      | refine LeO.bind ?_ (fun _ => ?_)
theorem riverbankref02_Side.mono : ∀ a0 k, LeO (riverbankref02_Side.f k a0) (riverbankref02_Side.f (k + 1) a0) := by
  intro a0 k
  have ih0 := riverbankref02_Side.mono_l k
  unfold riverbankref02_Side.f
  repeat' first
      | (with_reducible exact ih0 _ _)
      | (with_reducible exact LeO.refl _)
      | (with_reducible exact LeO.none _)
      | (with_reducible refine LeO.ite ?_ ?_)
      | (with_reducible refine LeO.bind ?_ (fun _ => ?_))
      | exact ih0 _ _
      | exact LeO.none _
      | refine LeO.ite ?_ ?_
      | refine LeO.bind ?_ (fun _ => ?_)
set_option maxHeartbeats 8000000 in
set_option maxRecDepth 100000 in
theorem riverbankref02_Side.calls (k : Nat) (a0 : Int) (r : Int) (w : World) (h : riverbankref02_Side.f k a0 = some r) :
    Calls Try.prog 26 #[.int .u8 a0] w fun e w' => e = .returned (.int .i64 r) ∧ Drawn0 w w' := by
  have H : (if a0 = 75 then (riverbankref02_Side.j0 k a0 (a0 == 75)) else (if a0 = 65 then (riverbankref02_Side.j0 k a0 (a0 == 65)) else (if a0 = 66 then (riverbankref02_Side.j0 k a0 (a0 == 66)) else (if a0 = 78 then (riverbankref02_Side.j0 k a0 (a0 == 78)) else (if a0 = 82 then (riverbankref02_Side.j0 k a0 (a0 == 82)) else (if a0 = 67 then (riverbankref02_Side.j0 k a0 (a0 == 67)) else (riverbankref02_Side.j0 k a0 (a0 == 80)))))))) = some r := h
  clear h
  have HC2 := Aside0.mk H
  clear H
  go_enter Try.func26, Try.ntmps26
  go_upto_if 4 with (fail)
  go_cut [4] (fun v4 wc => ∃ (kq : Nat) (x4_1 : Bool), v4 = .bool x4_1 ∧ Aside0 (riverbankref02_Side.j0 kq a0 x4_1 = some r) ∧ Aside0 (kq ≤ k) ∧ Drawn0 w wc)
  case first =>
    have H := HC2.out
    clear HC2
    by_cases c3 : a0 = 75
    · rw [if_pos c3] at H
      have c3b0 : (a0 == 75) = true := beq_iff_eq.mpr c3
      have c3b1 : (a0 != 75) = false := bne_eq_false_iff_eq.mpr c3
      clear c3
      (first | rw [c3b0] | (simp only [i64_w, i32_w]; rw [c3b0]) | skip)
      have H' := Aside0.mk H
      clear H
      go_wp2
      go_meet
      case rel => exact ⟨_, ((a0 == 75)), (by first | rfl | (simp; done) | (simp [*]; done)), H', ⟨by first | omega | exact Nat.le_refl _⟩, by repeat (first | exact Drawn0.refl _ | apply Drawn0.step)⟩
    · rw [if_neg c3] at H
      have c3b0 : (a0 == 75) = false := beq_eq_false_iff_ne.mpr c3
      have c3b1 : (a0 != 75) = true := bne_iff_ne.mpr c3
      (first | rw [c3b0] | (simp only [i64_w, i32_w]; rw [c3b0]) | skip)
      by_cases c4 : a0 = 65
      · rw [if_pos c4] at H
        have c4b0 : (a0 == 65) = true := beq_iff_eq.mpr c4
        have c4b1 : (a0 != 65) = false := bne_eq_false_iff_eq.mpr c4
        clear c4
        have H' := Aside0.mk H
        clear H
        go_wp2
        go_meet
        case rel => exact ⟨_, ((a0 == 65)), (by first | rfl | (simp; done) | (simp [*]; done)), H', ⟨by first | omega | exact Nat.le_refl _⟩, by repeat (first | exact Drawn0.refl _ | apply Drawn0.step)⟩
      · rw [if_neg c4] at H
        have c4b0 : (a0 == 65) = false := beq_eq_false_iff_ne.mpr c4
        have c4b1 : (a0 != 65) = true := bne_iff_ne.mpr c4
        by_cases c5 : a0 = 66
        · rw [if_pos c5] at H
          have c5b0 : (a0 == 66) = true := beq_iff_eq.mpr c5
          have c5b1 : (a0 != 66) = false := bne_eq_false_iff_eq.mpr c5
          clear c5
          have H' := Aside0.mk H
          clear H
          go_wp2
          go_meet
          case rel => exact ⟨_, ((a0 == 66)), (by first | rfl | (simp; done) | (simp [*]; done)), H', ⟨by first | omega | exact Nat.le_refl _⟩, by repeat (first | exact Drawn0.refl _ | apply Drawn0.step)⟩
        · rw [if_neg c5] at H
          have c5b0 : (a0 == 66) = false := beq_eq_false_iff_ne.mpr c5
          have c5b1 : (a0 != 66) = true := bne_iff_ne.mpr c5
          by_cases c6 : a0 = 78
          · rw [if_pos c6] at H
            have c6b0 : (a0 == 78) = true := beq_iff_eq.mpr c6
            have c6b1 : (a0 != 78) = false := bne_eq_false_iff_eq.mpr c6
            clear c6
            have H' := Aside0.mk H
            clear H
            go_wp2
            go_meet
            case rel => exact ⟨_, ((a0 == 78)), (by first | rfl | (simp; done) | (simp [*]; done)), H', ⟨by first | omega | exact Nat.le_refl _⟩, by repeat (first | exact Drawn0.refl _ | apply Drawn0.step)⟩
          · rw [if_neg c6] at H
            have c6b0 : (a0 == 78) = false := beq_eq_false_iff_ne.mpr c6
            have c6b1 : (a0 != 78) = true := bne_iff_ne.mpr c6
            by_cases c7 : a0 = 82
            · rw [if_pos c7] at H
              have c7b0 : (a0 == 82) = true := beq_iff_eq.mpr c7
              have c7b1 : (a0 != 82) = false := bne_eq_false_iff_eq.mpr c7
              clear c7
              have H' := Aside0.mk H
              clear H
              go_wp2
              go_meet
              case rel => exact ⟨_, ((a0 == 82)), (by first | rfl | (simp; done) | (simp [*]; done)), H', ⟨by first | omega | exact Nat.le_refl _⟩, by repeat (first | exact Drawn0.refl _ | apply Drawn0.step)⟩
            · rw [if_neg c7] at H
              have c7b0 : (a0 == 82) = false := beq_eq_false_iff_ne.mpr c7
              have c7b1 : (a0 != 82) = true := bne_iff_ne.mpr c7
              by_cases c8 : a0 = 67
              · rw [if_pos c8] at H
                have c8b0 : (a0 == 67) = true := beq_iff_eq.mpr c8
                have c8b1 : (a0 != 67) = false := bne_eq_false_iff_eq.mpr c8
                clear c8
                have H' := Aside0.mk H
                clear H
                go_wp2
                go_meet
                case rel => exact ⟨_, ((a0 == 67)), (by first | rfl | (simp; done) | (simp [*]; done)), H', ⟨by first | omega | exact Nat.le_refl _⟩, by repeat (first | exact Drawn0.refl _ | apply Drawn0.step)⟩
              · rw [if_neg c8] at H
                have c8b0 : (a0 == 67) = false := beq_eq_false_iff_ne.mpr c8
                have c8b1 : (a0 != 67) = true := bne_iff_ne.mpr c8
                have H' := Aside0.mk H
                clear H
                go_wp2
                go_meet
                case rel => exact ⟨_, ((a0 == 80)), (by first | rfl | (simp; done) | (simp [*]; done)), H', ⟨by first | omega | exact Nat.le_refl _⟩, by repeat (first | exact Drawn0.refl _ | apply Drawn0.step)⟩
  case rest =>
    clear HC2
    try clear c2
    try clear p2
    try clear c3
    try clear c3b0
    try clear c3b1
    try clear c4
    try clear c4b0
    try clear c4b1
    try clear c5
    try clear c5b0
    try clear c5b1
    try clear c6
    try clear c6b0
    try clear c6b1
    try clear c7
    try clear c7b0
    try clear c7b1
    try clear c8
    try clear c8b0
    try clear c8b1
    obtain ⟨kq, x4_1, rfl, HA, HJ1, ⟨mc1, rfl⟩⟩ := hcut
    cases kq with
    | zero => exact absurd HA.out (by simp [riverbankref02_Side.j0])
    | succ kj1 =>
      have H := HA.out
      clear HA
      simp only [riverbankref02_Side.j0] at H
      by_cases c9 : x4_1 = true
      · subst c9
        have H1 : (some 0) = some r := by rw [if_pos rfl] at H; exact H
        clear H
        have H := H1
        clear H1
        obtain rfl := Option.some.inj H
        go_wp2
        go_ret
        exact ⟨by first | rfl | (simp; done) | (simp [*]; done), by repeat (first | exact Drawn0.refl _ | apply Drawn0.step)⟩
      · replace c9 := Bool.eq_false_iff.mpr c9
        subst c9
        have H1 : (if a0 = 107 then (some 1) else (if a0 = 97 then (some 1) else (if a0 = 98 then (some 1) else (if a0 = 110 then (some 1) else (if a0 = 114 then (some 1) else (if a0 = 99 then (some 1) else (if a0 = 112 then (some 1) else (some (-1))))))))) = some r := by rw [if_neg (show ¬ (false = true) by decide)] at H; exact H
        clear H
        have H := H1
        clear H1
        by_cases c10 : a0 = 107
        · rw [if_pos c10] at H
          have c10b0 : (a0 == 107) = true := beq_iff_eq.mpr c10
          have c10b1 : (a0 != 107) = false := bne_eq_false_iff_eq.mpr c10
          clear c10
          obtain rfl := Option.some.inj H
          go_wp2
          go_ret
          exact ⟨by first | rfl | (simp; done) | (simp [*]; done), by repeat (first | exact Drawn0.refl _ | apply Drawn0.step)⟩
        · rw [if_neg c10] at H
          have c10b0 : (a0 == 107) = false := beq_eq_false_iff_ne.mpr c10
          have c10b1 : (a0 != 107) = true := bne_iff_ne.mpr c10
          by_cases c11 : a0 = 97
          · rw [if_pos c11] at H
            have c11b0 : (a0 == 97) = true := beq_iff_eq.mpr c11
            have c11b1 : (a0 != 97) = false := bne_eq_false_iff_eq.mpr c11
            clear c11
            obtain rfl := Option.some.inj H
            go_wp2
            go_ret
            exact ⟨by first | rfl | (simp; done) | (simp [*]; done), by repeat (first | exact Drawn0.refl _ | apply Drawn0.step)⟩
          · rw [if_neg c11] at H
            have c11b0 : (a0 == 97) = false := beq_eq_false_iff_ne.mpr c11
            have c11b1 : (a0 != 97) = true := bne_iff_ne.mpr c11
            by_cases c12 : a0 = 98
            · rw [if_pos c12] at H
              have c12b0 : (a0 == 98) = true := beq_iff_eq.mpr c12
              have c12b1 : (a0 != 98) = false := bne_eq_false_iff_eq.mpr c12
              clear c12
              obtain rfl := Option.some.inj H
              go_wp2
              go_ret
              exact ⟨by first | rfl | (simp; done) | (simp [*]; done), by repeat (first | exact Drawn0.refl _ | apply Drawn0.step)⟩
            · rw [if_neg c12] at H
              have c12b0 : (a0 == 98) = false := beq_eq_false_iff_ne.mpr c12
              have c12b1 : (a0 != 98) = true := bne_iff_ne.mpr c12
              by_cases c13 : a0 = 110
              · rw [if_pos c13] at H
                have c13b0 : (a0 == 110) = true := beq_iff_eq.mpr c13
                have c13b1 : (a0 != 110) = false := bne_eq_false_iff_eq.mpr c13
                clear c13
                obtain rfl := Option.some.inj H
                go_wp2
                go_ret
                exact ⟨by first | rfl | (simp; done) | (simp [*]; done), by repeat (first | exact Drawn0.refl _ | apply Drawn0.step)⟩
              · rw [if_neg c13] at H
                have c13b0 : (a0 == 110) = false := beq_eq_false_iff_ne.mpr c13
                have c13b1 : (a0 != 110) = true := bne_iff_ne.mpr c13
                by_cases c14 : a0 = 114
                · rw [if_pos c14] at H
                  have c14b0 : (a0 == 114) = true := beq_iff_eq.mpr c14
                  have c14b1 : (a0 != 114) = false := bne_eq_false_iff_eq.mpr c14
                  clear c14
                  obtain rfl := Option.some.inj H
                  go_wp2
                  go_ret
                  exact ⟨by first | rfl | (simp; done) | (simp [*]; done), by repeat (first | exact Drawn0.refl _ | apply Drawn0.step)⟩
                · rw [if_neg c14] at H
                  have c14b0 : (a0 == 114) = false := beq_eq_false_iff_ne.mpr c14
                  have c14b1 : (a0 != 114) = true := bne_iff_ne.mpr c14
                  by_cases c15 : a0 = 99
                  · rw [if_pos c15] at H
                    have c15b0 : (a0 == 99) = true := beq_iff_eq.mpr c15
                    have c15b1 : (a0 != 99) = false := bne_eq_false_iff_eq.mpr c15
                    clear c15
                    obtain rfl := Option.some.inj H
                    go_wp2
                    go_ret
                    exact ⟨by first | rfl | (simp; done) | (simp [*]; done), by repeat (first | exact Drawn0.refl _ | apply Drawn0.step)⟩
                  · rw [if_neg c15] at H
                    have c15b0 : (a0 == 99) = false := beq_eq_false_iff_ne.mpr c15
                    have c15b1 : (a0 != 99) = true := bne_iff_ne.mpr c15
                    by_cases c16 : a0 = 112
                    · rw [if_pos c16] at H
                      have c16b0 : (a0 == 112) = true := beq_iff_eq.mpr c16
                      have c16b1 : (a0 != 112) = false := bne_eq_false_iff_eq.mpr c16
                      clear c16
                      obtain rfl := Option.some.inj H
                      go_wp2
                      go_ret
                      exact ⟨by first | rfl | (simp; done) | (simp [*]; done), by repeat (first | exact Drawn0.refl _ | apply Drawn0.step)⟩
                    · rw [if_neg c16] at H
                      have c16b0 : (a0 == 112) = false := beq_eq_false_iff_ne.mpr c16
                      have c16b1 : (a0 != 112) = true := bne_iff_ne.mpr c16
                      obtain rfl := Option.some.inj H
                      go_wp2
                      go_ret
                      exact ⟨by first | rfl | (simp; done) | (simp [*]; done), by repeat (first | exact Drawn0.refl _ | apply Drawn0.step)⟩

/-! ### riverbankref02_Is: function 25 -/
def riverbankref02_Is.l0 : Nat → ByteArray → Int → Option (Bool)
  | 0, _, _ => none
  | k + 1, x0, x3 => if x3 < 90 then (if 0 ≤ x3 then (if x3 < (x0.size : Int) then (if (bt x0 x3) = 46 then (riverbankref02_Is.l0 k x0 (wrap64 (x3 + 1))) else ((riverbankref02_Side.f k (bt x0 x3)).bind fun t131 => (if t131 < 0 then (some false) else (riverbankref02_Is.l0 k x0 (wrap64 (x3 + 1)))))) else (none)) else (none)) else (some true)
def riverbankref02_Is.f (k : Nat) (a0 : ByteArray) : Option (Bool) := if (a0.size : Int) = 90 then (riverbankref02_Is.l0 k a0 0) else (some false)
theorem riverbankref02_Is.mono_l : ∀ k, (∀ y0 y1, LeO (riverbankref02_Is.l0 k y0 y1) (riverbankref02_Is.l0 (k + 1) y0 y1))
  | 0 => fun _ _ r h => by simp [riverbankref02_Is.l0] at h
  | k + 1 => by
    have ih0 := riverbankref02_Is.mono_l k
    · intro y0 y1
      unfold riverbankref02_Is.l0
      repeat' first
      | (with_reducible exact ih0 _ _)
      | (with_reducible exact riverbankref02_Side.mono _ _)
      | (with_reducible exact LeO.refl _)
      | (with_reducible exact LeO.none _)
      | (with_reducible refine LeO.ite ?_ ?_)
      | (with_reducible refine LeO.bind ?_ (fun _ => ?_))
      | exact ih0 _ _
      | exact riverbankref02_Side.mono _ _
      | exact LeO.none _
      | refine LeO.ite ?_ ?_
      | refine LeO.bind ?_ (fun _ => ?_)
theorem riverbankref02_Is.mono : ∀ a0 k, LeO (riverbankref02_Is.f k a0) (riverbankref02_Is.f (k + 1) a0) := by
  intro a0 k
  have ih0 := riverbankref02_Is.mono_l k
  unfold riverbankref02_Is.f
  repeat' first
      | (with_reducible exact ih0 _ _)
      | (with_reducible exact riverbankref02_Side.mono _ _)
      | (with_reducible exact LeO.refl _)
      | (with_reducible exact LeO.none _)
      | (with_reducible refine LeO.ite ?_ ?_)
      | (with_reducible refine LeO.bind ?_ (fun _ => ?_))
      | exact ih0 _ _
      | exact riverbankref02_Side.mono _ _
      | exact LeO.none _
      | refine LeO.ite ?_ ?_
      | refine LeO.bind ?_ (fun _ => ?_)
set_option maxHeartbeats 8000000 in
set_option maxRecDepth 100000 in
theorem riverbankref02_Is.calls (k : Nat) (a0 : ByteArray) (r : Bool) (w : World) (h : riverbankref02_Is.f k a0 = some r) :
    Calls Try.prog 25 #[.string a0] w fun e w' => e = .returned (.bool r) ∧ Drawn0 w w' := by
  have H : (if (a0.size : Int) = 90 then (riverbankref02_Is.l0 k a0 0) else (some false)) = some r := h
  clear h
  by_cases c2 : (a0.size : Int) = 90
  · rw [if_pos c2] at H
    have c2b0 : ((a0.size : Int) == 90) = true := beq_iff_eq.mpr c2
    have c2b1 : ((a0.size : Int) != 90) = false := bne_eq_false_iff_eq.mpr c2
    clear c2
    have H' := Aside0.mk H
    clear H
    go_enter Try.func25, Try.ntmps25
    go_wp2
    go_loopg [3] k (fun kq v3 w' => ∃ (x3_1 : Int), v3 = .int .i64 x3_1 ∧ Aside0 (riverbankref02_Is.l0 kq a0 x3_1 = some r) ∧ Aside0 (kq ≤ k) ∧ Drawn0 w w')
    case atStart => exact ⟨(0), (by first | rfl | (simp; done) | (simp [*]; done)), H', ⟨Nat.le_refl _⟩, by repeat (first | exact Drawn0.refl _ | apply Drawn0.step)⟩
    case round =>
      clear H'
      try clear c2
      try clear c2b0
      try clear c2b1
      try clear p2
      obtain ⟨x3_1, rfl, HA, HK1, ⟨m1, rfl⟩⟩ := hrel
      cases gk with
      | zero => exact absurd HA.out (by simp [riverbankref02_Is.l0])
      | succ k1 =>
        have H := HA.out
        clear HA
        simp only [riverbankref02_Is.l0] at H
        by_cases c3 : x3_1 < 90
        · rw [if_pos c3] at H
          have c3b0 : decide (x3_1 < 90) = true := decide_eq_true c3
          clear c3
          by_cases c4 : 0 ≤ x3_1
          · rw [if_pos c4] at H
            have c4b0 : decide (0 ≤ x3_1) = true := decide_eq_true c4
            clear c4
            by_cases c5 : x3_1 < (a0.size : Int)
            · rw [if_pos c5] at H
              have c5b0 : decide (x3_1 < (a0.size : Int)) = true := decide_eq_true c5
              clear c5
              by_cases c7 : (bt a0 x3_1) = 46
              · rw [if_pos c7] at H
                have c7b0 : ((bt a0 x3_1) == 46) = true := beq_iff_eq.mpr c7
                have c7b1 : ((bt a0 x3_1) != 46) = false := bne_eq_false_iff_eq.mpr c7
                clear c7
                have H' := Aside0.mk H
                clear H
                have p6 : 0 ≤ (x3_1 : Int) := of_decide_eq_true (by first | (with_reducible assumption) | assumption)
                have q6 : x3_1 < (a0.size : Int) := of_decide_eq_true (by first | (with_reducible assumption) | assumption)
                have hx6 := bt_at a0 x3_1
                replace p6 := eq_true p6
                replace q6 := eq_true q6
                go_wp2
                go_roundg k1
                case measure => have := HK1.out; omega
                case rel => exact ⟨(wrap64 (x3_1 + 1)), (by first | rfl | (simp; done) | (simp [*]; done)), H', ⟨by have := HK1.out; omega⟩, by repeat (first | exact Drawn0.refl _ | apply Drawn0.step)⟩
              · rw [if_neg c7] at H
                have c7b0 : ((bt a0 x3_1) == 46) = false := beq_eq_false_iff_ne.mpr c7
                have c7b1 : ((bt a0 x3_1) != 46) = true := bne_iff_ne.mpr c7
                replace H := Option.bind_eq_some_iff.mp H
                obtain ⟨t131, A90, H⟩ := H
                replace H : (if t131 < 0 then (some false) else (riverbankref02_Is.l0 k1 a0 (wrap64 (x3_1 + 1)))) = some r := H
                have A9 := Aside0.mk A90
                clear A90
                by_cases c10 : t131 < 0
                · rw [if_pos c10] at H
                  have c10b0 : decide (t131 < 0) = true := decide_eq_true c10
                  clear c10
                  obtain rfl := Option.some.inj H
                  have p6 : 0 ≤ (x3_1 : Int) := of_decide_eq_true (by first | (with_reducible assumption) | assumption)
                  have q6 : x3_1 < (a0.size : Int) := of_decide_eq_true (by first | (with_reducible assumption) | assumption)
                  have hx6 := bt_at a0 x3_1
                  replace p6 := eq_true p6
                  replace q6 := eq_true q6
                  have p8 : 0 ≤ (x3_1 : Int) := of_decide_eq_true (by first | (with_reducible assumption) | assumption)
                  have q8 : x3_1 < (a0.size : Int) := of_decide_eq_true (by first | (with_reducible assumption) | assumption)
                  have hx8 := bt_at a0 x3_1
                  replace p8 := eq_true p8
                  replace q8 := eq_true q8
                  go_wp2_with (first | (go_at_call 26; (with_reducible refine (riverbankref02_Side.calls k1 (bt a0 x3_1) t131 _ A9.out).mono ?_); rintro e w' ⟨rfl, ⟨nd, rfl⟩⟩))
                  go_ret
                  exact ⟨by first | rfl | (simp; done) | (simp [*]; done), by repeat (first | exact Drawn0.refl _ | apply Drawn0.step)⟩
                · rw [if_neg c10] at H
                  have c10b0 : decide (t131 < 0) = false := decide_eq_false c10
                  clear c10
                  have H' := Aside0.mk H
                  clear H
                  have p6 : 0 ≤ (x3_1 : Int) := of_decide_eq_true (by first | (with_reducible assumption) | assumption)
                  have q6 : x3_1 < (a0.size : Int) := of_decide_eq_true (by first | (with_reducible assumption) | assumption)
                  have hx6 := bt_at a0 x3_1
                  replace p6 := eq_true p6
                  replace q6 := eq_true q6
                  have p8 : 0 ≤ (x3_1 : Int) := of_decide_eq_true (by first | (with_reducible assumption) | assumption)
                  have q8 : x3_1 < (a0.size : Int) := of_decide_eq_true (by first | (with_reducible assumption) | assumption)
                  have hx8 := bt_at a0 x3_1
                  replace p8 := eq_true p8
                  replace q8 := eq_true q8
                  go_wp2_with (first | (go_at_call 26; (with_reducible refine (riverbankref02_Side.calls k1 (bt a0 x3_1) t131 _ A9.out).mono ?_); rintro e w' ⟨rfl, ⟨nd, rfl⟩⟩))
                  go_roundg k1
                  case measure => have := HK1.out; omega
                  case rel => exact ⟨(wrap64 (x3_1 + 1)), (by first | rfl | (simp; done) | (simp [*]; done)), H', ⟨by have := HK1.out; omega⟩, by repeat (first | exact Drawn0.refl _ | apply Drawn0.step)⟩
            · rw [if_neg c5] at H
              exact absurd H (by simp)
          · rw [if_neg c4] at H
            exact absurd H (by simp)
        · rw [if_neg c3] at H
          have c3b0 : decide (x3_1 < 90) = false := decide_eq_false c3
          clear c3
          obtain rfl := Option.some.inj H
          go_wp2
          go_ret
          exact ⟨by first | rfl | (simp; done) | (simp [*]; done), by repeat (first | exact Drawn0.refl _ | apply Drawn0.step)⟩
  · rw [if_neg c2] at H
    have c2b0 : ((a0.size : Int) == 90) = false := beq_eq_false_iff_ne.mpr c2
    have c2b1 : ((a0.size : Int) != 90) = true := bne_iff_ne.mpr c2
    obtain rfl := Option.some.inj H
    go_enter Try.func25, Try.ntmps25
    go_wp2
    go_ret
    exact ⟨by first | rfl | (simp; done) | (simp [*]; done), by repeat (first | exact Drawn0.refl _ | apply Drawn0.step)⟩

end Go.Proofs.Ytmfbgcimfmgobaa.Print

-- of YtmfbgcimfmgobaaPrint17
-- Written by a program of this session (wip/gprint/gprint.py) over the kit's print; the parts marked GIVEN by hand.
namespace Go.Proofs.Ytmfbgcimfmgobaa.Print
open Go.RowKit Go.Proofs.YtmfbgcimfmgobaaW.PrintWords Go.Proofs.YtmfbgcimfmgobaaW.PrintLast Go.Proofs.YtmfbgcimfmgobaaW.PrintMore
attribute [local go_sem] max2_int min2_int max_two min_two max_three min_three max_four min_four   -- for this text's walks alone
set_option linter.unusedVariables false
set_option linter.unusedSimpArgs false
/-! ### riverbankref02_Kind: function 57 -/
def riverbankref02_Kind.f (k : Nat) (a0 : Int) : Option (Int) := (riverbankref02_Side.f k a0).bind fun t191 => (if t191 = 0 then (some a0) else (if t191 = 1 then (some ((((a0 - 97) % 256) + 65) % 256)) else (some 0)))
theorem riverbankref02_Kind.mono : ∀ a0 k, LeO (riverbankref02_Kind.f k a0) (riverbankref02_Kind.f (k + 1) a0) := by
  intro a0 k
  unfold riverbankref02_Kind.f
  repeat' first
      | (with_reducible exact riverbankref02_Side.mono _ _)
      | (with_reducible exact LeO.refl _)
      | (with_reducible exact LeO.none _)
      | (with_reducible refine LeO.ite ?_ ?_)
      | (with_reducible refine LeO.bind ?_ (fun _ => ?_))
      | exact riverbankref02_Side.mono _ _
      | exact LeO.none _
      | refine LeO.ite ?_ ?_
      | refine LeO.bind ?_ (fun _ => ?_)
set_option maxHeartbeats 8000000 in
set_option maxRecDepth 100000 in
theorem riverbankref02_Kind.calls (k : Nat) (a0 : Int) (r : Int) (w : World) (h : riverbankref02_Kind.f k a0 = some r) :
    Calls Try.prog 57 #[.int .u8 a0] w fun e w' => e = .returned (.int .u8 r) ∧ Drawn0 w w' := by
  have H : ((riverbankref02_Side.f k a0).bind fun t191 => (if t191 = 0 then (some a0) else (if t191 = 1 then (some ((((a0 - 97) % 256) + 65) % 256)) else (some 0)))) = some r := h
  clear h
  replace H := Option.bind_eq_some_iff.mp H
  obtain ⟨t191, A20, H⟩ := H
  replace H : (if t191 = 0 then (some a0) else (if t191 = 1 then (some ((((a0 - 97) % 256) + 65) % 256)) else (some 0))) = some r := H
  have A2 := Aside0.mk A20
  clear A20
  by_cases c3 : t191 = 0
  · rw [if_pos c3] at H
    have c3b0 : (t191 == 0) = true := beq_iff_eq.mpr c3
    have c3b1 : (t191 != 0) = false := bne_eq_false_iff_eq.mpr c3
    clear c3
    obtain rfl := Option.some.inj H
    go_enter Try.func57, Try.ntmps57
    go_wp2_with (first | ((with_reducible refine gate_callee (f := 26) rfl ?_); refine goesL_ (some 4) rfl rfl Try.func26 (by kernel_rfl) rfl #[.int .u8 a0] rfl (by (try simp only [List.map_toArray, List.map_cons, List.map_nil]); first | done | rfl | (simp only [List.length_drop, List.length_take]; rfl)) ?_; (with_reducible refine (riverbankref02_Side.calls k a0 t191 _ A2.out).mono ?_); rintro e w' ⟨rfl, ⟨nd, rfl⟩⟩; refine ⟨_, rfl, ?_⟩))
    go_ret
    exact ⟨by first | rfl | (simp; done) | (simp [*]; done), by repeat (first | exact Drawn0.refl _ | apply Drawn0.step)⟩
  · rw [if_neg c3] at H
    have c3b0 : (t191 == 0) = false := beq_eq_false_iff_ne.mpr c3
    have c3b1 : (t191 != 0) = true := bne_iff_ne.mpr c3
    by_cases c4 : t191 = 1
    · rw [if_pos c4] at H
      have c4b0 : (t191 == 1) = true := beq_iff_eq.mpr c4
      have c4b1 : (t191 != 1) = false := bne_eq_false_iff_eq.mpr c4
      clear c4
      obtain rfl := Option.some.inj H
      go_enter Try.func57, Try.ntmps57
      go_wp2_with (first | ((with_reducible refine gate_callee (f := 26) rfl ?_); refine goesL_ (some 4) rfl rfl Try.func26 (by kernel_rfl) rfl #[.int .u8 a0] rfl (by (try simp only [List.map_toArray, List.map_cons, List.map_nil]); first | done | rfl | (simp only [List.length_drop, List.length_take]; rfl)) ?_; (with_reducible refine (riverbankref02_Side.calls k a0 t191 _ A2.out).mono ?_); rintro e w' ⟨rfl, ⟨nd, rfl⟩⟩; refine ⟨_, rfl, ?_⟩))
      go_ret
      exact ⟨by first | rfl | (simp; done) | (simp [*]; done), by repeat (first | exact Drawn0.refl _ | apply Drawn0.step)⟩
    · rw [if_neg c4] at H
      have c4b0 : (t191 == 1) = false := beq_eq_false_iff_ne.mpr c4
      have c4b1 : (t191 != 1) = true := bne_iff_ne.mpr c4
      obtain rfl := Option.some.inj H
      go_enter Try.func57, Try.ntmps57
      go_wp2_with (first | ((with_reducible refine gate_callee (f := 26) rfl ?_); refine goesL_ (some 4) rfl rfl Try.func26 (by kernel_rfl) rfl #[.int .u8 a0] rfl (by (try simp only [List.map_toArray, List.map_cons, List.map_nil]); first | done | rfl | (simp only [List.length_drop, List.length_take]; rfl)) ?_; (with_reducible refine (riverbankref02_Side.calls k a0 t191 _ A2.out).mono ?_); rintro e w' ⟨rfl, ⟨nd, rfl⟩⟩; refine ⟨_, rfl, ?_⟩))
      go_ret
      exact ⟨by first | rfl | (simp; done) | (simp [*]; done), by repeat (first | exact Drawn0.refl _ | apply Drawn0.step)⟩

/-! ### riverbankref02_Find: function 84 -/
def riverbankref02_Find.l0 : Nat → ByteArray → Int → List Int → Int → Option (List Int)
  | 0, _, _, _, _ => none
  | k + 1, x0, x1, x5, x6 => if x6 < (x0.size : Int) then (if 0 ≤ x6 then (if (bt x0 x6) = x1 then (if x5.length < 17592186044416 then (riverbankref02_Find.l0 k x0 x1 (x5 ++ [x6]) (wrap64 (x6 + 1))) else (none)) else (riverbankref02_Find.l0 k x0 x1 x5 (wrap64 (x6 + 1)))) else (none)) else (some x5)
def riverbankref02_Find.f (k : Nat) (a0 : ByteArray) (a1 : Int) : Option (List Int) := (riverbankref02_Is.f k a0).bind fun t192 => (if t192 = true then (riverbankref02_Find.l0 k a0 a1 ([] : List Int) 0) else (some ([] : List Int)))
theorem riverbankref02_Find.mono_l : ∀ k, (∀ y0 y1 y2 y3, LeO (riverbankref02_Find.l0 k y0 y1 y2 y3) (riverbankref02_Find.l0 (k + 1) y0 y1 y2 y3))
  | 0 => fun _ _ _ _ r h => by simp [riverbankref02_Find.l0] at h
  | k + 1 => by
    have ih0 := riverbankref02_Find.mono_l k
    · intro y0 y1 y2 y3
      unfold riverbankref02_Find.l0
      repeat' first
      | (with_reducible exact ih0 _ _ _ _)
      | (with_reducible exact riverbankref02_Is.mono _ _)
      | (with_reducible exact LeO.refl _)
      | (with_reducible exact LeO.none _)
      | (with_reducible refine LeO.ite ?_ ?_)
      | (with_reducible refine LeO.bind ?_ (fun _ => ?_))
      | exact ih0 _ _ _ _
      | exact riverbankref02_Is.mono _ _
      | exact LeO.none _
      | refine LeO.ite ?_ ?_
      | refine LeO.bind ?_ (fun _ => ?_)
theorem riverbankref02_Find.mono : ∀ a0 a1 k, LeO (riverbankref02_Find.f k a0 a1) (riverbankref02_Find.f (k + 1) a0 a1) := by
  intro a0 a1 k
  have ih0 := riverbankref02_Find.mono_l k
  unfold riverbankref02_Find.f
  repeat' first
      | (with_reducible exact ih0 _ _ _ _)
      | (with_reducible exact riverbankref02_Is.mono _ _)
      | (with_reducible exact LeO.refl _)
      | (with_reducible exact LeO.none _)
      | (with_reducible refine LeO.ite ?_ ?_)
      | (with_reducible refine LeO.bind ?_ (fun _ => ?_))
      | exact ih0 _ _ _ _
      | exact riverbankref02_Is.mono _ _
      | exact LeO.none _
      | refine LeO.ite ?_ ?_
      | refine LeO.bind ?_ (fun _ => ?_)
set_option maxHeartbeats 8000000 in
set_option maxRecDepth 100000 in
theorem riverbankref02_Find.calls (k : Nat) (a0 : ByteArray) (a1 : Int) (r : List Int) (w : World) (h : riverbankref02_Find.f k a0 a1 = some r) :
    Calls Try.prog 84 #[.string a0, .int .u8 a1] w fun e w' => ∃ v0_ : Value, e = .returned (v0_) ∧ Kd.R (Kd.int .i64) 3 w' w.heap.size (fun _ => True) v0_ r ∧ Below w.heap.size w w' := by
  have HB := Aside0.mk (Below.refl w.heap.size w)
  have H : ((riverbankref02_Is.f k a0).bind fun t192 => (if t192 = true then (riverbankref02_Find.l0 k a0 a1 ([] : List Int) 0) else (some ([] : List Int)))) = some r := h
  clear h
  replace H := Option.bind_eq_some_iff.mp H
  obtain ⟨t192, A30, H⟩ := H
  replace H : (if t192 = true then (riverbankref02_Find.l0 k a0 a1 ([] : List Int) 0) else (some ([] : List Int))) = some r := H
  have A3 := Aside0.mk A30
  clear A30
  by_cases c4 : t192 = true
  · subst c4
    have H1 : (riverbankref02_Find.l0 k a0 a1 ([] : List Int) 0) = some r := by rw [if_pos rfl] at H; exact H
    clear H
    have H := H1
    clear H1
    have H' := Aside0.mk H
    clear H
    go_enter Try.func84, Try.ntmps84
    go_wp2_with (first | ((with_reducible refine gate_callee (f := 25) rfl ?_); refine goesL_ (some 8) rfl rfl Try.func25 (by kernel_rfl) rfl #[.string a0] rfl (by (try simp only [List.map_toArray, List.map_cons, List.map_nil]); first | done | rfl | (simp only [List.length_drop, List.length_take]; rfl)) ?_; (with_reducible refine (riverbankref02_Is.calls k a0 true _ A3.out).mono ?_); rintro e w' ⟨rfl, ⟨nd, rfl⟩⟩; refine ⟨_, rfl, ?_⟩))
    go_loopg [5, 6] k (fun kq v5 v6 w' => ∃ (x5_1 : List Int) (x6_1 : Int), v6 = .int .i64 x6_1 ∧ Aside0 (riverbankref02_Find.l0 kq a0 a1 x5_1 x6_1 = some r) ∧ Aside0 (kq ≤ k) ∧ Aside0 (Kd.R (Kd.int .i64) 3 w' w.heap.size (fun _ => True) v5 x5_1) ∧ Aside0 (Below w.heap.size w w'))
    case atStart => exact ⟨(([] : List Int)), (0), (by first | rfl | (simp; done) | (simp [*]; done)), H', ⟨Nat.le_refl _⟩, ⟨by first | exact Kd.R_nil _ _ _ _ _ | exact Kd.N_nil _ _ _ _ _ | exact Kd.V_nil _ _ _ _ _ | exact Kd.Q_nil _ _ _ _ _ | exact Kd.S_nil _ _ _ _ _⟩, ⟨by repeat (first | (with_reducible first | exact HB.out | apply below_alloc | apply pw_below_drewN | apply below_drew1) | exact HB.out)⟩⟩
    case round =>
      clear H'
      try clear c2
      try clear p2
      try clear c4
      obtain ⟨x5_1, x6_1, rfl, HA, HK1, HO_5, HB⟩ := hrel
      cases gk with
      | zero => exact absurd HA.out (by simp [riverbankref02_Find.l0])
      | succ k1 =>
        have H := HA.out
        clear HA
        simp only [riverbankref02_Find.l0] at H
        by_cases c5 : x6_1 < (a0.size : Int)
        · rw [if_pos c5] at H
          have c5b0 : decide (x6_1 < (a0.size : Int)) = true := decide_eq_true c5
          clear c5
          by_cases c6 : 0 ≤ x6_1
          · rw [if_pos c6] at H
            have c6b0 : decide (0 ≤ x6_1) = true := decide_eq_true c6
            clear c6
            by_cases c8 : (bt a0 x6_1) = a1
            · rw [if_pos c8] at H
              have c8b0 : ((bt a0 x6_1) == a1) = true := beq_iff_eq.mpr c8
              have c8b1 : ((bt a0 x6_1) != a1) = false := bne_eq_false_iff_eq.mpr c8
              clear c8
              by_cases c9 : x5_1.length < 17592186044416
              · rw [if_pos c9] at H
                have LMc9 := Aside0.mk c9
                clear c9
                obtain ⟨y193, hy193⟩ : ∃ y_ : List Int, y_ = (x5_1 ++ [x6_1]) := ⟨_, rfl⟩
                replace H : (riverbankref02_Find.l0 k1 a0 a1 y193 (wrap64 (x6_1 + 1))) = some r := by first | (rw [hy193]; with_reducible exact H) | (have H2_ := (Option.bind_some _ _).symm.trans H; rw [hy193]; with_reducible exact H2_) | (have H2_ := (Option.bind_some _ _).symm.trans H; with_reducible exact H2_) | with_reducible exact H | (rw [hy193]; exact H) | exact H
                have Ny193 := Aside0.mk hy193
                clear hy193
                have H' := Aside0.mk H
                clear H
                have p7 : 0 ≤ (x6_1 : Int) := of_decide_eq_true (by first | (with_reducible assumption) | assumption)
                have q7 : x6_1 < (a0.size : Int) := of_decide_eq_true (by first | (with_reducible assumption) | assumption)
                have hx7 := bt_at a0 x6_1
                replace p7 := eq_true p7
                replace q7 := eq_true q7
                go_wp2_with (first | ((with_reducible refine gate_builtin (b := .append) (xs := #[.tmp 21, .tmp 23]) rfl ?_); at_builtin; refine Kd.R_append (Kd.int .i64) (w0 := w) w.heap.size rfl (.tmp 21) (.tmp 23) 94 3 (.int .i64 0) 8 rfl Try.underlying94 info3 rfl (by decide) (by omega) u5 x5_1 x6_1 [.int .i64 x6_1] (fun _ => True) (fun _ => False) rfl rfl ?aP (fun _ hk => hk.elim) ?aF ?aO ?aB ?aS ?aL ?_; (case aP => exact rfl); (case aB => exact (by repeat (first | (with_reducible first | exact HB.out | apply below_alloc | apply pw_below_drewN | apply below_drew1) | exact HB.out))); (case aF => exact (fun _ _ => trivial)); (case aO => exact (by (with_reducible repeat (first | apply Kd.R_alloc | apply Kd.R_drewN | apply Kd.R_drew)); exact HO_5.out)); (case aS => exact (below_size (by repeat (first | (with_reducible first | exact HB.out | apply below_alloc | apply pw_below_drewN | apply below_drew1) | exact HB.out)))); (case aL => have := LMc9.out; omega); intro v194 w10 ho hb hg hat; rw [← Ny193.out] at ho; have n0_ := Aside0.mk (hb); have n1_ := Aside0.mk (ho); clear HB; clear HO_5; have HB := n0_; have HO195 := n1_; clear n0_ n1_; clear ho hb hg hat))
                go_roundg k1
                case measure => have := HK1.out; omega
                case rel => exact ⟨(y193), (wrap64 (x6_1 + 1)), (by first | rfl | (simp; done) | (simp [*]; done)), H', ⟨by have := HK1.out; omega⟩, ⟨by (with_reducible repeat (first | apply Kd.R_alloc | apply Kd.R_drewN | apply Kd.R_drew)); exact HO195.out⟩, ⟨by repeat (first | (with_reducible first | exact HB.out | apply below_alloc | apply pw_below_drewN | apply below_drew1) | exact HB.out)⟩⟩
              · rw [if_neg c9] at H
                exact absurd H (by simp)
            · rw [if_neg c8] at H
              have c8b0 : ((bt a0 x6_1) == a1) = false := beq_eq_false_iff_ne.mpr c8
              have c8b1 : ((bt a0 x6_1) != a1) = true := bne_iff_ne.mpr c8
              have H' := Aside0.mk H
              clear H
              have p7 : 0 ≤ (x6_1 : Int) := of_decide_eq_true (by first | (with_reducible assumption) | assumption)
              have q7 : x6_1 < (a0.size : Int) := of_decide_eq_true (by first | (with_reducible assumption) | assumption)
              have hx7 := bt_at a0 x6_1
              replace p7 := eq_true p7
              replace q7 := eq_true q7
              go_wp2
              go_roundg k1
              case measure => have := HK1.out; omega
              case rel => exact ⟨(x5_1), (wrap64 (x6_1 + 1)), (by first | rfl | (simp; done) | (simp [*]; done)), H', ⟨by have := HK1.out; omega⟩, ⟨by (with_reducible repeat (first | apply Kd.R_alloc | apply Kd.R_drewN | apply Kd.R_drew)); exact HO_5.out⟩, ⟨by repeat (first | (with_reducible first | exact HB.out | apply below_alloc | apply pw_below_drewN | apply below_drew1) | exact HB.out)⟩⟩
          · rw [if_neg c6] at H
            exact absurd H (by simp)
        · rw [if_neg c5] at H
          have c5b0 : decide (x6_1 < (a0.size : Int)) = false := decide_eq_false c5
          clear c5
          obtain rfl := Option.some.inj H
          go_wp2
          go_ret
          exact ⟨_, by first | rfl | (simp [errW_none, errW_some] <;> rfl) | (simp [*, errW_none, errW_some] <;> rfl), by (with_reducible repeat (first | apply Kd.R_alloc | apply Kd.R_drewN | apply Kd.R_drew)); exact HO_5.out, by repeat (first | (with_reducible first | exact HB.out | apply below_alloc | apply pw_below_drewN | apply below_drew1) | exact HB.out)⟩
  · replace c4 := Bool.eq_false_iff.mpr c4
    subst c4
    have H1 : (some ([] : List Int)) = some r := by rw [if_neg (show ¬ (false = true) by decide)] at H; exact H
    clear H
    have H := H1
    clear H1
    obtain rfl := Option.some.inj H
    go_enter Try.func84, Try.ntmps84
    go_wp2_with (first | ((with_reducible refine gate_callee (f := 25) rfl ?_); refine goesL_ (some 8) rfl rfl Try.func25 (by kernel_rfl) rfl #[.string a0] rfl (by (try simp only [List.map_toArray, List.map_cons, List.map_nil]); first | done | rfl | (simp only [List.length_drop, List.length_take]; rfl)) ?_; (with_reducible refine (riverbankref02_Is.calls k a0 false _ A3.out).mono ?_); rintro e w' ⟨rfl, ⟨nd, rfl⟩⟩; refine ⟨_, rfl, ?_⟩))
    go_ret
    exact ⟨_, by first | rfl | (simp [errW_none, errW_some] <;> rfl) | (simp [*, errW_none, errW_some] <;> rfl), by first | exact Kd.R_nil _ _ _ _ _ | exact Kd.N_nil _ _ _ _ _ | exact Kd.V_nil _ _ _ _ _ | exact Kd.Q_nil _ _ _ _ _ | exact Kd.S_nil _ _ _ _ _, by repeat (first | (with_reducible first | exact HB.out | apply below_alloc | apply pw_below_drewN | apply below_drew1) | exact HB.out)⟩

/-! ### riverbankref03_Most: function 85 -/
def riverbankref03_Most.f (k : Nat) (a0 : Int) : Option (Int) := (riverbankref02_Kind.f k a0).bind fun t196 => (if t196 = 0 then (some 0) else (if t196 = 75 then (some 1) else (if t196 = 80 then (some 5) else (some 2))))
theorem riverbankref03_Most.mono : ∀ a0 k, LeO (riverbankref03_Most.f k a0) (riverbankref03_Most.f (k + 1) a0) := by
  intro a0 k
  unfold riverbankref03_Most.f
  repeat' first
      | (with_reducible exact riverbankref02_Kind.mono _ _)
      | (with_reducible exact LeO.refl _)
      | (with_reducible exact LeO.none _)
      | (with_reducible refine LeO.ite ?_ ?_)
      | (with_reducible refine LeO.bind ?_ (fun _ => ?_))
      | exact riverbankref02_Kind.mono _ _
      | exact LeO.none _
      | refine LeO.ite ?_ ?_
      | refine LeO.bind ?_ (fun _ => ?_)
set_option maxHeartbeats 8000000 in
set_option maxRecDepth 100000 in
theorem riverbankref03_Most.calls (k : Nat) (a0 : Int) (r : Int) (w : World) (h : riverbankref03_Most.f k a0 = some r) :
    Calls Try.prog 85 #[.int .u8 a0] w fun e w' => e = .returned (.int .i64 r) ∧ Drawn0 w w' := by
  have H : ((riverbankref02_Kind.f k a0).bind fun t196 => (if t196 = 0 then (some 0) else (if t196 = 75 then (some 1) else (if t196 = 80 then (some 5) else (some 2))))) = some r := h
  clear h
  replace H := Option.bind_eq_some_iff.mp H
  obtain ⟨t196, A20, H⟩ := H
  replace H : (if t196 = 0 then (some 0) else (if t196 = 75 then (some 1) else (if t196 = 80 then (some 5) else (some 2)))) = some r := H
  have A2 := Aside0.mk A20
  clear A20
  by_cases c3 : t196 = 0
  · rw [if_pos c3] at H
    have c3b0 : (t196 == 0) = true := beq_iff_eq.mpr c3
    have c3b1 : (t196 != 0) = false := bne_eq_false_iff_eq.mpr c3
    clear c3
    obtain rfl := Option.some.inj H
    go_enter Try.func85, Try.ntmps85
    go_wp2_with (first | ((with_reducible refine gate_callee (f := 57) rfl ?_); refine goesL_ (some 4) rfl rfl Try.func57 (by kernel_rfl) rfl #[.int .u8 a0] rfl (by (try simp only [List.map_toArray, List.map_cons, List.map_nil]); first | done | rfl | (simp only [List.length_drop, List.length_take]; rfl)) ?_; (with_reducible refine (riverbankref02_Kind.calls k a0 t196 _ A2.out).mono ?_); rintro e w' ⟨rfl, ⟨nd, rfl⟩⟩; refine ⟨_, rfl, ?_⟩))
    go_ret
    exact ⟨by first | rfl | (simp; done) | (simp [*]; done), by repeat (first | exact Drawn0.refl _ | apply Drawn0.step)⟩
  · rw [if_neg c3] at H
    have c3b0 : (t196 == 0) = false := beq_eq_false_iff_ne.mpr c3
    have c3b1 : (t196 != 0) = true := bne_iff_ne.mpr c3
    by_cases c4 : t196 = 75
    · rw [if_pos c4] at H
      have c4b0 : (t196 == 75) = true := beq_iff_eq.mpr c4
      have c4b1 : (t196 != 75) = false := bne_eq_false_iff_eq.mpr c4
      clear c4
      obtain rfl := Option.some.inj H
      go_enter Try.func85, Try.ntmps85
      go_wp2_with (first | ((with_reducible refine gate_callee (f := 57) rfl ?_); refine goesL_ (some 4) rfl rfl Try.func57 (by kernel_rfl) rfl #[.int .u8 a0] rfl (by (try simp only [List.map_toArray, List.map_cons, List.map_nil]); first | done | rfl | (simp only [List.length_drop, List.length_take]; rfl)) ?_; (with_reducible refine (riverbankref02_Kind.calls k a0 t196 _ A2.out).mono ?_); rintro e w' ⟨rfl, ⟨nd, rfl⟩⟩; refine ⟨_, rfl, ?_⟩))
      go_ret
      exact ⟨by first | rfl | (simp; done) | (simp [*]; done), by repeat (first | exact Drawn0.refl _ | apply Drawn0.step)⟩
    · rw [if_neg c4] at H
      have c4b0 : (t196 == 75) = false := beq_eq_false_iff_ne.mpr c4
      have c4b1 : (t196 != 75) = true := bne_iff_ne.mpr c4
      by_cases c5 : t196 = 80
      · rw [if_pos c5] at H
        have c5b0 : (t196 == 80) = true := beq_iff_eq.mpr c5
        have c5b1 : (t196 != 80) = false := bne_eq_false_iff_eq.mpr c5
        clear c5
        obtain rfl := Option.some.inj H
        go_enter Try.func85, Try.ntmps85
        go_wp2_with (first | ((with_reducible refine gate_callee (f := 57) rfl ?_); refine goesL_ (some 4) rfl rfl Try.func57 (by kernel_rfl) rfl #[.int .u8 a0] rfl (by (try simp only [List.map_toArray, List.map_cons, List.map_nil]); first | done | rfl | (simp only [List.length_drop, List.length_take]; rfl)) ?_; (with_reducible refine (riverbankref02_Kind.calls k a0 t196 _ A2.out).mono ?_); rintro e w' ⟨rfl, ⟨nd, rfl⟩⟩; refine ⟨_, rfl, ?_⟩))
        go_ret
        exact ⟨by first | rfl | (simp; done) | (simp [*]; done), by repeat (first | exact Drawn0.refl _ | apply Drawn0.step)⟩
      · rw [if_neg c5] at H
        have c5b0 : (t196 == 80) = false := beq_eq_false_iff_ne.mpr c5
        have c5b1 : (t196 != 80) = true := bne_iff_ne.mpr c5
        obtain rfl := Option.some.inj H
        go_enter Try.func85, Try.ntmps85
        go_wp2_with (first | ((with_reducible refine gate_callee (f := 57) rfl ?_); refine goesL_ (some 4) rfl rfl Try.func57 (by kernel_rfl) rfl #[.int .u8 a0] rfl (by (try simp only [List.map_toArray, List.map_cons, List.map_nil]); first | done | rfl | (simp only [List.length_drop, List.length_take]; rfl)) ?_; (with_reducible refine (riverbankref02_Kind.calls k a0 t196 _ A2.out).mono ?_); rintro e w' ⟨rfl, ⟨nd, rfl⟩⟩; refine ⟨_, rfl, ?_⟩))
        go_ret
        exact ⟨by first | rfl | (simp; done) | (simp [*]; done), by repeat (first | exact Drawn0.refl _ | apply Drawn0.step)⟩

/-! ### riverbankref02_File: function 61 -/
def riverbankref02_File.f (a0 : Int) : Option (Int) := if a0 < 0 then (some (-1)) else (if a0 > 89 then (some (-1)) else (some (Int.tmod a0 9)))
set_option maxHeartbeats 8000000 in
set_option maxRecDepth 100000 in
theorem riverbankref02_File.calls (a0 : Int) (r : Int) (w : World) (h : riverbankref02_File.f a0 = some r) :
    Calls Try.prog 61 #[.int .i64 a0] w fun e w' => e = .returned (.int .i64 r) ∧ Drawn0 w w' := by
  have H : (if a0 < 0 then (some (-1)) else (if a0 > 89 then (some (-1)) else (some (Int.tmod a0 9)))) = some r := h
  clear h
  by_cases c2 : a0 < 0
  · rw [if_pos c2] at H
    have c2b0 : decide (a0 < 0) = true := decide_eq_true c2
    clear c2
    obtain rfl := Option.some.inj H
    go_enter Try.func61, Try.ntmps61
    go_wp2
    go_ret
    exact ⟨by first | rfl | (simp; done) | (simp [*]; done), by repeat (first | exact Drawn0.refl _ | apply Drawn0.step)⟩
  · rw [if_neg c2] at H
    have c2b0 : decide (a0 < 0) = false := decide_eq_false c2
    clear c2
    by_cases c3 : a0 > 89
    · rw [if_pos c3] at H
      have c3b0 : decide (89 < a0) = true := decide_eq_true c3
      clear c3
      obtain rfl := Option.some.inj H
      go_enter Try.func61, Try.ntmps61
      go_wp2
      go_ret
      exact ⟨by first | rfl | (simp; done) | (simp [*]; done), by repeat (first | exact Drawn0.refl _ | apply Drawn0.step)⟩
    · rw [if_neg c3] at H
      have c3b0 : decide (89 < a0) = false := decide_eq_false c3
      clear c3
      obtain rfl := Option.some.inj H
      go_enter Try.func61, Try.ntmps61
      go_wp2
      go_ret
      exact ⟨by first | rfl | (simp; done) | (simp [*]; done), by repeat (first | exact Drawn0.refl _ | apply Drawn0.step)⟩

/-! ### riverbankref03_real: function 80 -/
def riverbankref03_real.f (a0 : Int) (a1 : Int) : Option (Bool) := if a0 ≥ 0 then (if a0 < 90 then (if a1 = 0 then (some true) else (some (a1 == 1))) else (some false)) else (some false)
set_option maxHeartbeats 8000000 in
set_option maxRecDepth 100000 in
theorem riverbankref03_real.calls (a0 : Int) (a1 : Int) (r : Bool) (w : World) (h : riverbankref03_real.f a0 a1 = some r) :
    Calls Try.prog 80 #[.int .i64 a0, .int .i64 a1] w fun e w' => e = .returned (.bool r) ∧ Drawn0 w w' := by
  have H : (if a0 ≥ 0 then (if a0 < 90 then (if a1 = 0 then (some true) else (some (a1 == 1))) else (some false)) else (some false)) = some r := h
  clear h
  by_cases c3 : a0 ≥ 0
  · rw [if_pos c3] at H
    have c3b0 : decide (0 ≤ a0) = true := decide_eq_true c3
    clear c3
    by_cases c4 : a0 < 90
    · rw [if_pos c4] at H
      have c4b0 : decide (a0 < 90) = true := decide_eq_true c4
      clear c4
      by_cases c5 : a1 = 0
      · rw [if_pos c5] at H
        have c5b0 : (a1 == 0) = true := beq_iff_eq.mpr c5
        have c5b1 : (a1 != 0) = false := bne_eq_false_iff_eq.mpr c5
        clear c5
        obtain rfl := Option.some.inj H
        go_enter Try.func80, Try.ntmps80
        go_wp2
        go_ret
        exact ⟨by first | rfl | (simp; done) | (simp [*]; done), by repeat (first | exact Drawn0.refl _ | apply Drawn0.step)⟩
      · rw [if_neg c5] at H
        have c5b0 : (a1 == 0) = false := beq_eq_false_iff_ne.mpr c5
        have c5b1 : (a1 != 0) = true := bne_iff_ne.mpr c5
        obtain rfl := Option.some.inj H
        go_enter Try.func80, Try.ntmps80
        go_wp2
        go_ret
        exact ⟨by first | rfl | (simp; done) | (simp [*]; done), by repeat (first | exact Drawn0.refl _ | apply Drawn0.step)⟩
    · rw [if_neg c4] at H
      have c4b0 : decide (a0 < 90) = false := decide_eq_false c4
      clear c4
      obtain rfl := Option.some.inj H
      go_enter Try.func80, Try.ntmps80
      go_wp2
      go_ret
      exact ⟨by first | rfl | (simp; done) | (simp [*]; done), by repeat (first | exact Drawn0.refl _ | apply Drawn0.step)⟩
  · rw [if_neg c3] at H
    have c3b0 : decide (0 ≤ a0) = false := decide_eq_false c3
    clear c3
    obtain rfl := Option.some.inj H
    go_enter Try.func80, Try.ntmps80
    go_wp2
    go_ret
    exact ⟨by first | rfl | (simp; done) | (simp [*]; done), by repeat (first | exact Drawn0.refl _ | apply Drawn0.step)⟩

/-! ### riverbankref02_Rank: function 62 -/
def riverbankref02_Rank.f (a0 : Int) : Option (Int) := if a0 < 0 then (some (-1)) else (if a0 > 89 then (some (-1)) else (some (wrap64 (Int.tdiv a0 9))))
set_option maxHeartbeats 8000000 in
set_option maxRecDepth 100000 in
theorem riverbankref02_Rank.calls (a0 : Int) (r : Int) (w : World) (h : riverbankref02_Rank.f a0 = some r) :
    Calls Try.prog 62 #[.int .i64 a0] w fun e w' => e = .returned (.int .i64 r) ∧ Drawn0 w w' := by
  have H : (if a0 < 0 then (some (-1)) else (if a0 > 89 then (some (-1)) else (some (wrap64 (Int.tdiv a0 9))))) = some r := h
  clear h
  by_cases c2 : a0 < 0
  · rw [if_pos c2] at H
    have c2b0 : decide (a0 < 0) = true := decide_eq_true c2
    clear c2
    obtain rfl := Option.some.inj H
    go_enter Try.func62, Try.ntmps62
    go_wp2
    go_ret
    exact ⟨by first | rfl | (simp; done) | (simp [*]; done), by repeat (first | exact Drawn0.refl _ | apply Drawn0.step)⟩
  · rw [if_neg c2] at H
    have c2b0 : decide (a0 < 0) = false := decide_eq_false c2
    clear c2
    by_cases c3 : a0 > 89
    · rw [if_pos c3] at H
      have c3b0 : decide (89 < a0) = true := decide_eq_true c3
      clear c3
      obtain rfl := Option.some.inj H
      go_enter Try.func62, Try.ntmps62
      go_wp2
      go_ret
      exact ⟨by first | rfl | (simp; done) | (simp [*]; done), by repeat (first | exact Drawn0.refl _ | apply Drawn0.step)⟩
    · rw [if_neg c3] at H
      have c3b0 : decide (89 < a0) = false := decide_eq_false c3
      clear c3
      obtain rfl := Option.some.inj H
      go_enter Try.func62, Try.ntmps62
      go_wp2
      go_ret
      exact ⟨by first | rfl | (simp; done) | (simp [*]; done), by repeat (first | exact Drawn0.refl _ | apply Drawn0.step)⟩

/-! ### riverbankref03_own: function 81 -/
def riverbankref03_own.f (a0 : Int) (a1 : Int) : Option (Int) := if a1 = 1 then ((riverbankref02_Rank.f a0).bind fun t197 => (some (wrap64 (9 - t197)))) else ((riverbankref02_Rank.f a0).bind fun t198 => (some t198))
set_option maxHeartbeats 8000000 in
set_option maxRecDepth 100000 in
theorem riverbankref03_own.calls (a0 : Int) (a1 : Int) (r : Int) (w : World) (h : riverbankref03_own.f a0 a1 = some r) :
    Calls Try.prog 81 #[.int .i64 a0, .int .i64 a1] w fun e w' => e = .returned (.int .i64 r) ∧ Drawn0 w w' := by
  have H : (if a1 = 1 then ((riverbankref02_Rank.f a0).bind fun t197 => (some (wrap64 (9 - t197)))) else ((riverbankref02_Rank.f a0).bind fun t198 => (some t198))) = some r := h
  clear h
  by_cases c3 : a1 = 1
  · rw [if_pos c3] at H
    have c3b0 : (a1 == 1) = true := beq_iff_eq.mpr c3
    have c3b1 : (a1 != 1) = false := bne_eq_false_iff_eq.mpr c3
    clear c3
    replace H := Option.bind_eq_some_iff.mp H
    obtain ⟨t197, A40, H⟩ := H
    replace H : (some (wrap64 (9 - t197))) = some r := H
    have A4 := Aside0.mk A40
    clear A40
    obtain rfl := Option.some.inj H
    go_enter Try.func81, Try.ntmps81
    go_wp2_with (first | ((with_reducible refine gate_callee (f := 62) rfl ?_); refine goesL_ (some 8) rfl rfl Try.func62 (by kernel_rfl) rfl #[.int .i64 a0] rfl (by (try simp only [List.map_toArray, List.map_cons, List.map_nil]); first | done | rfl | (simp only [List.length_drop, List.length_take]; rfl)) ?_; (with_reducible refine (riverbankref02_Rank.calls a0 t197 _ A4.out).mono ?_); rintro e w' ⟨rfl, ⟨nd, rfl⟩⟩; refine ⟨_, rfl, ?_⟩))
    go_ret
    exact ⟨by first | rfl | (simp; done) | (simp [*]; done), by repeat (first | exact Drawn0.refl _ | apply Drawn0.step)⟩
  · rw [if_neg c3] at H
    have c3b0 : (a1 == 1) = false := beq_eq_false_iff_ne.mpr c3
    have c3b1 : (a1 != 1) = true := bne_iff_ne.mpr c3
    replace H := Option.bind_eq_some_iff.mp H
    obtain ⟨t198, A50, H⟩ := H
    replace H : (some t198) = some r := H
    have A5 := Aside0.mk A50
    clear A50
    obtain rfl := Option.some.inj H
    go_enter Try.func81, Try.ntmps81
    go_wp2_with (first | ((with_reducible refine gate_callee (f := 62) rfl ?_); refine goesL_ (some 11) rfl rfl Try.func62 (by kernel_rfl) rfl #[.int .i64 a0] rfl (by (try simp only [List.map_toArray, List.map_cons, List.map_nil]); first | done | rfl | (simp only [List.length_drop, List.length_take]; rfl)) ?_; (with_reducible refine (riverbankref02_Rank.calls a0 t198 _ A5.out).mono ?_); rintro e w' ⟨rfl, ⟨nd, rfl⟩⟩; refine ⟨_, rfl, ?_⟩))
    go_ret
    exact ⟨by first | rfl | (simp; done) | (simp [*]; done), by repeat (first | exact Drawn0.refl _ | apply Drawn0.step)⟩

end Go.Proofs.Ytmfbgcimfmgobaa.Print
