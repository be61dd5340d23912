-- Written by a program of this session (wip/gprint/gprint.py) over the kit's print; the parts marked GIVEN by hand.
import Derived.Test.YtmfbgcimfmgobaaPrint0
import Derived.Test.YtmfbgcimfmgobaaPrint2
import Derived.Test.YtmfbgcimfmgobaaPrint3
import Derived.Test.YtmfbgcimfmgobaaPrint4
import Derived.Test.YtmfbgcimfmgobaaPrint6
import Derived.Maps.OwnIn
namespace Go.Proofs.Ytmfbgcimfmgobaa.Print
open Go.RowKit Go.Proofs.YtmfbgcimfmgobaaW.PrintWords Go.Proofs.YtmfbgcimfmgobaaW.PrintLast Go.Proofs.YtmfbgcimfmgobaaW.PrintMore
attribute [local go_sem] max2_int min2_int max_two min_two max_three min_three max_four min_four   -- for this text's walks alone
set_option linter.unusedVariables false
set_option linter.unusedSimpArgs false

/-! GIVEN key_Of -/
-- GIVEN riverbank/key.Of
-- MAKES yes
-- NEEDS riverbank/key.number
-- IMPORT Derived.Maps.OwnIn
open Go.Proofs.Ytmfbgcimfmgobaa.RangeB Go.Shelf
attribute [local go_sem] Oper.semAt_some

/-- Where the piece on square j stands in the row of numbers; 0: there is none. -/
def placeN (s : ByteArray) (j : Nat) : Int := (key_place.f (bt s j) j).getD 0
/-- Is place i wanted, when the first n squares have been seen? -/
def wantedN (s : ByteArray) (side : Int) : Nat → Nat → Bool
  | 0, i => decide (i = 1261) && (side == 1)
  | n + 1, i => wantedN s side n i || (decide (0 < placeN s n) && decide (placeN s n = (i : Int)))
/-- The key, when the first m numbers of the row have been seen. -/
def keyFold (s : ByteArray) (side : Int) : Nat → Int
  | 0 => 0
  | m + 1 => if wantedN s side 90 m = true then Go.bits .xor .u64 (keyFold s side m) (rowN m) else keyFold s side m
def key_Of.f (a0_0 : ByteArray) (a0_1 : Int) (a0_2 : Int) (a0_3 : Int) : Option (Int) := (board_Is.f a0_0).bind fun t => if t = true then some (keyFold a0_0 a0_1 1262) else some 0

theorem place_some (c : Int) (n : Nat) (hn : n < 90) : ∃ a, key_place.f c n = some a ∧ 0 ≤ a ∧ a ≤ 1260 := by
  have h1 := idx_lt [75, 65, 66, 78, 82, 67, 80, 107, 97, 98, 110, 114, 99, 112] c.toNat.toUInt8
  have h2 := Lib.indexByte_ge [75, 65, 66, 78, 82, 67, 80, 107, 97, 98, 110, 114, 99, 112] c.toNat.toUInt8
  unfold key_place.f strings_IndexByte.f board_File.f board_isSquare.f
  obtain ⟨t, ht⟩ : ∃ t, t = Lib.indexByte [75, 65, 66, 78, 82, 67, 80, 107, 97, 98, 110, 114, 99, 112] c.toNat.toUInt8 := ⟨_, rfl⟩
  rw [← ht] at h1 h2
  simp only [List.length_cons, List.length_nil] at h1
  simp only [← ht, Option.bind_some]
  clear ht
  by_cases e : t < 0
  · rw [if_pos e]; exact ⟨0, rfl, by omega, by omega⟩
  · rw [if_neg e, if_pos (by omega)]
    simp only [Option.bind_some, show (n : Int) < 90 by omega, decide_true, if_true]
    rw [if_neg (by have := Int.tmod_nonneg (a := (n : Int)) 9 (by omega); omega)]
    rw [w64 (90 * t) (by omega) (by omega), w64 (1 + 90 * t) (by omega) (by omega), w64 (1 + 90 * t + n) (by omega) (by omega)]
    exact ⟨_, rfl, by omega, by omega⟩
theorem placeN_is (s : ByteArray) (j : Nat) (hj : j < 90) : key_place.f (bt s j) j = some (placeN s j) ∧ 0 ≤ placeN s j ∧ placeN s j ≤ 1260 := by
  obtain ⟨a, ha, h0, h1⟩ := place_some (bt s j) j hj
  unfold placeN
  rw [ha]; exact ⟨rfl, h0, h1⟩

section
variable {H : Type} {F : Fence} {nF : Nat} {P : Program} (w : World) {ops : Array Oper} {rest : List Oper} {o : Oper} {a : Act} {Q : Exit → Act → World → Prop}
/-- A composite literal's entry, as a store. -/
theorem wpListIn_insert_own
    (hg : o.guard = none) (m x v : Operand) (t : TypeId) (hop : o.op = Op.insert t m x v)
    (k e : TypeId) (K : Go.Maps.Keyed P k) (ht : P.underlying t = some (.map k e)) (R : Value → Option (DataW H × List MemPlace)) (b n : Nat) (D : DataW H)
    (hm : a.eval m = .map (some b)) (hown : w.ownsMap P k R b n D) (hn : n < maxLen) (key val : Value) (kl : Lit) (hx : a.eval x = key) (hv : a.eval v = val) (hkey : keyOf P k key = some kl)
    (d : DataW H) (ps : List MemPlace) (hval : R val = some (d, ps))
    (hK : ∀ w', w'.ownsMap P k R b (n + 1) (D.put kl d) → w.grownBy w' (some b) → wpListIn F nF P ops Q rest (a.put o.dst undef) w') :
    wpListIn F nF P ops Q (o :: rest) a w := by
  refine wpListIn_plain hg fun K' hK' => ?_
  obtain ⟨w', hrun, r1, r2⟩ := hown.update K ht hn hkey hval
  unfold Oper.wpIn
  refine ⟨by simp [Oper.about, hop], ?_⟩
  rw [Oper.semAt_plain F _ _ (by rw [hop]; intro c hc'; cases hc')]
  simp [execOp, hop, hm, hx, hv, hrun, Result.andThen]
  exact hK' _ _ (hK w' r1 r2)
/-- 'm[k]' at elements that are truths. -/
theorem wpListIn_lookup_own_bool
    (hg : o.guard = none) (m x : Operand) (t : TypeId) (hop : o.op = Op.lookup t m x false)
    (k e : TypeId) (K : Go.Maps.Keyed P k) (ht : P.underlying t = some (.map k e)) (he : P.underlying e = some .bool) (hz : (zeroValue e).run P w = .ok (.bool false) w) (b n : Nat) (D : DataW H)
    (hm : a.eval m = .map (some b)) (hown : w.ownsMap P k (plainElem P e) b n D) (key : Value) (kl : Lit) (hx : a.eval x = key) (hkey : keyOf P k key = some kl) (c : Bool) (hc : D.atKey kl (.lit (.bool false)) = .lit (.bool c))
    (hK : wpListIn F nF P ops Q rest (a.put o.dst (.bool c)) w) :
    wpListIn F nF P ops Q (o :: rest) a w := by
  refine wpListIn_plain hg fun K' hK' => ?_
  obtain ⟨v, ps, hrun, hv⟩ := hown.lookup K ht hz (plainElem_bool he false) hkey
  rw [hc] at hv
  have e1 : v = .bool c := by
    unfold plainElem at hv
    rw [he] at hv
    cases v <;> simp at hv
    rw [hv.1]
  subst e1
  unfold Oper.wpIn
  refine ⟨by simp [Oper.about, hop], ?_⟩
  rw [Oper.semAt_plain F _ _ (by rw [hop]; intro c hc'; cases hc')]
  simp [execOp, hop, hm, hx, hrun, Result.andThen]
  exact hK' _ _ hK
end

/-- The map says which places are wanted. -/
structure Says (s : ByteArray) (side : Int) (n : Nat) (D : DataW Unit) : Prop where
  map : Maps.IsMap D
  at_ : ∀ i : Nat, D.atKey (.int .i64 i) (.lit (.bool false)) = .lit (.bool (wantedN s side n i))
theorem says_start (s : ByteArray) (side : Int) : Says s side 0 ((DataW.map []).put (.int .i64 1261) (.lit (.bool (side == 1)))) := by
  refine ⟨Maps.IsMap.put Maps.isMap_empty _ _, fun i => ?_⟩
  by_cases e : i = 1261
  · subst e
    rw [show ((1261 : Nat) : Int) = 1261 from rfl, Maps.atKey_put_same Maps.isMap_empty (by exact True.intro)]
    simp [wantedN]
  · rw [Maps.atKey_put_other (by intro h; injection h with _ h; omega)]
    simp [wantedN, e]
    rfl
theorem says_put {s : ByteArray} {side : Int} {n : Nat} {D : DataW Unit} (h : Says s side n D) (hp : 0 < placeN s n) : Says s side (n + 1) (D.put (.int .i64 (placeN s n)) (.lit (.bool true))) := by
  refine ⟨h.map.put _ _, fun i => ?_⟩
  by_cases e : placeN s n = (i : Int)
  · rw [← e, Maps.atKey_put_same h.map (by exact True.intro)]
    simp [wantedN, e]; omega
  · rw [Maps.atKey_put_other (by intro hh; injection hh with _ hh; exact e hh.symm), h.at_]
    simp [wantedN, e]
theorem says_skip {s : ByteArray} {side : Int} {n : Nat} {D : DataW Unit} (h : Says s side n D) (hp : ¬ 0 < placeN s n) : Says s side (n + 1) D := by
  refine ⟨h.map, fun i => ?_⟩
  rw [h.at_]; simp [wantedN]; omega
set_option maxRecDepth 100000 in
set_option maxHeartbeats 400000 in
theorem key_Of.board (a0_0 : ByteArray) (a0_1 : Int) (a0_2 : Int) (a0_3 : Int) (w : World) (hI : board_Is.f a0_0 = some true) :
    Calls Try.prog 23 #[.agg #[.string a0_0, .int .i64 a0_1, .int .i64 a0_2, .int .i64 a0_3]] w fun e w' => e = .returned (.int .u64 (keyFold a0_0 a0_1 1262)) ∧ Below w.heap.size w w' := by
  have hsz : a0_0.size = 90 := by
    unfold board_Is.f at hI; have := Option.some.inj hI; simp at this; exact this.1
  have HI := Aside0.mk hI
  clear hI
  have hs1 : a0_0.size ≤ 90 := by omega
  have hs2 : 90 ≤ a0_0.size := by omega
  clear hsz
  have hmm := @run_makeMap Try.prog
  refine (callsIn_wide (n := 6)).1 ?_
  have h1 : 1 ≤ 6 := by decide
  refine callsIn_of_wp_marks Try.func23 rfl trivial ?_ rfl
  simp only [Try.ntmps23, List.size_toArray, List.length_cons, List.length_nil, Nat.reduceAdd, Nat.reduceSub, Array.replicate_succ, Array.replicate_zero, List.push_toArray, List.append_toArray, List.nil_append, List.cons_append]
  gi_wp2
  refine ⟨trivial, ?_⟩
  refine (callsIn_wide.2 (board_Is.calls _ true _ HI.out)).mono ?_
  rintro e w1 ⟨rfl, hb1⟩
  have c0 : w1.cell? ⟨w.heap.size, 0, none⟩ = some (.string a0_0) := (hb1.cell (p := ⟨w.heap.size, 0, none⟩) (by simp)).trans (by simp)
  have c1 : w1.cell? ⟨w.heap.size, 1, none⟩ = some (.int .i64 a0_1) := (hb1.cell (p := ⟨w.heap.size, 1, none⟩) (by simp)).trans (by simp)
  have hB1 : Below w.heap.size w w1 := ((Below.refl _ w).alloc (Nat.le_refl _) _).trans (hb1.mono (by simp))
  have hz1 : w.heap.size + 1 ≤ w1.heap.size := by have := hb1.size; simp at this; omega
  clear hb1
  have hm0 := World.ownsMap_made w1 Try.prog 3 (plainElem (H := Unit) Try.prog 4)
  have c1' := cell_later_alloc (.map #[] 0) c1
  gi_wp2_with (refine wpListIn_insert_own _ rfl (.tmp 13) (.const (.int .i64 1261)) (.tmp 16) 66 rfl 3 4 (Maps.int_keyed Try.underlying3) Try.underlying66 _ w1.heap.size 0 _ rfl hm0 (by unfold maxLen; omega) _ _ (.int .i64 1261) rfl rfl (Maps.keyOf_int_mk Try.underlying3 (by decide)) _ [] (plainElem_bool Try.underlying4 (a0_1 == 1)) ?_; intro w2 hown2 hgrow2)
  have d0 : w2.cell? ⟨w.heap.size, 0, none⟩ = some (.string a0_0) := by
    obtain ⟨es, ck, hh, _⟩ := hm0
    exact cell_kept (cell_later_alloc _ c0) hgrow2 (fun r e => by cases e; exact ⟨_, hh, rfl⟩)
  have hB2 : Below w.heap.size w w2 := (hB1.alloc hB1.size _).grown hgrow2 (hB1.alloc hB1.size _).size (fun k e => by cases e; omega)
  have hz2 : w1.heap.size + 1 ≤ w2.heap.size := by have := hgrow2.size; simpa using this
  have hS0 := says_start a0_0 a0_1
  have hO : ∃ D, w2.ownsMap Try.prog 3 (plainElem (H := Unit) Try.prog 4) w1.heap.size 1 D ∧ Says a0_0 a0_1 0 D := ⟨_, hown2, hS0⟩
  obtain ⟨mb, hmb⟩ : ∃ mb, mb = w1.heap.size := ⟨_, rfl⟩
  rw [← hmb] at hO hz2 hz1 ⊢
  clear hmb hB1
  clear hown2 hgrow2 hS0 c1' c0 c1 hm0 hmm
  have e1 := cell_new w2 (.map (some mb)) 66
  gi_loopw [18] (fun i wr => ∃ k : Nat, i = .int .i64 k ∧ k ≤ 90 ∧ wr.cell? ⟨w.heap.size, 0, none⟩ = some (.string a0_0) ∧ wr.cell? ⟨w2.heap.size, 0, none⟩ = some (.map (some mb)) ∧
      (∃ D, wr.ownsMap Try.prog 3 (plainElem (H := Unit) Try.prog 4) mb (k + 1) D ∧ Says a0_0 a0_1 k D) ∧ Below w.heap.size w wr) (fun i _ => 90 - (intOf i).toNat)
  case atStart =>
    refine ⟨0, rfl, by omega, cell_later_alloc _ d0, e1.1, ?_, hB2.alloc hB2.size _⟩
    obtain ⟨D, hD, hS⟩ := hO
    exact ⟨D, hD.alloc _, hS⟩
  case round =>
    clear d0 hB2 hO e1
    obtain ⟨k, rfl, hk, f0, f1, ⟨D, hD, hS⟩, hB⟩ := hrel
    by_cases hlt : k < 90
    · obtain ⟨hp, hp0, hp1⟩ := placeN_is a0_0 k hlt
      have hk' : k < a0_0.size := by omega
      have ex : ((a0_0[k]'hk').toNat : Int) = bt a0_0 k := by simp [bt, hk']
      rw [← ex] at hp
      have hput := says_put hS
      have hskip := says_skip hS
      obtain ⟨p, hpe⟩ : ∃ p, p = placeN a0_0 k := ⟨_, rfl⟩
      rw [← hpe] at hp hp0 hp1 hput hskip
      have HP := Aside0.mk hp
      have hwf : (Lit.int .i64 p).wf = true := by
        have := wrap64_wf p
        rwa [w64 p (by omega) (by omega)] at this
      clear hp ex hpe
      by_cases hpos : 0 < p
      · have HS := hput hpos
        clear hput hskip hS
        gi_wp2
        refine ⟨trivial, ?_⟩
        (with_reducible refine (callsIn_wide.2 (key_place.calls _ _ _ _ HP.out)).mono ?_)
        rintro e w' ⟨rfl, ⟨q, rfl⟩⟩
        have hD' : (wr.drewN q).ownsMap Try.prog 3 (plainElem (H := Unit) Try.prog 4) mb (k + 1) D := hD
        have f0' : (wr.drewN q).cell? ⟨w.heap.size, 0, none⟩ = some (.string a0_0) := f0
        have f1' : (wr.drewN q).cell? ⟨w2.heap.size, 0, none⟩ = some (.map (some mb)) := f1
        have hB' : Below w.heap.size w (wr.drewN q) := ⟨hB.os, hB.tape, hB.output, hB.size, hB.block⟩
        clear hD f0 f1 hB
        gi_wp2_with (gi_at_mapUpdate; refine wpListIn_mapUpdate_own _ rfl _ _ _ 66 rfl 3 4 (Maps.int_keyed Try.underlying3) Try.underlying66 _ mb (k + 1) _ rfl hD' (by unfold maxLen; omega) _ _ (.int .i64 p) rfl rfl (Maps.keyOf_int_mk Try.underlying3 hwf) _ [] (plainElem_bool Try.underlying4 true) ?_; intro w3 hown3 hgrow3)
        go_roundw
        case rel =>
          obtain ⟨es, ck, hh, _⟩ := hD'
          exact ⟨k + 1, by go_num, by omega, cell_kept f0' hgrow3 (fun r e => by cases e; exact ⟨_, hh, rfl⟩), cell_kept f1' hgrow3 (fun r e => by cases e; exact ⟨_, hh, rfl⟩), ⟨_, hown3, HS⟩, hB'.grown hgrow3 hB'.size (fun k e => by cases e; omega)⟩
        case measure => simp [intOf]; omega
      · have HS := hskip hpos
        clear hput hskip hS
        gi_wp2
        refine ⟨trivial, ?_⟩
        (with_reducible refine (callsIn_wide.2 (key_place.calls _ _ _ _ HP.out)).mono ?_)
        rintro e w' ⟨rfl, ⟨q, rfl⟩⟩
        gi_wp2
        go_roundw
        case rel => exact ⟨k + 1, by go_num, by omega, f0, f1, ⟨D, hD.mono (by omega), HS⟩, ⟨hB.os, hB.tape, hB.output, hB.size, hB.block⟩⟩
        case measure => simp [intOf]; omega
    · obtain rfl : k = 90 := by omega
      gi_wp2
      refine ⟨trivial, ?_⟩
      refine (key_row_in _ _).mono ?_
      rintro e w' ⟨rfl, rfl⟩
      gi_wp2
      have g0 := cell_new wr (.int .u64 0) 22
      have hmb := hD.lt
      have hwr : w.heap.size ≤ wr.heap.size := hB.size
      have hw2 : w2.heap.size < wr.heap.size := by
        obtain ⟨o, ho, _⟩ := cells_of_cell f1
        exact (Array.getElem?_eq_some_iff.1 ho).1
      refine wpIn_range_endless rfl h1 (gf := 70) (lb := #[]) rfl trivial (enters_of Try.func70 (by kernel_rfl) rfl) (row_endless 5 (by decide) 1262 (by omega) _) (Below.refl _ _) (fun _ => rfl)
        (fun pre W => ((W.cell? ⟨w2.heap.size, 0, none⟩ = some (.map (some mb)) ∧ W.cell? ⟨wr.heap.size, 0, none⟩ = some (.int .u64 (keyFold a0_0 a0_1 pre.length)) ∧ W.frozen? ⟨wr.heap.size, 0, none⟩ = false ∧ W.ownsMap Try.prog 3 (plainElem (H := Unit) Try.prog 4) mb 91 D) ∧ pre.length ≤ 1261) ∧ Below w.heap.size w W)
        (fun c pre W => (c = .exit 2 ∧ W.cell? ⟨wr.heap.size, 0, none⟩ = some (.int .u64 (keyFold a0_0 a0_1 1262))) ∧ Below w.heap.size w W)
        (OwnFrom.and (OwnFrom.and (fun s A B row hs hg hr => ⟨cell_kept hs.1 hg (fun r e => (hr r e).2), cell_kept hs.2.1 hg (fun r e => (hr r e).2), (frozen_kept hs.2.1 hg (fun r e => (hr r e).2)).trans hs.2.2.1, hs.2.2.2.kept hg (fun e => by have := (hr _ e.symm).1; simp at this; omega)⟩) (fun _ _ _ _ hs _ _ => hs)) (ownFrom_below (Nat.le_refl _) (by simp; omega)))
        (fun c => OwnFrom.and (fun s A B row hs hg hr => ⟨hs.1, cell_kept hs.2 hg (fun r e => (hr r e).2)⟩) (ownFrom_below (Nat.le_refl _) (by simp; omega)))
        (fun pre W hi => by have := hi.1.2; omega)
        ⟨⟨⟨cell_later_alloc _ f1, g0.1, g0.2, hD.alloc _⟩, by simp⟩, hB.alloc hB.size _⟩
        (fun i => { tmps := #[.agg #[.string a0_0, .int .i64 a0_1, .int .i64 a0_2, .int .i64 a0_3], .pointer (some ⟨w.heap.size, 0, none⟩), .int .u64 0, .pointer (some ⟨w2.heap.size, 0, none⟩), u4, u5, .pointer (some ⟨wr.heap.size, 0, none⟩), .int .i64 i, .int .u64 (rowN i), .pointer (some ⟨w.heap.size, 0, none⟩), .string a0_0, .bool true, .bool false, .map (some mb), .pointer (some ⟨w.heap.size, 1, none⟩), .int .i64 a0_1, .bool (a0_1 == 1),
          .map (some mb), .int .i64 90, .bool false, u20, u21, u22, u23, u24, u25, u26, u27, u28, u29, u30, u31, .func (.func 70) #[] #[], .int .i64 i, .int .u64 (rowN i), undef, undef, undef, undef, undef, undef, undef, undef, undef], defers := [] }) ?assign ?body ?stop
      case assign =>
        intro l x W K hK
        gi_wp2
        exact hK
      case body =>
        rintro l pre x W ⟨⟨⟨hc1, hc2, hf2, hown⟩, hlen⟩, hBW⟩ rfl
        have hsay := hS.at_ pre.length
        have hfold : keyFold a0_0 a0_1 (pre.length + 1) = if wantedN a0_0 a0_1 90 pre.length = true then Go.bits .xor .u64 (keyFold a0_0 a0_1 pre.length) (rowN pre.length) else keyFold a0_0 a0_1 pre.length := rfl
        obtain ⟨c, hc⟩ : ∃ c, c = wantedN a0_0 a0_1 90 pre.length := ⟨_, rfl⟩
        rw [← hc] at hsay hfold
        obtain ⟨m, hm⟩ : ∃ m, m = pre.length := ⟨_, rfl⟩
        obtain ⟨y, hy⟩ : ∃ y, y = keyFold a0_0 a0_1 m := ⟨_, rfl⟩
        rw [← hm, ← hy] at hfold
        rw [← hm] at hsay hlen hc2 ⊢
        rw [← hy] at hc2
        have HF := Aside0.mk hfold
        have HS := Aside0.mk hsay
        have HM := Aside0.mk hm
        clear hfold hsay hc hy hm
        have hwf : (Lit.int .i64 (m : Int)).wf = true := by
          have := wrap64_wf (m : Int)
          rwa [w64 (m : Int) (by omega) (by omega)] at this
        gi_wp2_with (gi_at_lookup; refine wpListIn_lookup_own_bool _ rfl _ _ 66 rfl 3 4 (Maps.int_keyed Try.underlying3) Try.underlying66 Try.underlying4 (Try.zeroValue4 _) mb 91 _ rfl hown _ _ rfl (Maps.keyOf_int_mk Try.underlying3 hwf) c HS.out ?_)
        · have h61 : m = 1261 := by
            have : ((m : Int) == 1261) = true := by assumption
            simp at this; omega
          have hv := HF.out
          rw [if_pos (by assumption), h61] at hv
          rw [h61]
          exact ⟨(KeepsOthers.setCell _ _ _).from _, ⟨rfl, by rw [hv]; exact World.cell?_setCell_same' _ _ _ (by rw [hc2]; rfl)⟩, hBW.setCell (p := ⟨wr.heap.size, 0, none⟩) (by simp; omega) _⟩
        · have h61 : m ≠ 1261 := by
            have : ((m : Int) == 1261) = false := by assumption
            simp at this; omega
          have hv := HF.out
          rw [if_pos (by assumption)] at hv
          have hm := HM.out
          exact ⟨(KeepsOthers.setCell _ _ _).from _, ⟨⟨(World.cell?_setCell_other W ⟨wr.heap.size, 0, none⟩ ⟨w2.heap.size, 0, none⟩ _ (by intro e; injection e; omega)).trans hc1, by rw [List.length_append, ← hm]; simp only [List.length_cons, List.length_nil, Nat.zero_add]; rw [hv]; exact World.cell?_setCell_same' _ _ _ (by rw [hc2]; rfl), by rw [World.frozen?_setCell]; exact hf2, hown.kept (grownBy_setCell' W wr.heap.size _) (by intro e; cases e; omega)⟩, by simp; omega⟩, hBW.setCell (p := ⟨wr.heap.size, 0, none⟩) (by simp; omega) _⟩
        · have h61 : m = 1261 := by
            have : ((m : Int) == 1261) = true := by assumption
            simp at this; omega
          have hv := HF.out
          have hcf : c = false := by assumption
          rw [hcf, if_neg (by decide), h61] at hv
          exact ⟨(KeepsOthers.refl _).from _, ⟨rfl, by rw [hv]; exact hc2⟩, hBW⟩
        · have h61 : m ≠ 1261 := by
            have : ((m : Int) == 1261) = false := by assumption
            simp at this; omega
          have hv := HF.out
          have hcf : c = false := by assumption
          rw [hcf, if_neg (by decide)] at hv
          have hm := HM.out
          exact ⟨(KeepsOthers.refl _).from _, ⟨⟨hc1, by rw [List.length_append, ← hm]; simp only [List.length_cons, List.length_nil, Nat.zero_add]; rw [hv]; exact hc2, hf2, hown⟩, by simp; omega⟩, hBW⟩
      case stop =>
        rintro Dd c pre W hDd ⟨⟨rfl, hc⟩, hBW⟩ hK
        gi_wp2
        refine ⟨by simp, .inl ⟨_, _, rfl, run_takeDeferred hK, ?_⟩⟩
        exact ⟨_, results_tmp rfl _ _ _, rfl, hBW.trans (belowK_b (w := w) (Nat.le_refl _) W Dd _ _ (by simp at hDd; omega) hK rfl rfl)⟩

set_option maxHeartbeats 1000000 in
theorem key_Of.other (a0_0 : ByteArray) (a0_1 : Int) (a0_2 : Int) (a0_3 : Int) (w : World) (hI : board_Is.f a0_0 = some false) :
    Calls Try.prog 23 #[.agg #[.string a0_0, .int .i64 a0_1, .int .i64 a0_2, .int .i64 a0_3]] w fun e w' => e = .returned (.int .u64 0) ∧ Below w.heap.size w w' := by
  have HI := Aside0.mk hI
  clear hI
  go_enter Try.func23, Try.ntmps23
  go_wp2_with (go_at_call 41; refine (board_Is.calls _ false _ HI.out).mono ?_; rintro e w1 ⟨rfl, hb1⟩)
  go_ret
  exact ⟨rfl, ((Below.refl _ w).alloc (Nat.le_refl _) _).trans (hb1.mono (by simp))⟩

theorem key_Of.calls (a0_0 : ByteArray) (a0_1 : Int) (a0_2 : Int) (a0_3 : Int) (r : Int) (w : World) (h : key_Of.f a0_0 a0_1 a0_2 a0_3 = some r) :
    Calls Try.prog 23 #[.agg #[.string a0_0, .int .i64 a0_1, .int .i64 a0_2, .int .i64 a0_3]] w fun e w' => e = .returned (.int .u64 r) ∧ Below w.heap.size w w' := by
  unfold key_Of.f at h
  obtain ⟨b, hb, h⟩ := Option.bind_eq_some_iff.mp h
  cases b with
  | true => rw [if_pos rfl] at h; obtain rfl := Option.some.inj h; exact key_Of.board _ _ _ _ w hb
  | false => rw [if_neg (by decide)] at h; obtain rfl := Option.some.inj h; exact key_Of.other _ _ _ _ w hb

end Go.Proofs.Ytmfbgcimfmgobaa.Print
