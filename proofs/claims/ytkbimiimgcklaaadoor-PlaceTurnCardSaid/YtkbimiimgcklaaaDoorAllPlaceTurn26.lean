/- Merged by a program of this session (wip/gprint/merge.py): what this claim needs of this session's texts, each part as it was. -/
import Derived.Test.YtkbimiimgcklaaaDoorAllPlaceTurn7
import Derived.Test.YtkbimiimgcklaaaDoorAllPlaceTurn16
import Derived.Test.YtkbimiimgcklaaaDoorAllPlaceTurn17
import Derived.Test.YtkbimiimgcklaaaDoorAllPlaceTurn3
import Derived.Test.YtkbimiimgcklaaaDoorAllPlaceTurn6
import Derived.RangeFuncNested
import Derived.RangeFuncBound
import Derived.RangeFuncCalls
import Derived.RangeFuncLeaves
import Derived.Shelf.Abstract
import Derived.Shelf.RegionOpen
import Derived.OwnWalkIn
import Derived.TacticsInMore
import Derived.LoopNIn
import Derived.LoopIn
import Derived.Maps.AppendAt
namespace Go.Proofs.YtkbimiimgcklaaaDoor.Print
end Go.Proofs.YtkbimiimgcklaaaDoor.Print

-- of YtkbimiimgcklaaaDoorPrint31
-- Written by a program of this session (wip/gprint/gprint.py) over the kit's print; the parts marked GIVEN by hand.
namespace Go.Proofs.YtkbimiimgcklaaaDoor.Print
open Go.RowKit Go.Proofs.YtkbimiimgcklaaaDoorW.PrintWords Go.Proofs.YtkbimiimgcklaaaDoorW.PrintLast Go.Proofs.YtkbimiimgcklaaaDoorW.PrintMore
attribute [local go_sem] max2_int min2_int max_two min_two max_three min_three max_four min_four   -- for this text's walks alone
set_option linter.unusedVariables false
set_option linter.unusedSimpArgs false

/-! GIVEN board_Turn -/
-- GIVEN riverbank/board.Turn
-- MAKES yes
-- NEEDS riverbank/board.Is
-- NEEDS riverbank/board.Side
-- IMPORT Derived.Test.YtkbimiimgcklaaaDoorRangeD
-- IMPORT Derived.Test.YtkbimiimgcklaaaDoorBytes
-- IMPORT Derived.RangeFuncNested
-- IMPORT Derived.RangeFuncBound
-- IMPORT Derived.RangeFuncCalls
-- IMPORT Derived.RangeFuncLeaves
-- IMPORT Derived.Shelf.Abstract
-- IMPORT Derived.Shelf.RegionOpen
-- IMPORT Derived.OwnWalkIn
-- IMPORT Derived.TacticsInMore
-- IMPORT Derived.LoopNIn
-- IMPORT Derived.LoopIn
-- IMPORT Derived.Maps.AppendAt
open Go.Shelf
attribute [local go_sem] Oper.semAt_some
/-- A byte as it is seen from the other side. -/
def swapB (c : UInt8) : UInt8 := if board_Side.f c.toNat = some 0 then c + 32 else if board_Side.f c.toNat = some 1 then c - 32 else c
/-- A text, the other way round, each byte seen from the other side. -/
def turnB (s : ByteArray) : ByteArray := ⟨((s.data.toList.reverse).map swapB).toArray⟩
def board_Turn.f (a0 : ByteArray) : Option (ByteArray) := (board_Is.f a0).bind fun t => some (if t = true then turnB a0 else ⟨#[]⟩)
/-- What the backward iterator gives behind its first ones: the k lowest. -/
def backN (l : List UInt8) : Nat → List (Nat × UInt8)
  | 0 => []
  | k + 1 => (k, l.getD k 0) :: backN l k
set_option maxRecDepth 100000 in
set_option maxHeartbeats 2000000 in
theorem back1_all (n : Nat) (hn : 1 ≤ n) (l : List UInt8) (hl : l.length ≤ 200) (cap g b0 N : Nat) (hN : N = l.length) :
    RangeD.SeqRead Fence.wide n Tryd.prog 116 #[.pointer (some ⟨b0, 0, none⟩)] (fun x : Nat × UInt8 => #[.int .i64 x.1, .int .u8 x.2.toNat]) (backN l N)
      (fun W => W.cell? ⟨b0, 0, none⟩ = some (.slice (some ⟨g, 0, none⟩) N cap) ∧ ∀ i (h : i < l.length), W.cell? ⟨g, i, none⟩ = some (.int .u8 (l[i].toNat : Int))) := by
  subst hN
  intro lq J W hJ hR hY h0
  have c0 := (hR _ _ h0).1
  have HY := Aside0.mk hY
  have HR := Aside0.mk hR
  have H0 := Aside0.mk h0
  clear hY hR h0 hJ
  refine callsIn_of_wp Tryd.func116 rfl trivial ?_ rfl
  simp only [Tryd.ntmps116, List.size_toArray, List.length_cons, List.length_nil, Nat.reduceAdd, Nat.reduceSub, Array.replicate_succ, Array.replicate_zero, List.push_toArray, List.append_toArray, List.nil_append, List.cons_append]
  gi_wp2
  gi_loopw [3] (fun i wr => ∃ (pre : List (Nat × UInt8)) (k : Nat), i = .int .i64 ((k : Int) - 1) ∧ k ≤ l.length ∧ J pre wr ∧ pre ++ backN l k = backN l l.length) (fun i _ => (intOf i + 1).toNat)
  case atStart => exact ⟨[], l.length, by go_num, Nat.le_refl _, H0.out, rfl⟩
  case round =>
    clear H0 c0
    obtain ⟨pre, k, rfl, hk, hj, hp⟩ := hrel
    have q0 := (HR.out _ _ hj).1
    cases k with
    | zero =>
      have HJ := Aside0.mk hj
      have HP := Aside0.mk hp
      clear hj hp
      gi_wp2
      go_end0
      exact ⟨⟨_, rfl⟩, by have := HP.out; simp only [backN, List.append_nil] at this; rw [← this]; exact HJ.out⟩
    | succ k =>
      have hk' : k < l.length := hk
      have q1 := (HR.out _ _ hj).2 k hk'
      have e1 : ((k + 1 : Nat) : Int) - 1 = (k : Int) := by omega
      have hpre : (pre ++ [(k, l[k])]) <+: backN l l.length := ⟨backN l k, by rw [← hp]; simp [backN, hk']⟩
      have hp' : (pre ++ [(k, l[k])]) ++ backN l k = backN l l.length := by rw [← hp]; simp [backN, hk']
      obtain ⟨fn, tmps, assign, body, hy, hR2⟩ := HY.out pre (k, l[k]) _ hj hpre
      have HP := Aside0.mk hp'
      have HR2 := Aside0.mk hR2
      have hki : (k : Int) < (l.length : Int) := by omega
      obtain ⟨x, hx⟩ : ∃ x, x = l[k] := ⟨_, rfl⟩
      rw [← hx] at q1 hy HR2 HP
      rw [e1]
      clear hj hp hp' hpre hR2 e1 hx
      gi_wp2
      refine HR2.out.mono ?_
      rintro e w3 ⟨rfl, J3⟩
      have q2 := (HR.out _ _ J3).1
      have HJ3 := Aside0.mk J3
      clear J3 hy HR2 q0 q1
      gi_wp2
      go_roundw
      case rel => exact ⟨pre ++ [(k, x)], k, by go_num, by omega, HJ3.out, HP.out⟩
      case measure => simp [intOf]
theorem swap_cases (c : UInt8) : (board_Side.f (c.toNat : Int) = some 0 ∧ c.toNat + 32 < 256 ∧ (swapB c).toNat = c.toNat + 32) ∨ (board_Side.f (c.toNat : Int) = some 1 ∧ 32 ≤ c.toNat ∧ (swapB c).toNat + 32 = c.toNat) ∨ (board_Side.f (c.toNat : Int) = some (-1) ∧ swapB c = c) := by
  have h : ∀ n : Fin 256, (board_Side.f ((UInt8.ofNat n.val).toNat : Int) = some 0 ∧ (UInt8.ofNat n.val).toNat + 32 < 256 ∧ (swapB (UInt8.ofNat n.val)).toNat = (UInt8.ofNat n.val).toNat + 32) ∨ (board_Side.f ((UInt8.ofNat n.val).toNat : Int) = some 1 ∧ 32 ≤ (UInt8.ofNat n.val).toNat ∧ (swapB (UInt8.ofNat n.val)).toNat + 32 = (UInt8.ofNat n.val).toNat) ∨ (board_Side.f ((UInt8.ofNat n.val).toNat : Int) = some (-1) ∧ swapB (UInt8.ofNat n.val) = UInt8.ofNat n.val) := by decide +kernel
  have := h ⟨c.toNat, c.toNat_lt⟩
  have e : UInt8.ofNat (⟨c.toNat, c.toNat_lt⟩ : Fin 256).val = c := UInt8.ofNat_toNat
  rw [e] at this
  exact this
theorem backN_map (l : List UInt8) : ∀ k, k ≤ l.length → (backN l k).map Prod.snd = (l.take k).reverse
  | 0, _ => by simp [backN]
  | k + 1, h => by
    have hk : k < l.length := h
    show l.getD k 0 :: (backN l k).map Prod.snd = _
    rw [backN_map l k (by omega), ← List.take_append_getElem hk, List.reverse_append]
    simp [List.getD, hk]
theorem info_u8 : (Tryd.prog.info? 5).map (fun i => (i.zero, i.size, i.bytes)) = some (some (.int .u8 0), 1, 1) := by kernel_rfl
set_option maxHeartbeats 1000000 in
theorem backward_calls (v : Value) (w : World) (g l c : Nat) (hv : v = .slice (some ⟨g, 0, none⟩) l c) : Calls Tryd.prog 101 #[v] w fun e w' =>
    e = .returned (.func (.func 116) #[] #[.pointer (some ⟨w.heap.size, 0, none⟩)]) ∧ w' = w.alloc (.cells #[v] 93) := by
  subst hv
  go_enter Tryd.func101, Tryd.ntmps101
  go_wp2
  go_ret
  exact ⟨rfl, rfl⟩
theorem heap_cell {A W : World} {b o : Nat} (h : W.heap[b]? = A.heap[b]?) : W.cell? ⟨b, o, none⟩ = A.cell? ⟨b, o, none⟩ := by
  simp only [World.cell?, h]
theorem holds_kept2 {A B : World} {row : Option Nat} {n₀ Bx : Nat} {t e : TypeId} {v : Value} {k : Nat} {xs : List Value} (hv : Boxed A Bx t v) (hr : A.ownsRow n₀ e 1 v k xs) (hg : A.grownBy B row)
    (hrow : ∀ r, row = some r → ∃ o : Obj, A.heap[r]? = some o ∧ o.isCells = false) : Boxed B Bx t v ∧ B.ownsRow n₀ e 1 v k xs := by
  refine ⟨hv.kept hg (fun e' => ?_), hr.kept hg ?_⟩
  · obtain ⟨o, ho, hc⟩ := hrow Bx e'.symm
    rw [show A.heap[Bx]? = _ from hv] at ho; cases ho; cases hc
  · rcases hr.2 with ⟨rfl, _⟩ | ⟨g, cap, cur, rfl, hle, hgb, _⟩
    · exact .inl rfl
    · refine .inr fun e' => ?_
      obtain ⟨o, ho, hc⟩ := hrow g (by simpa [Value.ownBlock] using e'.symm)
      rw [hgb] at ho; cases ho; cases hc
theorem appended2 {W w1 : World} {n₀ B : Nat} {t e : TypeId} {size : Nat} {v v' : Value} {k m : Nat} {xs ys : List Value} {tmp : Obj} (n : Nat) (hnB : n ≤ B) (hnn : n ≤ n₀)
    (hv : Boxed W B t v) (hte : t ≠ e) (hrow : W.ownsRow n₀ e size v k xs) (hn₀ : n₀ ≤ W.heap.size)
    (hown' : w1.ownsRow n₀ e size v' m ys) (hgrow : (W.alloc tmp).grownBy w1 v.ownBlock) :
    Boxed w1 B t v ∧ Boxed (w1.setCell ⟨B, 0, none⟩ v') B t v' ∧ (w1.setCell ⟨B, 0, none⟩ v').ownsRow n₀ e size v' m ys ∧ KeepsOthers W (w1.setCell ⟨B, 0, none⟩ v') ∧ Below n W (w1.setCell ⟨B, 0, none⟩ v') ∧ ∀ j, j < n₀ → j ≠ B → (w1.setCell ⟨B, 0, none⟩ v').heap[j]? = W.heap[j]? := by
  have hv1 : Boxed w1 B t v := (hv.alloc tmp).kept hgrow (hv.not_row hte hrow)
  refine ⟨hv1, hv1.set v', hown'.kept (grownBy_setCell' w1 B v') (.inr (hv1.not_row hte hown').symm), ?_, ?_, ?_⟩
  · refine ((KeepsOthers.alloc W tmp).trans (KeepsOthers.of_grownBy hgrow fun j o ej hj => ?_)).trans (KeepsOthers.setCell _ _ _)
    rcases (hrow.alloc tmp).2 with ⟨rfl, _⟩ | ⟨g, cap, cur, rfl, _, hgb, _⟩
    · simp [Value.ownBlock] at ej
    · obtain rfl : g = j := by simpa [Value.ownBlock] using ej
      rw [hgb] at hj; cases hj; rfl
  · refine (((Below.refl n W).alloc (by omega) tmp).grown hgrow (by simp; omega) fun j ej => ?_).setCell (p := ⟨B, 0, none⟩) hnB v'
    rcases hrow.2 with ⟨rfl, _⟩ | ⟨g, cap, cur, rfl, hb, _, _⟩
    · simp [Value.ownBlock] at ej
    · obtain rfl : g = j := by simpa [Value.ownBlock] using ej
      omega
  · intro j hj hne
    refine (Below.heap_setCell _ _ _ j hne).trans ((hgrow.block j (by simp; omega) ?_).trans (Below.heap_alloc _ _ _ (by omega)))
    rcases hrow.2 with ⟨rfl, _⟩ | ⟨g, cap, cur, rfl, hb, _, _⟩
    · simp [Value.ownBlock]
    · simp [Value.ownBlock]; omega
/-- What holds between the rounds: the box b of what is written, its own row behind b + 2, what is read. -/
def TurnInv (wD w : World) (b : Nat) (pre : List (Nat × UInt8)) (W : World) : Prop :=
  (∃ v, Boxed W b 93 v ∧ W.ownsRow (b + 3) 5 1 v pre.length (pre.map fun x => Value.int .u8 ((swapB x.2).toNat : Int))) ∧ (∀ j, j < b + 3 → j ≠ b → W.heap[j]? = wD.heap[j]?) ∧ Below w.heap.size w W ∧ b + 3 ≤ W.heap.size
theorem TurnInv.kept {wD w A B : World} {b D : Nat} {row : Option Nat} {pre : List (Nat × UInt8)} (hw : w.heap.size ≤ b) (hD : b + 3 ≤ D) (h : TurnInv wD w b pre A) (hg : A.grownBy B row)
    (hrow : ∀ r, row = some r → D ≤ r ∧ ∃ o : Obj, A.heap[r]? = some o ∧ o.isCells = false) : TurnInv wD w b pre B := by
  obtain ⟨⟨v, hv, hr⟩, hk, hb, hs⟩ := h
  refine ⟨⟨v, holds_kept2 hv hr hg (fun r e => (hrow r e).2)⟩, fun j hj hne => (hg.block j (by omega) (fun e => ?_)).trans (hk j hj hne), hb.grown hg (by omega) (fun k e => ?_), Nat.le_trans hs hg.size⟩
  · have := (hrow j e.symm).1; omega
  · have := (hrow k e).1; omega
theorem TurnInv.cell {wD w W : World} {b : Nat} {pre : List (Nat × UInt8)} (h : TurnInv wD w b pre W) (j o : Nat) (hj : j < b + 3) (hne : j ≠ b) : W.cell? ⟨j, o, none⟩ = wD.cell? ⟨j, o, none⟩ := heap_cell (h.2.1 j hj hne)
set_option maxRecDepth 100000 in
set_option maxHeartbeats 2000000 in
theorem turn_all (n : Nat) (hn : 3 ≤ n) (a0 : ByteArray) (w : World) (hI : board_Is.f a0 = some true) :
    CallsIn Fence.wide n Tryd.prog 60 #[.string a0] w fun e w' => e = .returned (.string (turnB a0)) ∧ Below w.heap.size w w' := by
  have h1 : 1 ≤ n := by omega
  have hsz : a0.size = 90 := by
    unfold board_Is.f at hI; have := Option.some.inj hI; simp at this; exact this.1
  have hl90 : a0.data.toList.length = 90 := by simpa using hsz
  obtain ⟨i0, hi0, hz0, hz1, hz2⟩ := info_parts info_u8
  have hcv := fun (w : World) => Lib.run_convert_string_bytes (P := Tryd.prog) w 9 93 5 a0 Tryd.underlying9 Tryd.underlying93 Tryd.underlying5
  have HI := Aside0.mk hI
  clear hI
  refine callsIn_of_wp_marks Tryd.func60 rfl trivial ?_ rfl
  simp only [Tryd.ntmps60, List.size_toArray, List.length_cons, List.length_nil, Nat.reduceAdd, Nat.reduceSub, Array.replicate_succ, Array.replicate_zero, List.push_toArray, List.append_toArray, List.nil_append, List.cons_append]
  gi_wp2
  refine ⟨trivial, ?_⟩
  refine (callsIn_wide.2 (board_Is.calls a0 true _ HI.out)).mono ?_
  rintro e w1 ⟨rfl, hb1⟩
  gi_wp2
  refine ⟨trivial, ?_⟩
  refine (callsIn_wide.2 (backward_calls _ _ _ _ _ rfl)).mono ?_
  rintro e w2 ⟨rfl, rfl⟩
  obtain ⟨cp, hcp⟩ : ∃ cp, cp = grownCap (w1.alloc (Obj.cells #[Value.slice none 0 0] 93)) 90 0 5 := ⟨_, rfl⟩
  rw [← hcp]
  have hbx0 := Boxed.new w1 93 (.slice none 0 0)
  have hs1 : (w1.alloc (.cells #[.slice none 0 0] 93)).heap.size = w1.heap.size + 1 := by simp
  have hby0 := HasBytes.start (w1.alloc (.cells #[.slice none 0 0] 93)) 5 a0
  have hB1 : Below (w1.heap.size + 1) (w1.alloc (.cells #[.slice none 0 0] 93)) (Lib.bytesWorld (w1.alloc (.cells #[.slice none 0 0] 93)) 5 a0) := (below_bytes _ _ _).mono (by omega)
  have hsC : (Lib.bytesWorld (w1.alloc (.cells #[.slice none 0 0] 93)) 5 a0).heap.size = w1.heap.size + 2 := by rw [Lib.bytesWorld_size]; omega
  have hB01 : Below w1.heap.size w1 (w1.alloc (.cells #[.slice none 0 0] 93)) := (Below.refl _ w1).alloc (Nat.le_refl _) _
  obtain ⟨wC, hwC⟩ : ∃ wC, wC = Lib.bytesWorld (w1.alloc (.cells #[.slice none 0 0] 93)) 5 a0 := ⟨_, rfl⟩
  rw [← hwC] at hby0 hB1 hsC ⊢
  have hbC : Below w1.heap.size w1 wC := hB01.trans (hB1.mono (by omega))
  have hbxC : Boxed wC w1.heap.size 93 (.slice none 0 0) := (hB1.block _ (by omega)).trans hbx0
  rw [hs1] at hby0
  have hcell0 : (wC.alloc (.cells #[.slice (some ⟨w1.heap.size + 1, 0, none⟩) 90 cp] 93)).cell? ⟨wC.heap.size, 0, none⟩ = some (.slice (some ⟨w1.heap.size + 1, 0, none⟩) 90 cp) := (blk_cell (blk_new wC _) 0).trans rfl
  have hbD : Below w1.heap.size w1 (wC.alloc (.cells #[.slice (some ⟨w1.heap.size + 1, 0, none⟩) 90 cp] 93)) := hbC.trans (((Below.refl _ wC).alloc (by omega) _))
  have hbxD : Boxed (wC.alloc (.cells #[.slice (some ⟨w1.heap.size + 1, 0, none⟩) 90 cp] 93)) w1.heap.size 93 (.slice none 0 0) := hbxC.alloc _
  have hbyD : ∀ i (h : i < a0.data.toList.length), (wC.alloc (.cells #[.slice (some ⟨w1.heap.size + 1, 0, none⟩) 90 cp] 93)).cell? ⟨w1.heap.size + 1, i, none⟩ = some (.int .u8 (a0.data.toList[i].toNat : Int)) := fun i h =>
    (heap_cell (Below.heap_alloc _ _ _ (by omega))).trans (hby0.cell i h)
  have hsD : (wC.alloc (.cells #[.slice (some ⟨w1.heap.size + 1, 0, none⟩) 90 cp] 93)).heap.size = w1.heap.size + 3 := by simp; omega
  obtain ⟨wD, hwD⟩ : ∃ wD, wD = wC.alloc (.cells #[.slice (some ⟨w1.heap.size + 1, 0, none⟩) 90 cp] 93) := ⟨_, rfl⟩
  rw [← hwD] at hcell0 hbD hbxD hbyD hsD ⊢
  rw [hsC] at hcell0 ⊢
  clear hwD hwC hbC hbxC hB01 hB1 hby0 hbx0 hs1 hcv hcp hsC
  have hbW : Below w.heap.size w wD := hb1.trans (hbD.mono hb1.size)
  have hw1 := hb1.size
  gi_wp2
  have hturn : turnB a0 = ⟨((backN a0.data.toList 90).map fun x => swapB x.2).toArray⟩ := by
    have e := backN_map a0.data.toList 90 (by omega)
    rw [show a0.data.toList.take 90 = a0.data.toList from List.take_of_length_le (by omega)] at e
    unfold turnB; rw [← e, List.map_map]; rfl
  have hxl : ∀ k, (backN a0.data.toList k).length = k := fun k => by induction k with
    | zero => rfl
    | succ k ih => simp [backN, ih]
  have hE := back1_all (n - 1) (by omega) a0.data.toList (by omega) cp (w1.heap.size + 1) (w1.heap.size + 2) 90 hl90.symm
  have hx90 := hxl 90
  obtain ⟨xs, hxs⟩ : ∃ xs, xs = backN a0.data.toList 90 := ⟨_, rfl⟩
  rw [← hxs] at hE hturn hx90
  have HT := Aside0.mk hturn
  have HE := Aside0.mk hE
  have HBY := Aside0.mk hbyD
  have hMM : w1.heap.size + 3 ≤ wD.heap.size := by omega
  have hj1 : w1.heap.size + 1 < w1.heap.size + 3 := by omega
  have hj2 : w1.heap.size + 2 < w1.heap.size + 3 := by omega
  have hn1 : w1.heap.size + 1 ≠ w1.heap.size := by omega
  have hn2 : w1.heap.size + 2 ≠ w1.heap.size := by omega
  have hMM2 : wD.heap.size ≤ w1.heap.size + 3 := by omega
  have HC0 := Aside0.mk hcell0
  clear hE hxl hxs hturn hbyD hcell0 hbD hsD
  refine RangeD.wpIn_range_read rfl h1 (gf := 116) (lb := #[.pointer (some ⟨w1.heap.size + 2, 0, none⟩)]) rfl trivial (enters_of Tryd.func116 (by kernel_rfl) rfl) HE.out (fun _ => rfl)
    (TurnInv wD w w1.heap.size) (fun s A B row h hg hrow => h.kept hw1 hMM hg hrow)
    (fun _ W h => ⟨(h.cell (w1.heap.size + 2) 0 hj2 hn2).trans HC0.out, fun i hi => (h.cell (w1.heap.size + 1) i hj1 hn1).trans (HBY.out i hi)⟩)
    ⟨⟨_, hbxD, World.ownsRow_nil _ _ _ _⟩, fun _ _ _ => rfl, hbW, hMM⟩
    (fun x => { tmps := #[.string a0, undef, .string ⟨#[]⟩, .pointer (some ⟨w1.heap.size, 0, none⟩), undef, .int .u8 x.2.toNat, .string a0, .bool true, .bool false, .string a0, .slice (some ⟨w1.heap.size + 1, 0, none⟩) 90 cp, .func (.func 116) #[] #[.pointer (some ⟨w1.heap.size + 2, 0, none⟩)], .int .i64 x.1, .int .u8 x.2.toNat, undef, undef, undef, undef, undef, undef, undef, undef, undef, undef, undef, undef, undef, undef, undef, undef], defers := [] }) ?assign ?body ?done
  case assign =>
    intro l x W K hK
    gi_wp2
    exact hK
  case body =>
    rintro l pre ⟨ix, c⟩ W ⟨⟨v, hv, hrow⟩, hkk, hB, hS⟩ hpre
    have hc := hv.cell
    have hlen : pre.length ≤ 90 := by have := hpre.length_le; simp at this; omega
    clear hpre HE HBY HC0 hbxD hbW
    have HK := Aside0.mk hkk
    have HB := Aside0.mk hB
    clear hkk hB
    rcases swap_cases c with ⟨hs, hq1, hq2⟩ | ⟨hs, hq1, hq2⟩ | ⟨hs, hq1⟩
    all_goals
      have HS := Aside0.mk hs
      clear hs
      gi_wp2
      refine ⟨trivial, ?_⟩
      refine ⟨fun _ => by omega, CallsIn.inRound l ?_⟩
      refine (callsIn_wide.2 (board_Side.calls _ _ _ HS.out)).mono ?_
      rintro e w3 ⟨rfl, ⟨q, rfl⟩⟩
      have hg3 : W.grownBy (W.drewN q) none := ⟨rfl, rfl, rfl, Nat.le_refl _, fun _ _ _ => rfl⟩
      obtain ⟨hv3, hr3⟩ := holds_kept2 hv hrow hg3 (fun r e => by cases e)
      have hk3 : ∀ j, j < w1.heap.size + 3 → j ≠ w1.heap.size → (W.drewN q).heap[j]? = wD.heap[j]? := HK.out
      have hS3 : w1.heap.size + 3 ≤ (W.drewN q).heap.size := hS
      have hb3 : Below w.heap.size w (W.drewN q) := ⟨HB.out.os, HB.out.tape, HB.out.output, HB.out.size, HB.out.block⟩
      have ho3 : KeepsOthers W (W.drewN q) := KeepsOthers.of_grownBy hg3 (fun j o e _ => by cases e)
      obtain ⟨W3, hW3⟩ : ∃ W3, W3 = W.drewN q := ⟨_, rfl⟩
      rw [← hW3] at hv3 hr3 hk3 hS3 hb3 ho3 ⊢
      clear hW3 hg3 hv hrow HK HB hS hc
      have hc := hv3.cell
      have HK := Aside0.mk hk3
      have HO := Aside0.mk ho3
      have HB := Aside0.mk hb3
      clear hk3 ho3 hb3
      gi_wp2_with (gi_at_builtin; refine wpListIn_append_own _ rfl _ _ 93 rfl (w1.heap.size + 3) 5 i0 (.int .u8 0) 1 1 Tryd.underlying93 hi0 hz0 hz1 hz2 rfl (by decide) _ _ _ rfl (hr3.alloc _) ⟨W3.heap.size, 0, none⟩ 1 1 [_] rfl rfl (cell_one_new _ _ _) (by simp [Value.oneCell']) (by unfold maxLen; omega) (by omega) (by simp; omega) ?_; intro v' w4 hown' hgrow _; obtain ⟨g', cap', rfl⟩ := ownsRow_succ hown'; obtain ⟨hv4, hv5, hr5, hk5, hb5, hh5⟩ := appended2 w.heap.size hw1 (by omega) hv3 (by decide) hr3 hS3 hown' hgrow; have hc1 := hv4.cell; have hf1 := hv4.frozen)
      refine ⟨(HO.out.trans hk5).from _, ⟨⟨_, hv5, ?_⟩, fun j hj hne => (hh5 j hj hne).trans (HK.out j hj hne), HB.out.trans hb5, Nat.le_trans hS3 hk5.size⟩⟩
      simp only [List.map_append, List.map_cons, List.map_nil, List.length_append, List.length_singleton]
      first
        | (have eX : ((c.toNat : Int) + 32) = ((swapB c).toNat : Int) := by omega
           rw [← eX]; exact hr5)
        | (have eX : ((c.toNat : Int) - 32) % 256 = ((swapB c).toNat : Int) := by have := c.toNat_lt; omega
           rw [← eX]; exact hr5)
        | (rw [hq1]; exact hr5)
  case done =>
    rintro D W hD ⟨⟨v, hv, hrow⟩, hkk, hB, hS⟩ hK
    have hc := hv.cell
    rw [hx90] at hrow
    rcases hrow.2 with ⟨_, h0⟩ | ⟨g, cap, cur, rfl, hg, hgb, hle, hmx, hcs, htk⟩
    · cases h0
    · have hbk := run_convert_bytes_back (P := Tryd.prog) W 93 9 5 ⟨g, 0, none⟩ cap (xs.map fun x => swapB x.2) Tryd.underlying93 Tryd.underlying5 Tryd.underlying9 (fun k hk => by
        rw [addr_add0, blk_cell hgb k]
        have hk' : k < 90 := by simpa [hx90] using hk
        have e : cur.toList[k]? = (cur.toList.take (90 * 1))[k]? := by rw [List.getElem?_take_of_lt (by omega)]
        rw [← Array.getElem?_toList, e, htk]
        simp [hk', hx90])
      have hln : (xs.map fun x => swapB x.2).length = 90 := by simpa using hx90
      rw [hln, ← HT.out] at hbk
      have HB := Aside0.mk hB
      clear hln hrow hgb hcs htk hkk hB HE HBY HC0
      gi_wp2
      refine ⟨by simp, .inl ⟨_, _, rfl, run_takeDeferred hK, ?_⟩⟩
      refine ⟨_, results_tmp rfl _ _ _, rfl, HB.out.trans (belowK_b (w := w) (Nat.le_refl _) W D _ _ (by omega) hK rfl rfl)⟩
set_option maxHeartbeats 1000000 in
theorem board_Turn.calls (a0 : ByteArray) (r : ByteArray) (w : World) (h : board_Turn.f a0 = some r) :
    Calls Tryd.prog 60 #[.string a0] w fun e w' => e = .returned (.string r) ∧ Below w.heap.size w w' := by
  unfold board_Turn.f at h
  obtain ⟨t, ht, h⟩ := Option.bind_eq_some_iff.mp h
  have e := Option.some.inj h
  clear h
  cases t with
  | true =>
    rw [if_pos rfl] at e
    subst e
    exact callsIn_wide.1 (turn_all 6 (by omega) a0 w ht)
  | false =>
    rw [if_neg (by decide)] at e
    subst e
    have HI := Aside0.mk ht
    clear ht
    go_enter Tryd.func60, Tryd.ntmps60
    go_wp2_with (go_at_call 50; (with_reducible refine (board_Is.calls a0 false _ HI.out).mono ?_); rintro e w1 ⟨rfl, hb1⟩)
    go_ret
    exact ⟨rfl, hb1⟩

end Go.Proofs.YtkbimiimgcklaaaDoor.Print
