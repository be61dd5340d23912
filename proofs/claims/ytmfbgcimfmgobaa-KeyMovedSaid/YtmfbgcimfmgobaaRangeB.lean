/- A range over an iterator that by itself never ends: what the caller must bring besides is that a bound on the rounds follows from his invariant. Turned from the kit's law on ranges over functions (Derived/RangeFuncNested). -/
import Derived.RangeFuncNested
namespace Go.Proofs.Ytmfbgcimfmgobaa.RangeB
open Go Go.RowKit

variable {F : Fence} {n : Nat} {P : Program}

/-- The contract of an iterator that gives its elements without an end: it is asked of invariants alone that hold of fewer than N elements; it comes back where a round has said that it wants no more. -/
def SeqEndless {α : Type} (F : Fence) (n : Nat) (P : Program) (g : Nat) (lb : Array Value) (encs : α → Array Value) (Nth : Nat → α → Prop) (N : Nat) (w : World) : Prop :=
  ∀ (l : Nat) (J Jx : List α → World → Prop) (W : World), Below w.heap.size w W → AbidesFrom W.heap.size J → AbidesFrom W.heap.size Jx →
    (∀ pre W1, J pre W1 → pre.length < N) →
    (∀ pre x W1, J pre W1 → Nth pre.length x → YieldAt F (n - 1) P l (encs x) W1 fun e W' =>
      (e = .returned (.bool true) ∧ J (pre ++ [x]) W') ∨ (e = .returned (.bool false) ∧ Jx (pre ++ [x]) W')) →
    J [] W →
    CallsIn F n P g (#[.func (.yield l) #[] #[]] ++ lb) W fun e W' => (∃ v, e = .returned v) ∧ ∃ pre, Jx pre W'

/-- How a round's body may be left. -/
def leftBy {α : Type} (B : Nat) (I : List α → World → Prop) (Ix : Code → List α → World → Prop) (xs : List α) (W : World) : Exit → Act → World → Prop
  | .normal, _, W' => KeepsFrom B W W' ∧ I xs W'
  | .ret, _, W' => KeepsFrom B W W' ∧ Ix .ret xs W'
  | .exit id, _, W' => KeepsFrom B W W' ∧ Ix (.exit id) xs W'
  | .goto t, _, W' => KeepsFrom B W W' ∧ Ix (.goto t) xs W'
  | .panic _, _, _ => False
  | .outgrown, _, _ => False

theorem wpIn_range_endless {α : Type} {g : Operand} {ps : Array Tmp} {assign body : Code} {Q : Exit → Act → World → Prop} {a : Act} {w : World}
    (hro : F.round = none) (h1 : 1 ≤ n) {gf : Nat} {lb : Array Value} (hg : a.eval g = .func (.func gf) #[] lb) (hFg : F.fn gf) (eg : ∀ args w, (callFunc gf args).run P w = .ok (.enter gf args) w)
    {encs : α → Array Value} {Nth : Nat → α → Prop} {N : Nat} {w0 : World} (hseq : SeqEndless F (n - 1) P gf lb encs Nth N w0)
    (hb0 : Below w0.heap.size w0 w) (hps : ∀ x, (encs x).size = ps.size)
    (I : List α → World → Prop) (Ix : Code → List α → World → Prop) (hI : OwnFrom w.heap.size I) (hIx : ∀ c, OwnFrom w.heap.size (Ix c)) (hN : ∀ pre W, I pre W → pre.length < N) (h0 : I [] w) (a₁ : α → Act)
    (hassign : ∀ (l : Nat) (x : α) (W : World) (K : Act → World → Prop), K (a₁ x) W →
      assign.wpIn (F.inRound l) (n - 1 - 1) P (Exit.then K (fun _ _ _ => False)) { tmps := (ps.zip (encs x)).foldl (fun t (p, v) => t.setIfInBounds p v) a.tmps, defers := [] } W)
    (hbody : ∀ (l : Nat) (pre : List α) (x : α) (W : World), I pre W → Nth pre.length x → body.wpIn (F.inRound l) (n - 1 - 1) P (leftBy w.heap.size I Ix (pre ++ [x]) W) (a₁ x) W)
    (hstop : ∀ (D : Nat) (c : Code) (pre : List α) (W : World), w.heap.size ≤ D → Ix c pre W → W.heap[D]? = some (.deferred (some [])) → c.wpIn F n P Q { a with defers := { target := .collected D, args := #[] } :: a.defers } W) :
    (Code.rangeFunc g ps assign body).wpIn F n P Q a w := by
  refine wpIn_rangeFunc fun fn hfn => ?_
  rw [hro]
  -- the two blocks of the loop's books: that for deferred calls at s, the record behind it
  obtain ⟨s, hs⟩ : ∃ s, s = w.heap.size := ⟨_, rfl⟩
  obtain ⟨rec, hrec⟩ : ∃ rec : LoopState → Option Code → Loop, rec = fun st pe => { state := st, pending := pe, fn, tmps := a.tmps, params := ps, assign, body, defers := s } := ⟨_, rfl⟩
  obtain ⟨W1, hW1⟩ : ∃ W1, (w.alloc (.deferred (some []))).alloc (.loop (rec .ready none)) = W1 := ⟨_, rfl⟩
  have hL1 : W1.heap[s + 1]? = some (.loop (rec .ready none)) := by
    rw [← hW1, hs]; have := World.alloc_heap_new (w.alloc (.deferred (some []))) (.loop (rec .ready none)); rwa [World.size_alloc] at this
  have hK1 : W1.heap[s]? = some (.deferred (some [])) := by
    rw [← hW1, hs]; exact (Below.heap_alloc _ _ _ (by simp)).trans (World.alloc_heap_new w _)
  have hb1 : Below w.heap.size w W1 := by
    rw [← hW1]; exact ((Below.refl _ w).alloc (Nat.le_refl _) _).alloc (by simp) _
  rw [← hs] at hI hbody hstop
  have hIx' : ∀ c, OwnFrom s (Ix c) := by rw [hs]; exact hIx
  have hI1 : I [] W1 := by rw [← hW1]; exact hI.alloc _ (hI.alloc _ h0)
  refine ⟨s + 1, [{ target := .collected s, args := #[] }], W1, { target := .fn (.func gf) lb, args := #[.func (.yield (s + 1)) #[] #[]] }, W1, gf,
    #[.func (.yield (s + 1)) #[] #[]] ++ lb, W1, ?_, ?_, ?_, ?_, fun _ => h1, ?_⟩
  · rw [← hW1, hrec, hs]; exact run_enterLoop_outer _ _ _ _ _
  · simp only [resolve, hg]; simp [go_sem]
  · intro f' hf'; simp [Target.leads] at hf'; subst hf'; exact hFg
  · simp [invoke, go_sem, eg]
  have hnw : ∀ {A B : World} {row : Option Nat}, (∀ r, row = some r → W1.heap.size ≤ r ∧ ∃ o : Obj, A.heap[r]? = some o ∧ o.isWalk = true) → (∀ r, row = some r → s ≤ r ∧ ∃ o : Obj, A.heap[r]? = some o ∧ o.isCells = false) :=
    fun hr r e => by
      obtain ⟨hB, o, ho, hw⟩ := hr r e
      have := hb1.size
      exact ⟨by omega, o, ho, Obj.not_cells_of_walk hw⟩
  refine (hseq (s + 1)
    (fun pre W => I pre W ∧ W.heap[s + 1]? = some (.loop (rec .ready none)) ∧ W.heap[s]? = some (.deferred (some [])))
    (fun pre W => ∃ c, Ix c pre W ∧ W.heap[s + 1]? = some (.loop (rec .done (some c))) ∧ W.heap[s]? = some (.deferred (some [])))
    W1 (hb0.trans (hb1.mono hb0.size))
    (fun t A B row h hg' hr => ⟨hI t A B row h.1 hg' (hnw (B := B) hr), (grownBy_keeps hg' (fun r e => (hr r e).2) h.2.1 rfl).trans h.2.1, (grownBy_keeps hg' (fun r e => (hr r e).2) h.2.2 rfl).trans h.2.2⟩)
    (fun t A B row h hg' hr => by
      obtain ⟨c, hc, hl, hk⟩ := h
      exact ⟨c, hIx' c t A B row hc hg' (hnw (B := B) hr), (grownBy_keeps hg' (fun r e => (hr r e).2) hl rfl).trans hl, (grownBy_keeps hg' (fun r e => (hr r e).2) hk rfl).trans hk⟩)
    (fun pre W h => hN pre W h.1) ?_ ⟨hI1, hL1, hK1⟩).mono ?_
  · rintro pre x W ⟨hi, hl, hk⟩ hx
    have hlt : s + 1 < W.heap.size := (Array.getElem?_eq_some_iff.1 hl).1
    have hy := run_yield (P := P) (args := encs x) hl (by rw [hrec]; exact hps x)
    rw [hrec] at hy
    refine ⟨fn, _, assign, body, hy, roundIn_of_wpIn hfn (hassign _ x W _ ⟨_, run_beginRound hl (by rw [hrec]), ?_⟩)⟩
    obtain ⟨Wb, hWb⟩ : ∃ Wb, W.putObj (s + 1) (.loop { rec .ready none with state := .busy }) = Wb := ⟨_, rfl⟩
    rw [hWb]
    have hl2 : Wb.heap[s + 1]? = some (.loop { rec .ready none with state := .busy }) := by rw [← hWb]; exact World.putObj_heap_same hlt
    have hk2 : Wb.heap[s]? = some (.deferred (some [])) := by rw [← hWb]; exact (World.putObj_heap_other (by omega)).trans hk
    have hi2 : I pre Wb := by rw [← hWb]; exact hI.putObj _ hi (by omega) hl rfl
    refine wpIn_mono (hbody _ pre x Wb hi2 hx) ?_
    have fin : ∀ (jump : Option Code) (W3 : World), KeepsFrom s Wb W3 →
        (Instr.endRound (s + 1) jump).run P W3 = .ok (.bool jump.isNone) (W3.putObj (s + 1) (.loop (rec (if jump.isNone then .ready else .done) jump))) ∧
        W3.heap[s + 1]? = some (.loop { rec .ready none with state := .busy }) ∧
        (W3.putObj (s + 1) (.loop (rec (if jump.isNone then .ready else .done) jump))).heap[s + 1]? = some (.loop (rec (if jump.isNone then .ready else .done) jump)) ∧
        (W3.putObj (s + 1) (.loop (rec (if jump.isNone then .ready else .done) jump))).heap[s]? = some (.deferred (some [])) := fun jump W3 hk3 => by
      have hl3 := hk3.same _ _ (by omega) hl2 rfl
      have := run_endRound (P := P) jump hl3
      rw [hrec] at this ⊢
      exact ⟨this, by rw [hrec] at hl3; exact hl3, World.putObj_heap_same (Array.getElem?_eq_some_iff.1 hl3).1, (World.putObj_heap_other (by omega)).trans (hk3.same _ _ (Nat.le_refl _) hk2 rfl)⟩
    have out : ∀ (c : Code) (W3 : World), KeepsFrom s Wb W3 → Ix c (pre ++ [x]) W3 → ∃ v w', (Instr.endRound (s + 1) (some c)).run P W3 = .ok v w' ∧
        ((Ending.returned v = .returned (.bool true) ∧ I (pre ++ [x]) w' ∧ w'.heap[s + 1]? = some (.loop (rec .ready none)) ∧ w'.heap[s]? = some (.deferred (some []))) ∨
         (Ending.returned v = .returned (.bool false) ∧ ∃ c, Ix c (pre ++ [x]) w' ∧ w'.heap[s + 1]? = some (.loop (rec .done (some c))) ∧ w'.heap[s]? = some (.deferred (some [])))) := fun c W3 hk3 hi3 => by
      obtain ⟨hr, hl3, hl4, hk4⟩ := fin (some c) W3 hk3
      exact ⟨_, _, hr, .inr ⟨rfl, c, (hIx' _).putObj _ hi3 (by omega) hl3 rfl, hl4, hk4⟩⟩
    rintro e a3 W3 hp
    cases e with
    | normal =>
      obtain ⟨hk3, hi3⟩ := hp
      obtain ⟨hr, hl3, hl4, hk4⟩ := fin none W3 hk3
      exact ⟨_, _, hr, .inl ⟨rfl, hI.putObj _ hi3 (by omega) hl3 rfl, hl4, hk4⟩⟩
    | ret => exact out _ _ hp.1 hp.2
    | exit id => exact out _ _ hp.1 hp.2
    | goto t => exact out _ _ hp.1 hp.2
    | panic ch => exact hp.elim
    | outgrown => exact hp.elim
  · rintro e W2 ⟨⟨v, rfl⟩, pre, c, hi, hl, hk⟩
    exact ⟨some c, _, by have := run_endLoop (P := P) hl (by rw [hrec]; simp); rw [hrec] at this; exact this, hstop _ c pre _ (Nat.le_refl _) ((hIx' c).putObj _ hi (by omega) hl rfl) ((World.putObj_heap_other (by omega)).trans hk)⟩

end Go.Proofs.Ytmfbgcimfmgobaa.RangeB
