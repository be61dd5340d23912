/- Merged by a program of this session (wip/gprint/merge.py): what this claim needs of this session's texts, each part as it was. -/
import Derived.RangeFuncNested
namespace Go.Proofs.YtkbimiimgcklaaaDoor.RangeC
end Go.Proofs.YtkbimiimgcklaaaDoor.RangeC

-- of YtkbimiimgcklaaaDoorRangeC
/- A range over an iterator that keeps state in one block of cells of its own (a captured variable) and gives just the elements of a list; the body never leaves. Turned from the kit's law on ranges over functions (Derived/RangeFuncNested). -/
namespace Go.Proofs.YtkbimiimgcklaaaDoor.RangeC
open Go Go.RowKit

variable {F : Fence} {n : Nat} {P : Program}

/-- What abides a turn of block b0 and new blocks. -/
def AbidesBlk {β : Type} (b0 : Nat) (J : β → World → Prop) : Prop := ∀ s A B row, J s A → A.grownBy B row → (∀ r, row = some r → r = b0) → J s B
/-- The contract of an iterator that keeps its state in block b0: it gives just xs to a body that always goes on and leaves b0 and all below as it lies. -/
def SeqAll {α : Type} (F : Fence) (n : Nat) (P : Program) (g : Nat) (lb : Array Value) (encs : α → Array Value) (xs : List α) (b0 : Nat) (w : World) : Prop :=
  ∀ (l : Nat) (J : List α → World → Prop) (W : World), Below w.heap.size w W → AbidesBlk b0 J → (∀ pre W1, J pre W1 → Below b0 w W1) →
    (∀ pre x W1, J pre W1 → (pre ++ [x]) <+: xs → YieldAt F (n - 1) P l (encs x) W1 fun e W' => e = .returned (.bool true) ∧ J (pre ++ [x]) W' ∧ Below (b0 + 1) W1 W') →
    J [] W →
    CallsIn F n P g (#[.func (.yield l) #[] #[]] ++ lb) W fun e W' => (∃ v, e = .returned v) ∧ J xs W'

/-- How a round's body may be left. -/
def onBy {α : Type} (B b0 : Nat) (I : List α → World → Prop) (xs : List α) (W : World) : Exit → Act → World → Prop
  | .normal, _, W' => KeepsFrom B W W' ∧ I xs W' ∧ Below (b0 + 1) W W'
  | .ret, _, _ => False
  | .exit _, _, _ => False
  | .goto _, _, _ => False
  | .panic _, _, _ => False
  | .outgrown, _, _ => False

theorem wpIn_range_all {α : Type} {g : Operand} {ps : Array Tmp} {assign body : Code} {Q : Exit → Act → World → Prop} {a : Act} {w : World}
    (hro : F.round = none) (h1 : 1 ≤ n) {gf : Nat} {lb : Array Value} (hg : a.eval g = .func (.func gf) #[] lb) (hFg : F.fn gf) (eg : ∀ args w, (callFunc gf args).run P w = .ok (.enter gf args) w)
    {encs : α → Array Value} {xs : List α} {b0 : Nat} {w0 : World} (hseq : SeqAll F (n - 1) P gf lb encs xs b0 w0)
    (hb0 : Below w0.heap.size w0 w) (hlt0 : b0 < w0.heap.size) (hps : ∀ x, (encs x).size = ps.size)
    (I : List α → World → Prop) (hI : ∀ s A B row, I s A → A.grownBy B row → (∀ r, row = some r → r = b0 ∨ (w.heap.size ≤ r ∧ ∃ o : Obj, A.heap[r]? = some o ∧ o.isCells = false)) → I s B) (hIb : ∀ pre W, I pre W → Below b0 w0 W) (h0 : I [] w) (a₁ : α → Act)
    (hassign : ∀ (l : Nat) (x : α) (W : World) (K : Act → World → Prop), K (a₁ x) W →
      assign.wpIn (F.inRound l) (n - 1 - 1) P (Exit.then K (fun _ _ _ => False)) { tmps := (ps.zip (encs x)).foldl (fun t (p, v) => t.setIfInBounds p v) a.tmps, defers := [] } W)
    (hbody : ∀ (l : Nat) (pre : List α) (x : α) (W : World), I pre W → (pre ++ [x]) <+: xs → body.wpIn (F.inRound l) (n - 1 - 1) P (onBy w.heap.size b0 I (pre ++ [x]) W) (a₁ x) W)
    (hdone : ∀ (D : Nat) (W : World), w.heap.size ≤ D → I xs W → W.heap[D]? = some (.deferred (some [])) → Q .normal { a with defers := { target := .collected D, args := #[] } :: a.defers } W) :
    (Code.rangeFunc g ps assign body).wpIn F n P Q a w := by
  refine wpIn_rangeFunc fun fn hfn => ?_
  rw [hro]
  have hw0 : w0.heap.size ≤ w.heap.size := hb0.size
  obtain ⟨s, hs⟩ : ∃ s, s = w.heap.size := ⟨_, rfl⟩
  obtain ⟨rec, hrec⟩ : ∃ rec : LoopState → Option Code → Loop, rec = fun st pe => { state := st, pending := pe, fn, tmps := a.tmps, params := ps, assign, body, defers := s } := ⟨_, rfl⟩
  obtain ⟨W1, hW1⟩ : ∃ W1, (w.alloc (.deferred (some []))).alloc (.loop (rec .ready none)) = W1 := ⟨_, rfl⟩
  have hL1 : W1.heap[s + 1]? = some (.loop (rec .ready none)) := by
    rw [← hW1, hs]; have := World.alloc_heap_new (w.alloc (.deferred (some []))) (.loop (rec .ready none)); rwa [World.size_alloc] at this
  have hK1 : W1.heap[s]? = some (.deferred (some [])) := by
    rw [← hW1, hs]; exact (Below.heap_alloc _ _ _ (by simp)).trans (World.alloc_heap_new w _)
  have hb1 : Below w.heap.size w W1 := by
    rw [← hW1]; exact ((Below.refl _ w).alloc (Nat.le_refl _) _).alloc (by simp) _
  rw [← hs] at hI hbody hdone
  have hIa : ∀ {pre : List α} {A : World} (o : Obj), I pre A → I pre (A.alloc o) := fun o h => hI _ _ _ none h (World.grownBy_alloc _ o none) (fun r e => by cases e)
  have hIp : ∀ {pre : List α} {A : World} {l : Nat} {o : Obj} (o' : Obj), I pre A → s ≤ l → A.heap[l]? = some o → o.isCells = false → I pre (A.putObj l o') := fun {pre A l o} o' h hl ho hc =>
    hI _ _ _ (some l) h (grownBy_putObj' A l o') (fun r e => by cases e; exact .inr ⟨hl, o, ho, hc⟩)
  have hI1 : I [] W1 := by rw [← hW1]; exact hIa _ (hIa _ h0)
  refine ⟨s + 1, [{ target := .collected s, args := #[] }], W1, { target := .fn (.func gf) lb, args := #[.func (.yield (s + 1)) #[] #[]] }, W1, gf,
    #[.func (.yield (s + 1)) #[] #[]] ++ lb, W1, ?_, ?_, ?_, ?_, fun _ => h1, ?_⟩
  · rw [← hW1, hrec, hs]; exact run_enterLoop_outer _ _ _ _ _
  · simp only [resolve, hg]; simp [go_sem]
  · intro f' hf'; simp [Target.leads] at hf'; subst hf'; exact hFg
  · simp [invoke, go_sem, eg]
  refine (hseq (s + 1)
    (fun pre W => I pre W ∧ W.heap[s + 1]? = some (.loop (rec .ready none)) ∧ W.heap[s]? = some (.deferred (some [])))
    W1 (hb0.trans (hb1.mono hb0.size))
    (fun t A B row h hg' hr => by
      have h1' := (Array.getElem?_eq_some_iff.1 h.2.1).1
      have ne1 : some (s + 1) ≠ row := fun e => by have := hr _ e.symm; omega
      have ne2 : some s ≠ row := fun e => by have := hr _ e.symm; omega
      exact ⟨hI t A B row h.1 hg' (fun r e => .inl (hr r e)), (hg'.block _ h1' ne1).trans h.2.1, (hg'.block _ (by omega) ne2).trans h.2.2⟩)
    (fun pre W h => hIb pre W h.1) ?_ ⟨hI1, hL1, hK1⟩).mono ?_
  · rintro pre x W ⟨hi, hl, hk⟩ hx
    have hlt : s + 1 < W.heap.size := (Array.getElem?_eq_some_iff.1 hl).1
    have hy := run_yield (P := P) (args := encs x) hl (by rw [hrec]; exact hps x)
    rw [hrec] at hy
    refine ⟨fn, _, assign, body, hy, roundIn_of_wpIn hfn (hassign _ x W _ ⟨_, run_beginRound hl (by rw [hrec]), ?_⟩)⟩
    obtain ⟨Wb, hWb⟩ : ∃ Wb, W.putObj (s + 1) (.loop { rec .ready none with state := .busy }) = Wb := ⟨_, rfl⟩
    rw [hWb]
    have hl2 : Wb.heap[s + 1]? = some (.loop { rec .ready none with state := .busy }) := by rw [← hWb]; exact World.putObj_heap_same hlt
    have hk2 : Wb.heap[s]? = some (.deferred (some [])) := by rw [← hWb]; exact (World.putObj_heap_other (by omega)).trans hk
    have hi2 : I pre Wb := by rw [← hWb]; exact hIp _ hi (by omega) hl rfl
    have hbb : Below (b0 + 1) W Wb := by rw [← hWb]; exact (Below.refl _ W).grown (grownBy_putObj' W (s + 1) _) (by omega) (fun k e => by cases e; omega)
    refine wpIn_mono (hbody _ pre x Wb hi2 hx) ?_
    rintro e a3 W3 hp
    cases e with
    | normal =>
      obtain ⟨hk3, hi3, hb3⟩ := hp
      have hl3 := hk3.same _ _ (by omega) hl2 rfl
      have hlt3 : s + 1 < W3.heap.size := (Array.getElem?_eq_some_iff.1 hl3).1
      have hr := run_endRound (P := P) none hl3
      rw [hrec] at hr
      refine ⟨_, _, hr, rfl, ⟨hIp _ hi3 (by omega) hl3 rfl, ?_, ?_⟩, ?_⟩
      · rw [hrec]; exact World.putObj_heap_same hlt3
      · exact (World.putObj_heap_other (by omega)).trans (hk3.same _ _ (Nat.le_refl _) hk2 rfl)
      · exact (hbb.trans hb3).grown (grownBy_putObj' W3 (s + 1) _) (by omega) (fun k e => by cases e; omega)
    | ret => exact hp.elim
    | exit id => exact hp.elim
    | goto t => exact hp.elim
    | panic ch => exact hp.elim
    | outgrown => exact hp.elim
  · rintro e W2 ⟨⟨v, rfl⟩, hi, hl, hk⟩
    exact ⟨none, _, by have := run_endLoop (P := P) hl (by rw [hrec]; simp); rw [hrec] at this; exact this, hdone _ _ (Nat.le_refl _) (hIp _ hi (by omega) hl rfl) ((World.putObj_heap_other (by omega)).trans hk)⟩

end Go.Proofs.YtkbimiimgcklaaaDoor.RangeC
