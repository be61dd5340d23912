/- Merged by a program of this session (wip/gprint/merge.py): what this claim needs of this session's texts, each part as it was. -/
import Derived.Test.YtkbimiimgcklaaaDoorAllBitsMix3

-- of YtkbimiimgcklaaaDoorBitMath
/- Bits of words of 64 bits, as Go's operators tell them; how many bits a word has, by Go's text of OnesCount64. No program in sight. -/
namespace Go.Proofs.YtkbimiimgcklaaaDoor.BitMath
open Go
theorem U_shr {x : Int} (hx : U x) (n : Nat) : U (x / 2 ^ n) := by
  obtain ⟨a, rfl, ha⟩ := U_nat hx
  have : ((a : Int) / 2 ^ n) = ((a / 2 ^ n : Nat) : Int) := by simp
  rw [this]
  exact U_cast (Nat.lt_of_le_of_lt (Nat.div_le_self _ _) ha)
theorem tb_mask (i : Nat) : tb 35184372088831 i = decide (i < 45) := by
  have := Nat.testBit_two_pow_sub_one 45 i
  rw [← this]; rfl
theorem U_mask : U 35184372088831 := ⟨by decide, by decide⟩
theorem tb_zero (i : Nat) : tb 0 i = false := by simp [tb]
theorem tb_mod2 (x : Int) (hx : 0 ≤ x) (i : Nat) : ((x / 2 ^ i) % 2 = 1) = (tb x i = true) := by
  obtain ⟨a, rfl⟩ : ∃ a : Nat, x = a := ⟨x.toNat, by omega⟩
  rw [tb_cast, Nat.testBit_eq_decide_div_mod_eq]
  have : ((a : Int) / 2 ^ i) = ((a / 2 ^ i : Nat) : Int) := by simp
  rw [this, decide_eq_true_iff]
  refine propext ?_
  omega
def g1 (b : Nat) : Nat := (b >>> 1 &&& 0x55) + (b >>> 0 &&& 0x55)
end Go.Proofs.YtkbimiimgcklaaaDoor.BitMath

-- of YtkbimiimgcklaaaDoorSetMath
/- What the program's sets of squares hold: each operation's answer, square by square. -/
namespace Go.Proofs.YtkbimiimgcklaaaDoor.SetMath
open Go.RowKit Go.Proofs.YtkbimiimgcklaaaDoor.Print Go.Proofs.YtkbimiimgcklaaaDoor.BitMath Go.Proofs.YtkbimiimgcklaaaDoorW.PrintWords Go.Proofs.YtkbimiimgcklaaaDoorW.PrintLast Go.Proofs.YtkbimiimgcklaaaDoorW.PrintMore
/-- A set without bits of no moment. -/
structure Can (lo hi : Int) : Prop where
  l0 : 0 ≤ lo
  l1 : lo < 35184372088832
  h0 : 0 ≤ hi
  h1 : hi < 35184372088832
theorem Can.lo {lo hi : Int} (h : Can lo hi) : U lo := ⟨h.l0, by have := h.l1; omega⟩
theorem Can.hi {lo hi : Int} (h : Can lo hi) : U hi := ⟨h.h0, by have := h.h1; omega⟩
/-- Has a set square n? -/
def mem (lo hi : Int) (n : Nat) : Bool := if n < 45 then tb lo n else tb hi (n - 45)
/-- The squares of a set, rising. -/
def setL (lo hi : Int) : List Int := ((List.range 90).filter (mem lo hi)).map fun (n : Nat) => (n : Int)
theorem pow45 : (2 : Nat) ^ 45 = 35184372088832 := by decide
theorem tb_small {x : Int} (h0 : 0 ≤ x) (h1 : x < 35184372088832) (i : Nat) (hi : 45 ≤ i) : tb x i = false := by
  unfold tb
  refine Nat.testBit_lt_two_pow (Nat.lt_of_lt_of_le ?_ (Nat.pow_le_pow_right (by decide) hi))
  rw [pow45]; omega
theorem Can.ext {a b c d : Int} (h : Can a b) (g : Can c d) (e : ∀ n, n < 90 → mem a b n = mem c d n) : a = c ∧ b = d := by
  constructor
  · refine tb_ext h.l0 g.l0 fun i => ?_
    by_cases hi : i < 45
    · have := e i (by omega); simpa [mem, hi] using this
    · rw [tb_small h.l0 h.l1 i (by omega), tb_small g.l0 g.l1 i (by omega)]
  · refine tb_ext h.h0 g.h0 fun i => ?_
    by_cases hi : i < 45
    · have := e (i + 45) (by omega)
      unfold mem at this
      rw [if_neg (by omega), if_neg (by omega), show i + 45 - 45 = i by omega] at this
      exact this
    · rw [tb_small h.h0 h.h1 i (by omega), tb_small g.h0 g.h1 i (by omega)]

/-- A word's bits of moment. -/
def pl (x : Int) : Int := Go.bits .and .u64 x 35184372088831
theorem tb_pl {x : Int} (h : U x) (i : Nat) : tb (pl x) i = (decide (i < 45) && tb x i) := by
  unfold pl; rw [tb_and h U_mask, tb_mask, Bool.and_comm]
theorem pl_nn {x : Int} : 0 ≤ pl x := (U_bits _ _ _).1
theorem pl_lt {x : Int} (h : U x) : pl x < 35184372088832 := by
  have h1 := Nat.lt_pow_two_of_testBit (n := 45) (pl x).toNat (fun i hi => by
    have := tb_pl h i
    unfold tb at this
    rw [this, decide_eq_false (by omega : ¬ i < 45)]; rfl)
  rw [pow45] at h1
  have := pl_nn (x := x)
  omega
theorem pl_can {x y : Int} (h : U x) (g : U y) : Can (pl x) (pl y) := ⟨pl_nn, pl_lt h, pl_nn, pl_lt g⟩
theorem pl_mem {x y : Int} (h : U x) (g : U y) (n : Nat) (hn : n < 90) : mem (pl x) (pl y) n = mem x y n := by
  unfold mem
  by_cases c : n < 45
  · rw [if_pos c, if_pos c, tb_pl h]; simp [c]
  · rw [if_neg c, if_neg c, tb_pl g]; simp [show n - 45 < 45 by omega]
theorem pl_same {x y : Int} (h : Can x y) : pl x = x ∧ pl y = y := (pl_can h.lo h.hi).ext h (fun n hn => pl_mem h.lo h.hi n hn)
theorem plain_f (x y : Int) : bits_Set_plain.f x y = some (pl x, pl y) := rfl

/-- What an operation on sets answers: r, each square by p. -/
structure Tells (r : Int × Int) (p : Nat → Bool) : Prop where
  can : Can r.1 r.2
  mem : ∀ n, n < 90 → mem r.1 r.2 n = p n
theorem Tells.eq {r s : Int × Int} {p q : Nat → Bool} (h : Tells r p) (g : Tells s q) (e : ∀ n, n < 90 → p n = q n) : r = s := by
  obtain ⟨a, b⟩ := h.can.ext g.can (fun n hn => by rw [h.mem n hn, g.mem n hn, e n hn])
  exact Prod.ext a b
theorem Tells.of {r : Int × Int} (h : Can r.1 r.2) : Tells r (SetMath.mem r.1 r.2) := ⟨h, fun _ _ => rfl⟩
theorem tells_pl {x y : Int} (h : U x) (g : U y) (p : Nat → Bool) (hp : ∀ n, n < 90 → SetMath.mem x y n = p n) : Tells (pl x, pl y) p := ⟨pl_can h g, fun n hn => (pl_mem h g n hn).trans (hp n hn)⟩

theorem Or_f {a b c d : Int} (ha : U a) (hb : U b) (hc : U c) (hd : U d) : ∃ r, bits_Set_Or.f a b c d = some r ∧ Tells r (fun n => SetMath.mem a b n || SetMath.mem c d n) := by
  refine ⟨_, rfl, tells_pl (U_bits _ _ _) (U_bits _ _ _) _ fun n hn => ?_⟩
  unfold SetMath.mem
  by_cases h : n < 45
  · simp only [if_pos h]; exact tb_or ha hc n
  · simp only [if_neg h]; exact tb_or hb hd _
theorem And_f {a b c d : Int} (ha : U a) (hb : U b) (hc : U c) (hd : U d) : ∃ r, bits_Set_And.f a b c d = some r ∧ Tells r (fun n => SetMath.mem a b n && SetMath.mem c d n) := by
  refine ⟨_, rfl, tells_pl (U_bits _ _ _) (U_bits _ _ _) _ fun n hn => ?_⟩
  unfold SetMath.mem
  by_cases h : n < 45
  · simp only [if_pos h]; exact tb_and ha hc n
  · simp only [if_neg h]; exact tb_and hb hd _
theorem Minus_f {a b c d : Int} (ha : U a) (hb : U b) (hc : U c) (hd : U d) : ∃ r, bits_Set_Minus.f a b c d = some r ∧ Tells r (fun n => SetMath.mem a b n && !SetMath.mem c d n) := by
  refine ⟨_, rfl, tells_pl (U_bits _ _ _) (U_bits _ _ _) _ fun n hn => ?_⟩
  unfold SetMath.mem
  by_cases h : n < 45
  · simp only [if_pos h]; exact tb_andNot ha hc n
  · simp only [if_neg h]; exact tb_andNot hb hd _
theorem U_all : U 18446744073709551615 := ⟨by decide, by decide⟩
theorem tb_all (i : Nat) (hi : i < 64) : tb 18446744073709551615 i = true := by
  have := Nat.testBit_two_pow_sub_one 64 i
  have e : tb 18446744073709551615 i = (2 ^ 64 - 1).testBit i := rfl
  rw [e, this]; simpa using hi
theorem Not_f {a b : Int} (ha : U a) (hb : U b) : ∃ r, bits_Set_Not.f a b = some r ∧ Tells r (fun n => !SetMath.mem a b n) := by
  refine ⟨_, rfl, tells_pl (U_bits _ _ _) (U_bits _ _ _) _ fun n hn => ?_⟩
  unfold SetMath.mem
  by_cases h : n < 45
  · simp only [if_pos h]; rw [tb_xor U_all ha, tb_all n (by omega)]; simp
  · simp only [if_neg h]; rw [tb_xor U_all hb, tb_all _ (by omega)]; simp

theorem pow_lt (n : Nat) (hn : n < 45) : ((2 ^ n : Nat) : Int) < 35184372088832 := by
  have h : (2 : Nat) ^ n < 2 ^ 45 := Nat.pow_lt_pow_right (by decide) hn
  rw [pow45] at h
  obtain ⟨x, hx⟩ : ∃ x, x = 2 ^ n := ⟨_, rfl⟩
  rw [← hx] at h ⊢
  omega
theorem pow_nn (n : Nat) : (0 : Int) ≤ ((2 ^ n : Nat) : Int) := Int.natCast_nonneg _
theorem shl_one (n : Nat) (hn : n < 45) : shl .u64 1 (n : Int) = ((2 ^ n : Nat) : Int) := by
  unfold shl
  rw [show min (n : Int).toNat IntKind.u64.bits = n by simp [IntKind.bits]; omega, u64_wrap, Int.one_mul]
  have e : ((2 : Int) ^ n) = ((2 ^ n : Nat) : Int) := by simp
  have h0 := pow_nn n
  have h1 := pow_lt n hn
  rw [e]
  obtain ⟨x, hx⟩ : ∃ x : Int, x = ((2 ^ n : Nat) : Int) := ⟨_, rfl⟩
  rw [← hx] at h0 h1 ⊢
  omega
theorem one_f (k : Nat) (n : Int) : ∃ r, bits_one.f (k + 1) n = some r ∧ Tells r (fun i => decide ((i : Int) = n)) := by
  unfold bits_one.f
  have z : ∀ p : Nat → Bool, (∀ i, i < 90 → p i = false) → Tells ((0 : Int), (0 : Int)) p := fun p hp => ⟨⟨by decide, by decide, by decide, by decide⟩, fun i hi => by rw [hp i hi]; unfold SetMath.mem; split <;> exact tb_zero _⟩
  by_cases h0 : n < 0
  · rw [if_pos h0]
    refine ⟨(0, 0), by simp [bits_one.j0], z _ fun i hi => by simp; omega⟩
  · rw [if_neg h0]
    by_cases h1 : n ≥ 90
    · refine ⟨(0, 0), by simp [bits_one.j0, h1], z _ fun i hi => by simp; omega⟩
    · obtain ⟨m, rfl⟩ : ∃ m : Nat, n = m := ⟨n.toNat, by omega⟩
      have hm : m < 90 := by omega
      by_cases h2 : m < 45
      · refine ⟨(((2 ^ m : Nat) : Int), 0), ?_, ⟨⟨pow_nn m, pow_lt m h2, Int.le_refl 0, (by decide : (0 : Int) < 35184372088832)⟩, fun i hi => ?_⟩⟩
        · simp only [bits_one.j0, decide_eq_false h1]
          rw [if_neg (by decide), if_pos (by omega), if_pos (by omega), shl_one m h2]
        · unfold SetMath.mem
          by_cases c : i < 45
          · rw [if_pos c, tb_cast, Nat.testBit_two_pow]; exact decide_eq_decide.2 (by omega)
          · rw [if_neg c, tb_zero]; exact (decide_eq_false (by omega)).symm
      · have e : wrap64 ((m : Int) - 45) = ((m - 45 : Nat) : Int) := by unfold wrap64; omega
        refine ⟨(0, ((2 ^ (m - 45) : Nat) : Int)), ?_, ⟨⟨Int.le_refl 0, (by decide : (0 : Int) < 35184372088832), pow_nn _, pow_lt (m - 45) (by omega)⟩, fun i hi => ?_⟩⟩
        · simp only [bits_one.j0, decide_eq_false h1]
          rw [if_neg (by decide), if_neg (by omega), e, if_pos (by omega), shl_one (m - 45) (by omega)]
        · unfold SetMath.mem
          by_cases c : i < 45
          · rw [if_pos c, tb_zero]; exact (decide_eq_false (by omega)).symm
          · rw [if_neg c, tb_cast, Nat.testBit_two_pow]; exact decide_eq_decide.2 (by omega)
theorem Without_f (k : Nat) {a b : Int} (ha : U a) (hb : U b) (n : Int) : ∃ r, bits_Set_Without.f (k + 1) a b n = some r ∧ Tells r (fun i => SetMath.mem a b i && !decide ((i : Int) = n)) := by
  obtain ⟨o, ho, ht⟩ := one_f k n
  obtain ⟨r, hr, tr⟩ := Minus_f ha hb ht.can.lo ht.can.hi
  refine ⟨r, by unfold bits_Set_Without.f; rw [ho]; simp only [Option.bind_some]; rw [hr]; rfl, tr.can, fun i hi => ?_⟩
  rw [tr.mem i hi, ht.mem i hi]

/-! The lowest square. -/
theorem ctzFrom_low : ∀ (f x : Nat), 0 < x → x < 2 ^ f → x.testBit (Lib.ctzFrom f x) = true ∧ (∀ j, j < Lib.ctzFrom f x → x.testBit j = false) ∧ Lib.ctzFrom f x < f := by
  intro f x h0 h1
  obtain ⟨m, hm, hlt⟩ := Lib.ctzFrom_spec f x h0 h1
  obtain ⟨c, hc⟩ : ∃ c, c = Lib.ctzFrom f x := ⟨_, rfl⟩
  rw [← hc] at hm hlt ⊢
  refine ⟨?_, fun j hj => ?_, hlt⟩
  · rw [hm, Nat.testBit_two_pow_mul]; simp
  · rw [hm, Nat.testBit_two_pow_mul]; simp; omega
theorem ctz_low (x : Int) (h : U x) (hx : x ≠ 0) : ∃ c : Nat, bits_TrailingZeros64.f x = some (c : Int) ∧ tb x c = true ∧ (∀ j, j < c → tb x j = false) ∧ c < 64 := by
  obtain ⟨n, rfl, hn⟩ := U_nat h
  have hn0 : n ≠ 0 := by omega
  obtain ⟨a, b, c⟩ := ctzFrom_low 64 n (by omega) (by omega)
  refine ⟨Lib.ctzFrom 64 n, ?_, ?_, fun j hj => ?_, c⟩
  · unfold bits_TrailingZeros64.f; rw [if_pos ⟨by omega, by omega⟩]
    simp [Lib.ctz, hn0]
  · rw [tb_cast]; exact a
  · rw [tb_cast]; exact b j hj
/-- First: the lowest square, -1 where there is none. -/
theorem First_f {a b : Int} (ha : U a) (hb : U b) : (bits_Set_First.f a b = some (-1) ∧ (∀ n, n < 90 → mem a b n = false) ∧ pl a = 0 ∧ pl b = 0) ∨
    (∃ n : Nat, bits_Set_First.f a b = some (n : Int) ∧ n < 90 ∧ mem a b n = true ∧ (∀ j, j < n → mem a b j = false) ∧ (pl a ≠ 0 ∨ pl b ≠ 0)) := by
  have hm := fun n hn => pl_mem ha hb n hn
  have hc := pl_can ha hb
  unfold bits_Set_First.f
  rw [plain_f]
  simp only [Option.bind_some]
  by_cases h1 : pl a = 0
  · rw [if_pos h1]
    by_cases h2 : pl b = 0
    · rw [if_pos h2]
      refine .inl ⟨rfl, fun n hn => ?_, h1, h2⟩
      rw [← hm n hn, h1, h2]; unfold mem; split <;> exact tb_zero _
    · rw [if_neg h2]
      obtain ⟨c, e, t1, t2, t3⟩ := ctz_low (pl b) hc.hi h2
      have c45 : c < 45 := by
        rcases Nat.lt_or_ge c 45 with h | h
        · exact h
        · rw [tb_small hc.h0 hc.h1 c h] at t1; cases t1
      refine .inr ⟨45 + c, ?_, by omega, ?_, fun j hj => ?_, .inr h2⟩
      · rw [e]; simp only [Option.bind_some]; exact congrArg some (show wrap64 (45 + (c : Int)) = ((45 + c : Nat) : Int) by unfold wrap64; omega)
      · rw [← hm _ (by omega)]; unfold mem; rw [if_neg (by omega), show 45 + c - 45 = c by omega]; exact t1
      · rw [← hm _ (by omega)]; unfold mem
        by_cases c2 : j < 45
        · rw [if_pos c2, h1]; exact tb_zero _
        · rw [if_neg c2]; exact t2 _ (by omega)
  · rw [if_neg h1]
    obtain ⟨c, e, t1, t2, t3⟩ := ctz_low (pl a) hc.lo h1
    have c45 : c < 45 := by
      rcases Nat.lt_or_ge c 45 with h | h
      · exact h
      · rw [tb_small hc.l0 hc.l1 c h] at t1; cases t1
    refine .inr ⟨c, by rw [e]; rfl, by omega, ?_, fun j hj => ?_, .inl h1⟩
    · rw [← hm _ (by omega)]; unfold mem; rw [if_pos c45]; exact t1
    · rw [← hm _ (by omega)]; unfold mem; rw [if_pos (by omega)]; exact t2 j hj

/-! The list of squares. -/
theorem filter_cons (p q : Nat → Bool) (n : Nat) (hn : p n = true) (hlow : ∀ j, j < n → p j = false) (hq : ∀ i, q i = (p i && !decide (i = n))) : ∀ N, n < N → (List.range N).filter p = n :: (List.range N).filter q := by
  intro N
  induction N with
  | zero => intro h; omega
  | succ N ih =>
    intro h
    rw [List.range_succ, List.filter_append, List.filter_append]
    rcases Nat.lt_or_ge n N with c | c
    · rw [ih c]
      have : q N = p N := by rw [hq]; simp; intro _; omega
      simp [List.filter_cons, this]
    · obtain rfl : n = N := by omega
      have e1 : (List.range n).filter p = [] := by
        rw [List.filter_eq_nil_iff]; intro a ha; rw [hlow a (List.mem_range.1 ha)]; decide
      have e2 : (List.range n).filter q = [] := by
        rw [List.filter_eq_nil_iff]; intro a ha; rw [hq, hlow a (List.mem_range.1 ha)]; simp
      have e3 : q n = false := by rw [hq]; simp
      rw [e1, e2]; simp [hn, e3]
theorem setL_congr {a b c d : Int} (h : ∀ n, n < 90 → mem a b n = mem c d n) : setL a b = setL c d := by
  unfold setL
  rw [List.filter_congr (fun n hn => h n (List.mem_range.1 hn))]
theorem setL_pl {a b : Int} (ha : U a) (hb : U b) : setL (pl a) (pl b) = setL a b := setL_congr (fun n hn => pl_mem ha hb n hn)
/-- The list, one square at a time: the lowest one, then those of the rest. -/
theorem setL_step {a b : Int} (h : Can a b) : (bits_Set_First.f a b = some (-1) ∧ setL a b = [] ∧ a = 0 ∧ b = 0) ∨
    (∃ (n : Nat) (r : Int × Int), bits_Set_First.f a b = some (n : Int) ∧ (∀ k, bits_Set_Without.f (k + 1) a b n = some r) ∧ Can r.1 r.2 ∧ setL a b = (n : Int) :: setL r.1 r.2 ∧ (a ≠ 0 ∨ b ≠ 0) ∧ n < 90) := by
  obtain ⟨ea, eb⟩ := pl_same h
  rcases First_f h.lo h.hi with ⟨h1, h2, h3, h4⟩ | ⟨n, h1, h2, h3, h4, h5⟩
  · refine .inl ⟨h1, ?_, by rw [← ea]; exact h3, by rw [← eb]; exact h4⟩
    unfold setL
    rw [List.map_eq_nil_iff, List.filter_eq_nil_iff]
    intro x hx; rw [h2 x (List.mem_range.1 hx)]; decide
  · obtain ⟨r, hr, tr⟩ := Without_f 0 h.lo h.hi n
    refine .inr ⟨n, r, h1, fun k => ?_, tr.can, ?_, by rw [ea, eb] at h5; exact h5, h2⟩
    · obtain ⟨r', hr', tr'⟩ := Without_f k h.lo h.hi n
      rw [hr', tr'.eq tr (fun _ _ => rfl)]
    · unfold setL
      have e := filter_cons (mem a b) (fun i => mem a b i && !decide (i = n)) n h3 h4 (fun _ => rfl) 90 h2
      rw [e, List.map_cons]
      congr 2
      refine List.filter_congr fun i hi => ?_
      rw [tr.mem i (List.mem_range.1 hi)]
      congr 2
      by_cases c : i = n
      · simp [c]
      · have : ¬ (i : Int) = (n : Int) := by omega
        simp [c, this]
end Go.Proofs.YtkbimiimgcklaaaDoor.SetMath

-- of YtkbimiimgcklaaaDoorRangeC
/- A range over an iterator that keeps state in one block of cells of its own (a captured variable) and gives just the elements of a list; the body never leaves. Turned from the kit's law on ranges over functions (Derived/RangeFuncNested). -/
namespace Go.Proofs.YtkbimiimgcklaaaDoor.RangeC
open Go Go.RowKit

variable {F : Fence} {n : Nat} {P : Program}

/-- What abides a turn of block b0 and new blocks. -/
def AbidesBlk {β : Type} (b0 : Nat) (J : β → World → Prop) : Prop := ∀ s A B row, J s A → A.grownBy B row → (∀ r, row = some r → r = b0) → J s B
/-- The contract of an iterator that keeps its state in block b0: it gives just xs to a body that always goes on and leaves b0 and all below as it lies. -/
def SeqAll {α : Type} (F : Fence) (n : Nat) (P : Program) (g : Nat) (lb : Array Value) (encs : α → Array Value) (xs : List α) (b0 : Nat) (w : World) : Prop :=
  ∀ (l : Nat) (J : List α → World → Prop) (W : World), Below w.heap.size w W → AbidesBlk b0 J → (∀ pre W1, J pre W1 → Below b0 w W1) →
    (∀ pre x W1, J pre W1 → (pre ++ [x]) <+: xs → YieldAt F (n - 1) P l (encs x) W1 fun e W' => e = .returned (.bool true) ∧ J (pre ++ [x]) W' ∧ Below (b0 + 1) W1 W') →
    J [] W →
    CallsIn F n P g (#[.func (.yield l) #[] #[]] ++ lb) W fun e W' => (∃ v, e = .returned v) ∧ J xs W'

/-- How a round's body may be left. -/
def onBy {α : Type} (B b0 : Nat) (I : List α → World → Prop) (xs : List α) (W : World) : Exit → Act → World → Prop
  | .normal, _, W' => KeepsFrom B W W' ∧ I xs W' ∧ Below (b0 + 1) W W'
  | .ret, _, _ => False
  | .exit _, _, _ => False
  | .goto _, _, _ => False
  | .panic _, _, _ => False
  | .outgrown, _, _ => False

theorem wpIn_range_all {α : Type} {g : Operand} {ps : Array Tmp} {assign body : Code} {Q : Exit → Act → World → Prop} {a : Act} {w : World}
    (hro : F.round = none) (h1 : 1 ≤ n) {gf : Nat} {lb : Array Value} (hg : a.eval g = .func (.func gf) #[] lb) (hFg : F.fn gf) (eg : ∀ args w, (callFunc gf args).run P w = .ok (.enter gf args) w)
    {encs : α → Array Value} {xs : List α} {b0 : Nat} {w0 : World} (hseq : SeqAll F (n - 1) P gf lb encs xs b0 w0)
    (hb0 : Below w0.heap.size w0 w) (hlt0 : b0 < w0.heap.size) (hps : ∀ x, (encs x).size = ps.size)
    (I : List α → World → Prop) (hI : ∀ s A B row, I s A → A.grownBy B row → (∀ r, row = some r → r = b0 ∨ (w.heap.size ≤ r ∧ ∃ o : Obj, A.heap[r]? = some o ∧ o.isCells = false)) → I s B) (hIb : ∀ pre W, I pre W → Below b0 w0 W) (h0 : I [] w) (a₁ : α → Act)
    (hassign : ∀ (l : Nat) (x : α) (W : World) (K : Act → World → Prop), K (a₁ x) W →
      assign.wpIn (F.inRound l) (n - 1 - 1) P (Exit.then K (fun _ _ _ => False)) { tmps := (ps.zip (encs x)).foldl (fun t (p, v) => t.setIfInBounds p v) a.tmps, defers := [] } W)
    (hbody : ∀ (l : Nat) (pre : List α) (x : α) (W : World), I pre W → (pre ++ [x]) <+: xs → body.wpIn (F.inRound l) (n - 1 - 1) P (onBy w.heap.size b0 I (pre ++ [x]) W) (a₁ x) W)
    (hdone : ∀ (D : Nat) (W : World), w.heap.size ≤ D → I xs W → W.heap[D]? = some (.deferred (some [])) → Q .normal { a with defers := { target := .collected D, args := #[] } :: a.defers } W) :
    (Code.rangeFunc g ps assign body).wpIn F n P Q a w := by
  refine wpIn_rangeFunc fun fn hfn => ?_
  rw [hro]
  have hw0 : w0.heap.size ≤ w.heap.size := hb0.size
  obtain ⟨s, hs⟩ : ∃ s, s = w.heap.size := ⟨_, rfl⟩
  obtain ⟨rec, hrec⟩ : ∃ rec : LoopState → Option Code → Loop, rec = fun st pe => { state := st, pending := pe, fn, tmps := a.tmps, params := ps, assign, body, defers := s } := ⟨_, rfl⟩
  obtain ⟨W1, hW1⟩ : ∃ W1, (w.alloc (.deferred (some []))).alloc (.loop (rec .ready none)) = W1 := ⟨_, rfl⟩
  have hL1 : W1.heap[s + 1]? = some (.loop (rec .ready none)) := by
    rw [← hW1, hs]; have := World.alloc_heap_new (w.alloc (.deferred (some []))) (.loop (rec .ready none)); rwa [World.size_alloc] at this
  have hK1 : W1.heap[s]? = some (.deferred (some [])) := by
    rw [← hW1, hs]; exact (Below.heap_alloc _ _ _ (by simp)).trans (World.alloc_heap_new w _)
  have hb1 : Below w.heap.size w W1 := by
    rw [← hW1]; exact ((Below.refl _ w).alloc (Nat.le_refl _) _).alloc (by simp) _
  rw [← hs] at hI hbody hdone
  have hIa : ∀ {pre : List α} {A : World} (o : Obj), I pre A → I pre (A.alloc o) := fun o h => hI _ _ _ none h (World.grownBy_alloc _ o none) (fun r e => by cases e)
  have hIp : ∀ {pre : List α} {A : World} {l : Nat} {o : Obj} (o' : Obj), I pre A → s ≤ l → A.heap[l]? = some o → o.isCells = false → I pre (A.putObj l o') := fun {pre A l o} o' h hl ho hc =>
    hI _ _ _ (some l) h (grownBy_putObj' A l o') (fun r e => by cases e; exact .inr ⟨hl, o, ho, hc⟩)
  have hI1 : I [] W1 := by rw [← hW1]; exact hIa _ (hIa _ h0)
  refine ⟨s + 1, [{ target := .collected s, args := #[] }], W1, { target := .fn (.func gf) lb, args := #[.func (.yield (s + 1)) #[] #[]] }, W1, gf,
    #[.func (.yield (s + 1)) #[] #[]] ++ lb, W1, ?_, ?_, ?_, ?_, fun _ => h1, ?_⟩
  · rw [← hW1, hrec, hs]; exact run_enterLoop_outer _ _ _ _ _
  · simp only [resolve, hg]; simp [go_sem]
  · intro f' hf'; simp [Target.leads] at hf'; subst hf'; exact hFg
  · simp [invoke, go_sem, eg]
  refine (hseq (s + 1)
    (fun pre W => I pre W ∧ W.heap[s + 1]? = some (.loop (rec .ready none)) ∧ W.heap[s]? = some (.deferred (some [])))
    W1 (hb0.trans (hb1.mono hb0.size))
    (fun t A B row h hg' hr => by
      have h1' := (Array.getElem?_eq_some_iff.1 h.2.1).1
      have ne1 : some (s + 1) ≠ row := fun e => by have := hr _ e.symm; omega
      have ne2 : some s ≠ row := fun e => by have := hr _ e.symm; omega
      exact ⟨hI t A B row h.1 hg' (fun r e => .inl (hr r e)), (hg'.block _ h1' ne1).trans h.2.1, (hg'.block _ (by omega) ne2).trans h.2.2⟩)
    (fun pre W h => hIb pre W h.1) ?_ ⟨hI1, hL1, hK1⟩).mono ?_
  · rintro pre x W ⟨hi, hl, hk⟩ hx
    have hlt : s + 1 < W.heap.size := (Array.getElem?_eq_some_iff.1 hl).1
    have hy := run_yield (P := P) (args := encs x) hl (by rw [hrec]; exact hps x)
    rw [hrec] at hy
    refine ⟨fn, _, assign, body, hy, roundIn_of_wpIn hfn (hassign _ x W _ ⟨_, run_beginRound hl (by rw [hrec]), ?_⟩)⟩
    obtain ⟨Wb, hWb⟩ : ∃ Wb, W.putObj (s + 1) (.loop { rec .ready none with state := .busy }) = Wb := ⟨_, rfl⟩
    rw [hWb]
    have hl2 : Wb.heap[s + 1]? = some (.loop { rec .ready none with state := .busy }) := by rw [← hWb]; exact World.putObj_heap_same hlt
    have hk2 : Wb.heap[s]? = some (.deferred (some [])) := by rw [← hWb]; exact (World.putObj_heap_other (by omega)).trans hk
    have hi2 : I pre Wb := by rw [← hWb]; exact hIp _ hi (by omega) hl rfl
    have hbb : Below (b0 + 1) W Wb := by rw [← hWb]; exact (Below.refl _ W).grown (grownBy_putObj' W (s + 1) _) (by omega) (fun k e => by cases e; omega)
    refine wpIn_mono (hbody _ pre x Wb hi2 hx) ?_
    rintro e a3 W3 hp
    cases e with
    | normal =>
      obtain ⟨hk3, hi3, hb3⟩ := hp
      have hl3 := hk3.same _ _ (by omega) hl2 rfl
      have hlt3 : s + 1 < W3.heap.size := (Array.getElem?_eq_some_iff.1 hl3).1
      have hr := run_endRound (P := P) none hl3
      rw [hrec] at hr
      refine ⟨_, _, hr, rfl, ⟨hIp _ hi3 (by omega) hl3 rfl, ?_, ?_⟩, ?_⟩
      · rw [hrec]; exact World.putObj_heap_same hlt3
      · exact (World.putObj_heap_other (by omega)).trans (hk3.same _ _ (Nat.le_refl _) hk2 rfl)
      · exact (hbb.trans hb3).grown (grownBy_putObj' W3 (s + 1) _) (by omega) (fun k e => by cases e; omega)
    | ret => exact hp.elim
    | exit id => exact hp.elim
    | goto t => exact hp.elim
    | panic ch => exact hp.elim
    | outgrown => exact hp.elim
  · rintro e W2 ⟨⟨v, rfl⟩, hi, hl, hk⟩
    exact ⟨none, _, by have := run_endLoop (P := P) hl (by rw [hrec]; simp); rw [hrec] at this; exact this, hdone _ _ (Nat.le_refl _) (hIp _ hi (by omega) hl rfl) ((World.putObj_heap_other (by omega)).trans hk)⟩

end Go.Proofs.YtkbimiimgcklaaaDoor.RangeC

-- of YtkbimiimgcklaaaDoorPrint6
-- Written by a program of this session (wip/gprint/gprint.py) over the kit's print; the parts marked GIVEN by hand.
namespace Go.Proofs.YtkbimiimgcklaaaDoor.Print
open Go.RowKit Go.Proofs.YtkbimiimgcklaaaDoorW.PrintWords Go.Proofs.YtkbimiimgcklaaaDoorW.PrintLast Go.Proofs.YtkbimiimgcklaaaDoorW.PrintMore
attribute [local go_sem] max2_int min2_int max_two min_two max_three min_three max_four min_four   -- for this text's walks alone
set_option linter.unusedVariables false
set_option linter.unusedSimpArgs false
/-! GIVEN bits_Set_List -/
-- GIVEN (riverbank/bits.Set).List
-- MAKES yes
-- NEEDY yes
-- NEEDS (riverbank/bits.Set).First
-- NEEDS (riverbank/bits.Set).Without
-- NEEDS (riverbank/bits.Set).plain
-- IMPORT Derived.Test.YtkbimiimgcklaaaDoorSetMath
-- IMPORT Derived.Test.YtkbimiimgcklaaaDoorRangeC
-- IMPORT Derived.RangeFuncNested
-- IMPORT Derived.RangeFuncBound
-- IMPORT Derived.RangeFuncCalls
-- IMPORT Derived.RangeFuncLeaves
-- IMPORT Derived.Shelf.Abstract
-- IMPORT Derived.Shelf.RegionOpen
-- IMPORT Derived.OwnWalkIn
-- IMPORT Derived.TacticsInMore
-- IMPORT Derived.LoopNIn
-- IMPORT Derived.LoopIn
-- IMPORT Derived.Maps.AppendAt
open Go.Proofs.YtkbimiimgcklaaaDoor.RangeC Go.Proofs.YtkbimiimgcklaaaDoor.SetMath Go.Proofs.YtkbimiimgcklaaaDoor.BitMath Go.Shelf
attribute [local go_sem] Oper.semAt_some

/-- A set in block b. -/
def SetAt (W : World) (b : Nat) (lo hi : Int) : Prop := W.heap[b]? = some (.cells #[.int .u64 lo, .int .u64 hi] 24 (0, 0))
theorem SetAt.c0 {W : World} {b : Nat} {lo hi : Int} (h : SetAt W b lo hi) : W.cell? ⟨b, 0, none⟩ = some (.int .u64 lo) := (blk_cell h 0).trans rfl
theorem SetAt.c1 {W : World} {b : Nat} {lo hi : Int} (h : SetAt W b lo hi) : W.cell? ⟨b, 1, none⟩ = some (.int .u64 hi) := (blk_cell h 1).trans rfl
theorem SetAt.f0 {W : World} {b : Nat} {lo hi : Int} (h : SetAt W b lo hi) : W.frozen? ⟨b, 0, none⟩ = false := blk_frozen h 0
theorem SetAt.f1 {W : World} {b : Nat} {lo hi : Int} (h : SetAt W b lo hi) : W.frozen? ⟨b, 1, none⟩ = false := blk_frozen h 1
theorem SetAt.below {W w1 : World} {b : Nat} {lo hi : Int} (h : SetAt W b lo hi) (hb : Below W.heap.size W w1) : SetAt w1 b lo hi := blk_below h hb
theorem SetAt.put {W : World} {b : Nat} {lo hi : Int} (h : SetAt W b lo hi) (x y : Int) : SetAt ((W.setCell ⟨b, 0, none⟩ (.int .u64 x)).setCell ⟨b, 1, none⟩ (.int .u64 y)) b x y :=
  blk_put (cs := #[.int .u64 x, .int .u64 hi]) (blk_put (cs := #[.int .u64 lo, .int .u64 hi]) h 0 _ rfl) 1 _ rfl
theorem put_grown (W : World) (b : Nat) (u v : Value) : W.grownBy ((W.setCell ⟨b, 0, none⟩ u).setCell ⟨b, 1, none⟩ v) (some b) := by
  have h1 : W.grownBy (W.setCell ⟨b, 0, none⟩ u) (some b) := ⟨rfl, rfl, rfl, by simp, fun k _ hk => Below.heap_setCell _ _ _ k (fun e => hk (by rw [e]))⟩
  have h2 : (W.setCell ⟨b, 0, none⟩ u).grownBy ((W.setCell ⟨b, 0, none⟩ u).setCell ⟨b, 1, none⟩ v) (some b) := ⟨rfl, rfl, rfl, by simp, fun k _ hk => Below.heap_setCell _ _ _ k (fun e => hk (by rw [e]))⟩
  exact ⟨rfl, rfl, rfl, by simp, fun k hk hne => (h2.block k (by simpa using hk) hne).trans (h1.block k hk hne)⟩
/-- How many squares are left in the set in block b. -/
def leftS (b : Nat) (W : World) : Nat := match W.cell? ⟨b, 0, none⟩, W.cell? ⟨b, 1, none⟩ with
  | some (.int _ lo), some (.int _ hi) => (setL lo hi).length
  | _, _ => 0
theorem leftS_eq {W : World} {b : Nat} {lo hi : Int} (h : SetAt W b lo hi) : leftS b W = (setL lo hi).length := by unfold leftS; rw [h.c0, h.c1]
theorem tab_below {w W : World} {b : Nat} (h : TabHere w) (hb : Below b w W) (h0 : 0 < b) : TabHere W := fun j hj => (hb.cell (p := ⟨0, j, none⟩) h0).trans (h j hj)
set_option maxRecDepth 100000 in
set_option maxHeartbeats 2000000 in
/-- The iterator: it gives the squares, rising, and keeps what is left in its own variable. -/
theorem each1_all (n : Nat) (hn : 1 ≤ n) (lo hi : Int) (hlo : U lo) (hhi : U hi) (w : World) (b0 : Nat) (hs : SetAt w b0 lo hi) (hT : TabHere w) (h0b : 0 < b0) :
    SeqAll Fence.wide n Tryd.prog 114 #[.pointer (some ⟨b0, 0, none⟩)] (fun x : Int => #[.int .i64 x]) (setL lo hi) b0 w := by
  intro l J W hW hJ hJb hY h0
  have S0 : SetAt W b0 lo hi := (hW.block b0 (blk_lt hs)).trans hs
  have k0 := S0.c0
  have k1 := S0.c1
  have hpl := pl_can hlo hhi
  have hpe := setL_pl hlo hhi
  have HY := Aside0.mk hY
  have HJ := Aside0.mk hJ
  have HJb := Aside0.mk hJb
  have HT := Aside0.mk hT
  have HP := Aside0.mk (plain_f lo hi)
  obtain ⟨pa, hpa⟩ : ∃ x, x = pl lo := ⟨_, rfl⟩
  obtain ⟨pb, hpb⟩ : ∃ x, x = pl hi := ⟨_, rfl⟩
  rw [← hpa, ← hpb] at hpl hpe HP
  have HPL := Aside0.mk hpl
  have HPE := Aside0.mk hpe
  clear hY hJ hJb hT hpl hpe hpa hpb
  have hS0 := Aside0.mk S0
  have hH0 := Aside0.mk h0
  clear S0 h0
  refine callsIn_of_wp Tryd.func114 rfl trivial ?_ rfl
  simp only [Tryd.ntmps114, List.size_toArray, List.length_cons, List.length_nil, Nat.reduceAdd, Nat.reduceSub, Array.replicate_succ, Array.replicate_zero, List.push_toArray, List.append_toArray, List.nil_append, List.cons_append]
  gi_wp2
  refine ⟨trivial, ?_⟩
  refine (callsIn_wide.2 (bits_Set_plain.calls lo hi pa pb _ HP.out)).mono ?_
  rintro e w1 ⟨rfl, hb1⟩
  have S1 := hS0.out.below hb1
  have J1 := HJ.out _ _ _ none hH0.out (grown_of_below hb1 none) (fun _ e => by cases e)
  have S2 := S1.put pa pb
  have J2 := HJ.out _ _ _ (some b0) J1 (put_grown w1 b0 (.int .u64 pa) (.int .u64 pb)) (fun r e => by cases e; rfl)
  have j0 := S1.c0
  have j1 := S1.c1
  have g0 := S1.f0
  have g1 := S1.f1
  have hS2 := Aside0.mk S2
  have hJ2 := Aside0.mk J2
  clear S1 S2 J1 J2 hb1 hS0 hH0 k0 k1
  gi_wp2
  gi_loopw [3] (fun _ wr => ∃ (pre : List Int) (x y : Int), J pre wr ∧ SetAt wr b0 x y ∧ SetMath.Can x y ∧ setL lo hi = pre ++ setL x y) (fun _ wr => leftS b0 wr)
  case atStart =>
    exact ⟨[], pa, pb, hJ2.out, hS2.out, HPL.out, by rw [HPE.out]; rfl⟩
  case round =>
    clear hS2 hJ2 j0 j1 g0 g1
    obtain ⟨pre, x, y, hJr, hSr, hC, hL⟩ := hrel
    have q0 := hSr.c0
    have q1 := hSr.c1
    rcases setL_step hC with ⟨_, hnil, rfl, rfl⟩ | ⟨m, r, hF, hW', hCr, hcons, hne, hm⟩
    · have hE := Aside0.mk hnil
      have hLL := Aside0.mk hL
      have hJJ := Aside0.mk hJr
      clear hnil hL hC hSr hJr
      gi_wp2
      go_end0
      exact ⟨⟨_, rfl⟩, by rw [hLL.out, hE.out, List.append_nil]; exact hJJ.out⟩
    · have hTr : TabHere wr := tab_below HT.out (HJb.out _ _ hJr) h0b
      have HF := Aside0.mk hF
      have HW := Aside0.mk (hW' 0)
      have HC := Aside0.mk hCr
      have HL := Aside0.mk hL
      have HS := Aside0.mk hSr
      have HJR := Aside0.mk hJr
      have HCO := Aside0.mk hcons
      have HTR := Aside0.mk hTr
      have HXY := Aside0.mk hC
      obtain ⟨r1, r2⟩ := r
      clear hF hW' hCr hL hSr hJr hcons hTr hC
      have hcase : (x = 0 ∧ ¬ y = 0) ∨ ¬ x = 0 := by
        by_cases hx : x = 0
        · rcases hne with h | h
          · exact absurd hx h
          · exact .inl ⟨hx, h⟩
        · exact .inr hx
      clear hne
      rcases hcase with ⟨rfl, hy0⟩ | hx
      all_goals
        gi_wp2
        refine ⟨trivial, ?_⟩
        refine (callsIn_wide.2 (bits_Set_First.calls _ _ (m : Int) _ HTR.out HF.out)).mono ?_
        rintro e w2 ⟨rfl, hb2⟩
        have S2 := HS.out.below hb2
        have J2 := HJ.out _ _ _ none HJR.out (grown_of_below hb2 none) (fun _ e => by cases e)
        obtain ⟨fn, tmps, assign, body, hy, hR⟩ := HY.out pre m w2 J2 ⟨setL r1 r2, by rw [HL.out, HCO.out]; simp⟩
        have HR := Aside0.mk hR
        have hS2 := Aside0.mk S2
        clear S2 J2 hb2 hR q0 q1
        gi_wp2
        refine HR.out.mono ?_
        rintro e w3 ⟨rfl, J3, hk3⟩
        have S3 : SetAt w3 b0 _ y := (hk3.block b0 (Nat.lt_succ_self _)).trans hS2.out
        have q0 := S3.c0
        have q1 := S3.c1
        have hS3 := Aside0.mk S3
        have hJ3 := Aside0.mk J3
        clear S3 J3 hk3 hS2 HR hy
        gi_wp2
        refine ⟨trivial, ?_⟩
        refine (callsIn_wide.2 (bits_Set_Without.calls 1 _ _ _ r1 r2 _ HW.out)).mono ?_
        rintro e w4 ⟨rfl, hb4⟩
        have S4 := hS3.out.below hb4
        have J4 := HJ.out _ _ _ none hJ3.out (grown_of_below hb4 none) (fun _ e => by cases e)
        have q2 := S4.c0
        have q3 := S4.c1
        have f0 := S4.f0
        have f1 := S4.f1
        have S5 := Aside0.mk (S4.put r1 r2)
        have J5 := Aside0.mk (HJ.out _ _ _ (some b0) J4 (put_grown w4 b0 (.int .u64 r1) (.int .u64 r2)) (fun r e => by cases e; rfl))
        clear S4 J4 hb4 q0 q1 hS3 hJ3
        gi_wp2
        go_roundw
        case rel => exact ⟨pre ++ [(m : Int)], r1, r2, J5.out, S5.out, HC.out, by rw [HL.out, HCO.out]; simp⟩
        case measure => rw [leftS_eq S5.out, leftS_eq HS.out, HCO.out]; simp
theorem setL_short (lo hi : Int) : (setL lo hi).length ≤ 90 := by
  unfold setL
  have := List.length_filter_le (mem lo hi) (List.range 90)
  simp at this ⊢
  omega
theorem holds_kept {A B : World} {row : Option Nat} {n₀ Bx b0 : Nat} {t e : TypeId} {v : Value} {k : Nat} {xs : List Value} (hb : b0 < n₀) (hBx : n₀ ≤ Bx) (hv : Boxed A Bx t v) (hr : A.ownsRow n₀ e 1 v k xs) (hg : A.grownBy B row)
    (hrow : ∀ r, row = some r → r = b0 ∨ (∃ o : Obj, A.heap[r]? = some o ∧ o.isCells = false)) : Boxed B Bx t v ∧ B.ownsRow n₀ e 1 v k xs := by
  refine ⟨hv.kept hg (fun e' => ?_), hr.kept hg ?_⟩
  · rcases hrow Bx e'.symm with h | ⟨o, ho, hc⟩
    · omega
    · rw [show A.heap[Bx]? = _ from hv] at ho; cases ho; cases hc
  · rcases hr.2 with ⟨rfl, _⟩ | ⟨g, cap, cur, rfl, hle, hgb, _⟩
    · exact .inl rfl
    · refine .inr fun e' => ?_
      rcases hrow g (by simpa [Value.ownBlock] using e'.symm) with h | ⟨o, ho, hc⟩
      · omega
      · rw [hgb] at ho; cases ho; cases hc
theorem info_int : (Tryd.prog.info? 3).map (fun i => (i.zero, i.size, i.bytes)) = some (some (.int .i64 0), 1, 8) := by kernel_rfl
set_option maxRecDepth 100000 in
set_option maxHeartbeats 2000000 in
/-- AppendSeq, over the iterator whose set lies in the block right ahead. -/
theorem appendSeq_all (n : Nat) (hn : 3 ≤ n) (lo hi : Int) (hlo : U lo) (hhi : U hi) (w : World) (b0 : Nat) (hs : SetAt w b0 lo hi) (hT : TabHere w) (h0b : 0 < b0) (hw : w.heap.size = b0 + 1) :
    CallsIn Fence.wide n Tryd.prog 113 #[.slice none 0 0, .func (.func 114) #[] #[.pointer (some ⟨b0, 0, none⟩)]] w fun e w' =>
      ∃ v, e = .returned v ∧ w'.ownsRow w.heap.size 3 1 v (setL lo hi).length ((setL lo hi).map (Value.int .i64)) ∧ Below b0 w w' := by
  have h1 : 1 ≤ n := by omega
  have hw1 : w.heap.size ≤ b0 + 1 := by omega
  have hw2 : b0 + 1 ≤ w.heap.size := by omega
  clear hw
  obtain ⟨i0, hi0, hz0, hz1, hz2⟩ := info_parts info_int
  have hE := each1_all (n - 1) (by omega) lo hi hlo hhi w b0 hs hT h0b
  have hsh := setL_short lo hi
  obtain ⟨xs, hxs⟩ : ∃ xs, xs = setL lo hi := ⟨_, rfl⟩
  rw [← hxs] at hE hsh ⊢
  clear hxs
  have HE := Aside0.mk hE
  clear hE hs hT
  refine callsIn_of_wp_marks Tryd.func113 rfl trivial ?_ rfl
  simp only [Tryd.ntmps113, List.size_toArray, List.length_cons, List.length_nil, Nat.reduceAdd, Nat.reduceSub, Array.replicate_succ, Array.replicate_zero, List.push_toArray, List.append_toArray, List.nil_append, List.cons_append]
  gi_wp2
  have bO := Boxed.new w 33 (.slice none 0 0)
  have hB0 : Below w.heap.size w (w.alloc (.cells #[.slice none 0 0] 33)) := (Below.refl _ w).alloc (Nat.le_refl _) _
  refine wpIn_range_all rfl h1 (gf := 114) (lb := #[.pointer (some ⟨b0, 0, none⟩)]) rfl trivial (enters_of Tryd.func114 (by kernel_rfl) rfl) HE.out hB0 (by omega) (fun _ => rfl)
    (fun pre W => (∃ v, Boxed W w.heap.size 33 v ∧ W.ownsRow w.heap.size 3 1 v pre.length (pre.map (Value.int .i64))) ∧ Below b0 w W)
    (fun s A B row ⟨⟨v, hv, hr⟩, hb⟩ hg hrow => ⟨⟨v, holds_kept (by omega) (Nat.le_refl _) hv hr hg (fun r e => (hrow r e).imp id (fun h => h.2))⟩, hb.grown hg (by have := hb.size; omega) (fun k e => by rcases hrow k e with h | h; omega; have := h.1; simp at this; omega)⟩)
    (fun _ _ h => h.2)
    ⟨⟨_, bO, World.ownsRow_nil _ _ _ _⟩, hB0.mono (by omega)⟩
    (fun x => { tmps := #[.slice none 0 0, .func (.func 114) #[] #[.pointer (some ⟨b0, 0, none⟩)], .pointer (some ⟨w.heap.size, 0, none⟩), undef, .slice none 0 0, .int .i64 x, .func (.func 114) #[] #[.pointer (some ⟨b0, 0, none⟩)], .int .i64 x, undef, undef, undef, undef, undef], defers := [] }) ?assign ?body ?done
  case assign =>
    intro l x W K hK
    gi_wp2
    exact hK
  case body =>
    rintro l pre x W ⟨⟨v, hv, hrow⟩, hB⟩ hpre
    have hc := hv.cell
    have hlen : pre.length ≤ 90 := by have := hpre.length_le; simp at this; omega
    have hsz : w.heap.size ≤ W.heap.size := hB.size
    have HP := Aside0.mk hB
    clear hB hpre
    gi_wp2_with (gi_at_builtin; refine wpListIn_append_own _ rfl _ _ 33 rfl w.heap.size 3 i0 (.int .i64 0) 1 8 Tryd.underlying33 hi0 hz0 hz1 hz2 rfl (by decide) _ _ _ rfl (hrow.alloc _) ⟨W.heap.size, 0, none⟩ 1 1 [.int .i64 x] rfl rfl (cell_one_new _ _ _) (by simp [Value.oneCell']) (by unfold maxLen; omega) (by omega) (by simp; omega) ?_; intro v' w1 hown' hgrow _; obtain ⟨g', cap', rfl⟩ := ownsRow_succ hown'; obtain ⟨hv1, hv2, hr2, hk2, hb2⟩ := hv.appended (by decide) hrow hsz (Nat.le_refl _) hown' hgrow; have hc1 := hv1.cell; have hf1 := hv1.frozen)
    exact ⟨hk2.from _, ⟨⟨_, hv2, by simpa using hr2⟩, HP.out.trans (hb2.mono (by omega))⟩, hb2.mono (by omega)⟩
  case done =>
    rintro D W hD ⟨⟨v, hv, hrow⟩, hB⟩ hK
    have hc := hv.cell
    gi_wp2
    refine ⟨by simp, .inl ⟨_, _, rfl, run_takeDeferred hK, ?_⟩⟩
    exact ⟨_, results_tmp rfl _ _ _, v, rfl, ownsRow_putObj hrow _ hK rfl, hB.trans (belowK_b (w := w) (by omega) W D _ _ (by simp at hD; omega) hK rfl rfl)⟩
set_option maxHeartbeats 1000000 in
theorem each_calls (lo hi : Int) (w : World) : Calls Tryd.prog 89 #[.agg #[.int .u64 lo, .int .u64 hi]] w fun e w' =>
    e = .returned (.func (.func 114) #[] #[.pointer (some ⟨w.heap.size, 0, none⟩)]) ∧ w' = w.alloc (.cells #[.int .u64 lo, .int .u64 hi] 24) := by
  go_enter Tryd.func89, Tryd.ntmps89
  go_wp2
  go_ret
  exact ⟨rfl, rfl⟩
set_option maxHeartbeats 1000000 in
theorem collect_calls (lo hi : Int) (hlo : U lo) (hhi : U hi) (w : World) (b0 : Nat) (hs : SetAt w b0 lo hi) (hT : TabHere w) (h0b : 0 < b0) (hw : w.heap.size = b0 + 1) :
    Calls Tryd.prog 88 #[.func (.func 114) #[] #[.pointer (some ⟨b0, 0, none⟩)]] w fun e w' =>
      ∃ v, e = .returned v ∧ w'.ownsRow w.heap.size 3 1 v (setL lo hi).length ((setL lo hi).map (Value.int .i64)) ∧ Below b0 w w' := by
  have H := Aside0.mk (callsIn_wide.1 (appendSeq_all 6 (by omega) lo hi hlo hhi w b0 hs hT h0b hw))
  clear hw hs hT hlo hhi
  go_enter Tryd.func88, Tryd.ntmps88
  go_wp2_with (go_at_call 113; refine H.out.mono ?_; rintro e w' ⟨v, rfl, ho, hb⟩)
  go_ret
  exact ⟨v, rfl, ho, hb⟩
def bits_Set_List.f (a0_0 : Int) (a0_1 : Int) : Option (List Int) := if (0 ≤ a0_0 ∧ a0_0 < 18446744073709551616) ∧ 0 ≤ a0_1 ∧ a0_1 < 18446744073709551616 then some (setL a0_0 a0_1) else none
set_option maxHeartbeats 1000000 in
theorem bits_Set_List.calls (a0_0 : Int) (a0_1 : Int) (r : List Int) (w : World) (hT : TabHere w) (h : bits_Set_List.f a0_0 a0_1 = some r) :
    Calls Tryd.prog 33 #[.agg #[.int .u64 a0_0, .int .u64 a0_1]] w fun e w' => ∃ v0_ : Value, e = .returned (v0_) ∧ Kd.R (Kd.int .i64) 3 w' w.heap.size (fun _ => True) v0_ r ∧ Below w.heap.size w w' := by
  unfold bits_Set_List.f at h
  split at h
  case isFalse => cases h
  rename_i hr
  obtain rfl := Option.some.inj h
  clear h
  have h0 : 0 < w.heap.size := by
    have := hT 0 (by decide)
    exact World.block_lt_of_cell? w _ this
  have hB1 : Below w.heap.size w (w.alloc (.cells #[.int .u64 a0_0, .int .u64 a0_1] 24)) := (Below.refl _ w).alloc (Nat.le_refl _) _
  have hB2 : Below w.heap.size w ((w.alloc (.cells #[.int .u64 a0_0, .int .u64 a0_1] 24)).alloc (.cells #[.int .u64 a0_0, .int .u64 a0_1] 24)) := hB1.alloc (by simp) _
  have hC := collect_calls a0_0 a0_1 hr.1 hr.2 ((w.alloc (.cells #[.int .u64 a0_0, .int .u64 a0_1] 24)).alloc (.cells #[.int .u64 a0_0, .int .u64 a0_1] 24)) (w.heap.size + 1) (by have := blk_new (w.alloc (.cells #[.int .u64 a0_0, .int .u64 a0_1] 24)) (.cells #[.int .u64 a0_0, .int .u64 a0_1] 24); rw [World.size_alloc] at this; exact this) (tab_of hT hB2) (by omega) (by simp)
  have HC := Aside0.mk hC
  have HT := Aside0.mk hT
  clear hC hT hr h0 hB1
  go_enter Tryd.func33, Tryd.ntmps33
  go_wp2_with (first
    | (go_at_call 89; refine (each_calls a0_0 a0_1 _).mono ?_; rintro e w1 ⟨rfl, rfl⟩)
    | (go_at_call 88; refine HC.out.mono ?_; rintro e w2 ⟨v, rfl, ho, hb⟩))
  go_ret
  refine ⟨v, rfl, Kd.R_of_own (own_less ho (by simp; omega)) (fun _ _ => trivial), hB2.trans (hb.mono (by omega))⟩

end Go.Proofs.YtkbimiimgcklaaaDoor.Print

-- of YtkbimiimgcklaaaDoorPrint7
-- Written by a program of this session (wip/gprint/gprint.py) over the kit's print; the parts marked GIVEN by hand.
namespace Go.Proofs.YtkbimiimgcklaaaDoor.Print
open Go.RowKit Go.Proofs.YtkbimiimgcklaaaDoorW.PrintWords Go.Proofs.YtkbimiimgcklaaaDoorW.PrintLast Go.Proofs.YtkbimiimgcklaaaDoorW.PrintMore
attribute [local go_sem] max2_int min2_int max_two min_two max_three min_three max_four min_four   -- for this text's walks alone
set_option linter.unusedVariables false
set_option linter.unusedSimpArgs false
/-! ### bits_OnesCount64: function 90 -/
def bits_OnesCount64.f (a0 : Int) : Option (Int) := some (Go.bits .and .i64 (wrap64 (IntKind.u64.wrap ((IntKind.u64.wrap ((IntKind.u64.wrap ((Go.bits .and .u64 (IntKind.u64.wrap (((IntKind.u64.wrap ((Go.bits .and .u64 ((IntKind.u64.wrap ((Go.bits .and .u64 (a0 / 2) 6148914691236517205) + (Go.bits .and .u64 a0 6148914691236517205))) / 4) 3689348814741910323) + (Go.bits .and .u64 (IntKind.u64.wrap ((Go.bits .and .u64 (a0 / 2) 6148914691236517205) + (Go.bits .and .u64 a0 6148914691236517205))) 3689348814741910323))) / 16) + (IntKind.u64.wrap ((Go.bits .and .u64 ((IntKind.u64.wrap ((Go.bits .and .u64 (a0 / 2) 6148914691236517205) + (Go.bits .and .u64 a0 6148914691236517205))) / 4) 3689348814741910323) + (Go.bits .and .u64 (IntKind.u64.wrap ((Go.bits .and .u64 (a0 / 2) 6148914691236517205) + (Go.bits .and .u64 a0 6148914691236517205))) 3689348814741910323))))) 1085102592571150095) + ((Go.bits .and .u64 (IntKind.u64.wrap (((IntKind.u64.wrap ((Go.bits .and .u64 ((IntKind.u64.wrap ((Go.bits .and .u64 (a0 / 2) 6148914691236517205) + (Go.bits .and .u64 a0 6148914691236517205))) / 4) 3689348814741910323) + (Go.bits .and .u64 (IntKind.u64.wrap ((Go.bits .and .u64 (a0 / 2) 6148914691236517205) + (Go.bits .and .u64 a0 6148914691236517205))) 3689348814741910323))) / 16) + (IntKind.u64.wrap ((Go.bits .and .u64 ((IntKind.u64.wrap ((Go.bits .and .u64 (a0 / 2) 6148914691236517205) + (Go.bits .and .u64 a0 6148914691236517205))) / 4) 3689348814741910323) + (Go.bits .and .u64 (IntKind.u64.wrap ((Go.bits .and .u64 (a0 / 2) 6148914691236517205) + (Go.bits .and .u64 a0 6148914691236517205))) 3689348814741910323))))) 1085102592571150095) / 256))) + ((IntKind.u64.wrap ((Go.bits .and .u64 (IntKind.u64.wrap (((IntKind.u64.wrap ((Go.bits .and .u64 ((IntKind.u64.wrap ((Go.bits .and .u64 (a0 / 2) 6148914691236517205) + (Go.bits .and .u64 a0 6148914691236517205))) / 4) 3689348814741910323) + (Go.bits .and .u64 (IntKind.u64.wrap ((Go.bits .and .u64 (a0 / 2) 6148914691236517205) + (Go.bits .and .u64 a0 6148914691236517205))) 3689348814741910323))) / 16) + (IntKind.u64.wrap ((Go.bits .and .u64 ((IntKind.u64.wrap ((Go.bits .and .u64 (a0 / 2) 6148914691236517205) + (Go.bits .and .u64 a0 6148914691236517205))) / 4) 3689348814741910323) + (Go.bits .and .u64 (IntKind.u64.wrap ((Go.bits .and .u64 (a0 / 2) 6148914691236517205) + (Go.bits .and .u64 a0 6148914691236517205))) 3689348814741910323))))) 1085102592571150095) + ((Go.bits .and .u64 (IntKind.u64.wrap (((IntKind.u64.wrap ((Go.bits .and .u64 ((IntKind.u64.wrap ((Go.bits .and .u64 (a0 / 2) 6148914691236517205) + (Go.bits .and .u64 a0 6148914691236517205))) / 4) 3689348814741910323) + (Go.bits .and .u64 (IntKind.u64.wrap ((Go.bits .and .u64 (a0 / 2) 6148914691236517205) + (Go.bits .and .u64 a0 6148914691236517205))) 3689348814741910323))) / 16) + (IntKind.u64.wrap ((Go.bits .and .u64 ((IntKind.u64.wrap ((Go.bits .and .u64 (a0 / 2) 6148914691236517205) + (Go.bits .and .u64 a0 6148914691236517205))) / 4) 3689348814741910323) + (Go.bits .and .u64 (IntKind.u64.wrap ((Go.bits .and .u64 (a0 / 2) 6148914691236517205) + (Go.bits .and .u64 a0 6148914691236517205))) 3689348814741910323))))) 1085102592571150095) / 256))) / 65536))) + ((IntKind.u64.wrap ((IntKind.u64.wrap ((Go.bits .and .u64 (IntKind.u64.wrap (((IntKind.u64.wrap ((Go.bits .and .u64 ((IntKind.u64.wrap ((Go.bits .and .u64 (a0 / 2) 6148914691236517205) + (Go.bits .and .u64 a0 6148914691236517205))) / 4) 3689348814741910323) + (Go.bits .and .u64 (IntKind.u64.wrap ((Go.bits .and .u64 (a0 / 2) 6148914691236517205) + (Go.bits .and .u64 a0 6148914691236517205))) 3689348814741910323))) / 16) + (IntKind.u64.wrap ((Go.bits .and .u64 ((IntKind.u64.wrap ((Go.bits .and .u64 (a0 / 2) 6148914691236517205) + (Go.bits .and .u64 a0 6148914691236517205))) / 4) 3689348814741910323) + (Go.bits .and .u64 (IntKind.u64.wrap ((Go.bits .and .u64 (a0 / 2) 6148914691236517205) + (Go.bits .and .u64 a0 6148914691236517205))) 3689348814741910323))))) 1085102592571150095) + ((Go.bits .and .u64 (IntKind.u64.wrap (((IntKind.u64.wrap ((Go.bits .and .u64 ((IntKind.u64.wrap ((Go.bits .and .u64 (a0 / 2) 6148914691236517205) + (Go.bits .and .u64 a0 6148914691236517205))) / 4) 3689348814741910323) + (Go.bits .and .u64 (IntKind.u64.wrap ((Go.bits .and .u64 (a0 / 2) 6148914691236517205) + (Go.bits .and .u64 a0 6148914691236517205))) 3689348814741910323))) / 16) + (IntKind.u64.wrap ((Go.bits .and .u64 ((IntKind.u64.wrap ((Go.bits .and .u64 (a0 / 2) 6148914691236517205) + (Go.bits .and .u64 a0 6148914691236517205))) / 4) 3689348814741910323) + (Go.bits .and .u64 (IntKind.u64.wrap ((Go.bits .and .u64 (a0 / 2) 6148914691236517205) + (Go.bits .and .u64 a0 6148914691236517205))) 3689348814741910323))))) 1085102592571150095) / 256))) + ((IntKind.u64.wrap ((Go.bits .and .u64 (IntKind.u64.wrap (((IntKind.u64.wrap ((Go.bits .and .u64 ((IntKind.u64.wrap ((Go.bits .and .u64 (a0 / 2) 6148914691236517205) + (Go.bits .and .u64 a0 6148914691236517205))) / 4) 3689348814741910323) + (Go.bits .and .u64 (IntKind.u64.wrap ((Go.bits .and .u64 (a0 / 2) 6148914691236517205) + (Go.bits .and .u64 a0 6148914691236517205))) 3689348814741910323))) / 16) + (IntKind.u64.wrap ((Go.bits .and .u64 ((IntKind.u64.wrap ((Go.bits .and .u64 (a0 / 2) 6148914691236517205) + (Go.bits .and .u64 a0 6148914691236517205))) / 4) 3689348814741910323) + (Go.bits .and .u64 (IntKind.u64.wrap ((Go.bits .and .u64 (a0 / 2) 6148914691236517205) + (Go.bits .and .u64 a0 6148914691236517205))) 3689348814741910323))))) 1085102592571150095) + ((Go.bits .and .u64 (IntKind.u64.wrap (((IntKind.u64.wrap ((Go.bits .and .u64 ((IntKind.u64.wrap ((Go.bits .and .u64 (a0 / 2) 6148914691236517205) + (Go.bits .and .u64 a0 6148914691236517205))) / 4) 3689348814741910323) + (Go.bits .and .u64 (IntKind.u64.wrap ((Go.bits .and .u64 (a0 / 2) 6148914691236517205) + (Go.bits .and .u64 a0 6148914691236517205))) 3689348814741910323))) / 16) + (IntKind.u64.wrap ((Go.bits .and .u64 ((IntKind.u64.wrap ((Go.bits .and .u64 (a0 / 2) 6148914691236517205) + (Go.bits .and .u64 a0 6148914691236517205))) / 4) 3689348814741910323) + (Go.bits .and .u64 (IntKind.u64.wrap ((Go.bits .and .u64 (a0 / 2) 6148914691236517205) + (Go.bits .and .u64 a0 6148914691236517205))) 3689348814741910323))))) 1085102592571150095) / 256))) / 65536))) / 4294967296)))) 127)
set_option maxHeartbeats 8000000 in
set_option maxRecDepth 100000 in
theorem bits_OnesCount64.calls (a0 : Int) (r : Int) (w : World) (h : bits_OnesCount64.f a0 = some r) :
    Calls Tryd.prog 90 #[.int .u64 a0] w fun e w' => e = .returned (.int .i64 r) ∧ Drawn0 w w' := by
  have H : (some (Go.bits .and .i64 (wrap64 (IntKind.u64.wrap ((IntKind.u64.wrap ((IntKind.u64.wrap ((Go.bits .and .u64 (IntKind.u64.wrap (((IntKind.u64.wrap ((Go.bits .and .u64 ((IntKind.u64.wrap ((Go.bits .and .u64 (a0 / 2) 6148914691236517205) + (Go.bits .and .u64 a0 6148914691236517205))) / 4) 3689348814741910323) + (Go.bits .and .u64 (IntKind.u64.wrap ((Go.bits .and .u64 (a0 / 2) 6148914691236517205) + (Go.bits .and .u64 a0 6148914691236517205))) 3689348814741910323))) / 16) + (IntKind.u64.wrap ((Go.bits .and .u64 ((IntKind.u64.wrap ((Go.bits .and .u64 (a0 / 2) 6148914691236517205) + (Go.bits .and .u64 a0 6148914691236517205))) / 4) 3689348814741910323) + (Go.bits .and .u64 (IntKind.u64.wrap ((Go.bits .and .u64 (a0 / 2) 6148914691236517205) + (Go.bits .and .u64 a0 6148914691236517205))) 3689348814741910323))))) 1085102592571150095) + ((Go.bits .and .u64 (IntKind.u64.wrap (((IntKind.u64.wrap ((Go.bits .and .u64 ((IntKind.u64.wrap ((Go.bits .and .u64 (a0 / 2) 6148914691236517205) + (Go.bits .and .u64 a0 6148914691236517205))) / 4) 3689348814741910323) + (Go.bits .and .u64 (IntKind.u64.wrap ((Go.bits .and .u64 (a0 / 2) 6148914691236517205) + (Go.bits .and .u64 a0 6148914691236517205))) 3689348814741910323))) / 16) + (IntKind.u64.wrap ((Go.bits .and .u64 ((IntKind.u64.wrap ((Go.bits .and .u64 (a0 / 2) 6148914691236517205) + (Go.bits .and .u64 a0 6148914691236517205))) / 4) 3689348814741910323) + (Go.bits .and .u64 (IntKind.u64.wrap ((Go.bits .and .u64 (a0 / 2) 6148914691236517205) + (Go.bits .and .u64 a0 6148914691236517205))) 3689348814741910323))))) 1085102592571150095) / 256))) + ((IntKind.u64.wrap ((Go.bits .and .u64 (IntKind.u64.wrap (((IntKind.u64.wrap ((Go.bits .and .u64 ((IntKind.u64.wrap ((Go.bits .and .u64 (a0 / 2) 6148914691236517205) + (Go.bits .and .u64 a0 6148914691236517205))) / 4) 3689348814741910323) + (Go.bits .and .u64 (IntKind.u64.wrap ((Go.bits .and .u64 (a0 / 2) 6148914691236517205) + (Go.bits .and .u64 a0 6148914691236517205))) 3689348814741910323))) / 16) + (IntKind.u64.wrap ((Go.bits .and .u64 ((IntKind.u64.wrap ((Go.bits .and .u64 (a0 / 2) 6148914691236517205) + (Go.bits .and .u64 a0 6148914691236517205))) / 4) 3689348814741910323) + (Go.bits .and .u64 (IntKind.u64.wrap ((Go.bits .and .u64 (a0 / 2) 6148914691236517205) + (Go.bits .and .u64 a0 6148914691236517205))) 3689348814741910323))))) 1085102592571150095) + ((Go.bits .and .u64 (IntKind.u64.wrap (((IntKind.u64.wrap ((Go.bits .and .u64 ((IntKind.u64.wrap ((Go.bits .and .u64 (a0 / 2) 6148914691236517205) + (Go.bits .and .u64 a0 6148914691236517205))) / 4) 3689348814741910323) + (Go.bits .and .u64 (IntKind.u64.wrap ((Go.bits .and .u64 (a0 / 2) 6148914691236517205) + (Go.bits .and .u64 a0 6148914691236517205))) 3689348814741910323))) / 16) + (IntKind.u64.wrap ((Go.bits .and .u64 ((IntKind.u64.wrap ((Go.bits .and .u64 (a0 / 2) 6148914691236517205) + (Go.bits .and .u64 a0 6148914691236517205))) / 4) 3689348814741910323) + (Go.bits .and .u64 (IntKind.u64.wrap ((Go.bits .and .u64 (a0 / 2) 6148914691236517205) + (Go.bits .and .u64 a0 6148914691236517205))) 3689348814741910323))))) 1085102592571150095) / 256))) / 65536))) + ((IntKind.u64.wrap ((IntKind.u64.wrap ((Go.bits .and .u64 (IntKind.u64.wrap (((IntKind.u64.wrap ((Go.bits .and .u64 ((IntKind.u64.wrap ((Go.bits .and .u64 (a0 / 2) 6148914691236517205) + (Go.bits .and .u64 a0 6148914691236517205))) / 4) 3689348814741910323) + (Go.bits .and .u64 (IntKind.u64.wrap ((Go.bits .and .u64 (a0 / 2) 6148914691236517205) + (Go.bits .and .u64 a0 6148914691236517205))) 3689348814741910323))) / 16) + (IntKind.u64.wrap ((Go.bits .and .u64 ((IntKind.u64.wrap ((Go.bits .and .u64 (a0 / 2) 6148914691236517205) + (Go.bits .and .u64 a0 6148914691236517205))) / 4) 3689348814741910323) + (Go.bits .and .u64 (IntKind.u64.wrap ((Go.bits .and .u64 (a0 / 2) 6148914691236517205) + (Go.bits .and .u64 a0 6148914691236517205))) 3689348814741910323))))) 1085102592571150095) + ((Go.bits .and .u64 (IntKind.u64.wrap (((IntKind.u64.wrap ((Go.bits .and .u64 ((IntKind.u64.wrap ((Go.bits .and .u64 (a0 / 2) 6148914691236517205) + (Go.bits .and .u64 a0 6148914691236517205))) / 4) 3689348814741910323) + (Go.bits .and .u64 (IntKind.u64.wrap ((Go.bits .and .u64 (a0 / 2) 6148914691236517205) + (Go.bits .and .u64 a0 6148914691236517205))) 3689348814741910323))) / 16) + (IntKind.u64.wrap ((Go.bits .and .u64 ((IntKind.u64.wrap ((Go.bits .and .u64 (a0 / 2) 6148914691236517205) + (Go.bits .and .u64 a0 6148914691236517205))) / 4) 3689348814741910323) + (Go.bits .and .u64 (IntKind.u64.wrap ((Go.bits .and .u64 (a0 / 2) 6148914691236517205) + (Go.bits .and .u64 a0 6148914691236517205))) 3689348814741910323))))) 1085102592571150095) / 256))) + ((IntKind.u64.wrap ((Go.bits .and .u64 (IntKind.u64.wrap (((IntKind.u64.wrap ((Go.bits .and .u64 ((IntKind.u64.wrap ((Go.bits .and .u64 (a0 / 2) 6148914691236517205) + (Go.bits .and .u64 a0 6148914691236517205))) / 4) 3689348814741910323) + (Go.bits .and .u64 (IntKind.u64.wrap ((Go.bits .and .u64 (a0 / 2) 6148914691236517205) + (Go.bits .and .u64 a0 6148914691236517205))) 3689348814741910323))) / 16) + (IntKind.u64.wrap ((Go.bits .and .u64 ((IntKind.u64.wrap ((Go.bits .and .u64 (a0 / 2) 6148914691236517205) + (Go.bits .and .u64 a0 6148914691236517205))) / 4) 3689348814741910323) + (Go.bits .and .u64 (IntKind.u64.wrap ((Go.bits .and .u64 (a0 / 2) 6148914691236517205) + (Go.bits .and .u64 a0 6148914691236517205))) 3689348814741910323))))) 1085102592571150095) + ((Go.bits .and .u64 (IntKind.u64.wrap (((IntKind.u64.wrap ((Go.bits .and .u64 ((IntKind.u64.wrap ((Go.bits .and .u64 (a0 / 2) 6148914691236517205) + (Go.bits .and .u64 a0 6148914691236517205))) / 4) 3689348814741910323) + (Go.bits .and .u64 (IntKind.u64.wrap ((Go.bits .and .u64 (a0 / 2) 6148914691236517205) + (Go.bits .and .u64 a0 6148914691236517205))) 3689348814741910323))) / 16) + (IntKind.u64.wrap ((Go.bits .and .u64 ((IntKind.u64.wrap ((Go.bits .and .u64 (a0 / 2) 6148914691236517205) + (Go.bits .and .u64 a0 6148914691236517205))) / 4) 3689348814741910323) + (Go.bits .and .u64 (IntKind.u64.wrap ((Go.bits .and .u64 (a0 / 2) 6148914691236517205) + (Go.bits .and .u64 a0 6148914691236517205))) 3689348814741910323))))) 1085102592571150095) / 256))) / 65536))) / 4294967296)))) 127)) = some r := h
  clear h
  obtain rfl := Option.some.inj H
  go_enter Tryd.func90, Tryd.ntmps90
  go_wp2
  go_ret
  exact ⟨by first | rfl | (simp; done) | (simp [*]; done), by repeat (first | exact Drawn0.refl _ | apply Drawn0.step)⟩

/-! ### bits_Set_Count: function 34 -/
def bits_Set_Count.f (a0_0 : Int) (a0_1 : Int) : Option (Int) := (bits_Set_plain.f a0_0 a0_1).bind fun bt163 => ((bits_OnesCount64.f bt163.1).bind fun t165 => ((bits_OnesCount64.f bt163.2).bind fun t166 => (some (wrap64 (t165 + t166)))))
set_option maxHeartbeats 8000000 in
set_option maxRecDepth 100000 in
theorem bits_Set_Count.calls (a0_0 : Int) (a0_1 : Int) (r : Int) (w : World) (h : bits_Set_Count.f a0_0 a0_1 = some r) :
    Calls Tryd.prog 34 #[.agg #[.int .u64 a0_0, .int .u64 a0_1]] w fun e w' => e = .returned (.int .i64 r) ∧ Below w.heap.size w w' := by
  have hu24 := Tryd.underlying24
  have HB := Aside0.mk (Below.refl w.heap.size w)
  have H : ((bits_Set_plain.f a0_0 a0_1).bind fun bt163 => ((bits_OnesCount64.f bt163.1).bind fun t165 => ((bits_OnesCount64.f bt163.2).bind fun t166 => (some (wrap64 (t165 + t166)))))) = some r := h
  clear h
  replace H := Option.bind_eq_some_iff.mp H
  obtain ⟨⟨t163, t164⟩, A20, H⟩ := H
  replace H : ((bits_OnesCount64.f t163).bind fun t165 => ((bits_OnesCount64.f t164).bind fun t166 => (some (wrap64 (t165 + t166))))) = some r := H
  have A2 := Aside0.mk A20
  clear A20
  replace H := Option.bind_eq_some_iff.mp H
  obtain ⟨t165, A30, H⟩ := H
  replace H : ((bits_OnesCount64.f t164).bind fun t166 => (some (wrap64 (t165 + t166)))) = some r := H
  have A3 := Aside0.mk A30
  clear A30
  replace H := Option.bind_eq_some_iff.mp H
  obtain ⟨t166, A40, H⟩ := H
  replace H : (some (wrap64 (t165 + t166))) = some r := H
  have A4 := Aside0.mk A40
  clear A40
  obtain rfl := Option.some.inj H
  go_enter Tryd.func34, Tryd.ntmps34
  go_wp2_with (first | ((with_reducible refine gate_dst (N := 1) rfl ?_); refine box_event ?hg (N := 1) ?hd (cs := #[.int .u64 a0_0, .int .u64 a0_1]) (t := 24) ?hr ?_; (case hd => rfl); (case hg => rfl); (case hr => first | (go_simp; done) | (go_simp; rfl)); intro gb162 hg w5 hbox hb; have n0_ := Aside0.mk (below_step (by repeat (first | (with_reducible first | exact HB.out | apply below_alloc | apply pw_below_drewN | apply below_drew1) | exact HB.out)) hb); have n1_ := Aside0.mk (hbox); have n2_ := Aside0.mk ((by rw [hg]; exact (below_size (by repeat (first | (with_reducible first | exact HB.out | apply below_alloc | apply pw_below_drewN | apply below_drew1) | exact HB.out))) : w.heap.size ≤ gb162)); have n3_ := Aside0.mk ((by rw [hg]; exact (below_size (by repeat (first | (with_reducible first | exact HB.out | apply below_alloc | apply pw_below_drewN | apply below_drew1) | exact HB.out))) : w.heap.size ≤ gb162)); clear HB; have HB := n0_; have BK162 := n1_; have GW162 := n2_; have GE162 := n3_; clear n0_ n1_ n2_ n3_; clear hb hbox hg; have hcz6_0 : w5.cell? ⟨gb162, 0, none⟩ = some (.int .u64 a0_0) := (blk_cell BK162.out 0).trans rfl; have hcz6_1 : w5.cell? ⟨gb162, 1, none⟩ = some (.int .u64 a0_1) := (blk_cell BK162.out 1).trans rfl; have hfz6_0 := blk_frozen BK162.out 0; have hfz6_1 := blk_frozen BK162.out 1) | (go_at_call 87; (with_reducible refine (bits_Set_plain.calls a0_0 a0_1 t163 t164 _ A2.out).mono ?_); rintro e w7 ⟨rfl, hb⟩; have n0_ := Aside0.mk (blk_below (g := gb162) (o := .cells #[.int .u64 a0_0, .int .u64 a0_1] 24 (0, 0)) (by (with_reducible repeat (first | refine blk_drewN ?_ _ | refine blk_drew ?_ | refine blk_alloc ?_ _)); exact BK162.out) hb); have n1_ := Aside0.mk (below_step (by repeat (first | (with_reducible first | exact HB.out | apply below_alloc | apply pw_below_drewN | apply below_drew1 | refine below_set ?_ GE162.out) | exact HB.out)) hb); clear BK162; clear HB; have BK162 := n0_; have HB := n1_; clear n0_ n1_; (try clear hb); (try clear hb2); (try clear hk); (try clear hi); have hcz8_0 : w7.cell? ⟨gb162, 0, none⟩ = some (.int .u64 a0_0) := (blk_cell BK162.out 0).trans rfl; have hcz8_1 : w7.cell? ⟨gb162, 1, none⟩ = some (.int .u64 a0_1) := (blk_cell BK162.out 1).trans rfl; have hfz8_0 := blk_frozen BK162.out 0; have hfz8_1 := blk_frozen BK162.out 1) | (go_at_call 90; (with_reducible refine (bits_OnesCount64.calls t163 t165 _ A3.out).mono ?_); rintro e w' ⟨rfl, ⟨nd, rfl⟩⟩; (try first | exact ⟨rfl, _, World.drewN_drewN _ _ _⟩ | exact ⟨rfl, _, Eq.trans (World.drewN_drewN _ _ _) (congrArg (World.drewN _) (Nat.add_assoc _ _ _))⟩)) | (go_at_call 90; (with_reducible refine (bits_OnesCount64.calls t164 t166 _ A4.out).mono ?_); rintro e w' ⟨rfl, ⟨nd, rfl⟩⟩; (try first | exact ⟨rfl, _, World.drewN_drewN _ _ _⟩ | exact ⟨rfl, _, Eq.trans (World.drewN_drewN _ _ _) (congrArg (World.drewN _) (Nat.add_assoc _ _ _))⟩)))
  repeat (go_quiet (first | ((with_reducible refine gate_dst (N := 1) rfl ?_); refine box_event ?hg (N := 1) ?hd (cs := #[.int .u64 a0_0, .int .u64 a0_1]) (t := 24) ?hr ?_; (case hd => rfl); (case hg => rfl); (case hr => first | (go_simp; done) | (go_simp; rfl)); intro gb162 hg w5 hbox hb; have n0_ := Aside0.mk (below_step (by repeat (first | (with_reducible first | exact HB.out | apply below_alloc | apply pw_below_drewN | apply below_drew1) | exact HB.out)) hb); have n1_ := Aside0.mk (hbox); have n2_ := Aside0.mk ((by rw [hg]; exact (below_size (by repeat (first | (with_reducible first | exact HB.out | apply below_alloc | apply pw_below_drewN | apply below_drew1) | exact HB.out))) : w.heap.size ≤ gb162)); have n3_ := Aside0.mk ((by rw [hg]; exact (below_size (by repeat (first | (with_reducible first | exact HB.out | apply below_alloc | apply pw_below_drewN | apply below_drew1) | exact HB.out))) : w.heap.size ≤ gb162)); clear HB; have HB := n0_; have BK162 := n1_; have GW162 := n2_; have GE162 := n3_; clear n0_ n1_ n2_ n3_; clear hb hbox hg; have hcz6_0 : w5.cell? ⟨gb162, 0, none⟩ = some (.int .u64 a0_0) := (blk_cell BK162.out 0).trans rfl; have hcz6_1 : w5.cell? ⟨gb162, 1, none⟩ = some (.int .u64 a0_1) := (blk_cell BK162.out 1).trans rfl; have hfz6_0 := blk_frozen BK162.out 0; have hfz6_1 := blk_frozen BK162.out 1) | (go_at_call 87; (with_reducible refine (bits_Set_plain.calls a0_0 a0_1 t163 t164 _ A2.out).mono ?_); rintro e w7 ⟨rfl, hb⟩; have n0_ := Aside0.mk (blk_below (g := gb162) (o := .cells #[.int .u64 a0_0, .int .u64 a0_1] 24 (0, 0)) (by (with_reducible repeat (first | refine blk_drewN ?_ _ | refine blk_drew ?_ | refine blk_alloc ?_ _)); exact BK162.out) hb); have n1_ := Aside0.mk (below_step (by repeat (first | (with_reducible first | exact HB.out | apply below_alloc | apply pw_below_drewN | apply below_drew1 | refine below_set ?_ GE162.out) | exact HB.out)) hb); clear BK162; clear HB; have BK162 := n0_; have HB := n1_; clear n0_ n1_; (try clear hb); (try clear hb2); (try clear hk); (try clear hi); have hcz8_0 : w7.cell? ⟨gb162, 0, none⟩ = some (.int .u64 a0_0) := (blk_cell BK162.out 0).trans rfl; have hcz8_1 : w7.cell? ⟨gb162, 1, none⟩ = some (.int .u64 a0_1) := (blk_cell BK162.out 1).trans rfl; have hfz8_0 := blk_frozen BK162.out 0; have hfz8_1 := blk_frozen BK162.out 1) | (go_at_call 90; (with_reducible refine (bits_OnesCount64.calls t163 t165 _ A3.out).mono ?_); rintro e w' ⟨rfl, ⟨nd, rfl⟩⟩; (try first | exact ⟨rfl, _, World.drewN_drewN _ _ _⟩ | exact ⟨rfl, _, Eq.trans (World.drewN_drewN _ _ _) (congrArg (World.drewN _) (Nat.add_assoc _ _ _))⟩)) | (go_at_call 90; (with_reducible refine (bits_OnesCount64.calls t164 t166 _ A4.out).mono ?_); rintro e w' ⟨rfl, ⟨nd, rfl⟩⟩; (try first | exact ⟨rfl, _, World.drewN_drewN _ _ _⟩ | exact ⟨rfl, _, Eq.trans (World.drewN_drewN _ _ _) (congrArg (World.drewN _) (Nat.add_assoc _ _ _))⟩))); try go_wp2_with (first | ((with_reducible refine gate_dst (N := 1) rfl ?_); refine box_event ?hg (N := 1) ?hd (cs := #[.int .u64 a0_0, .int .u64 a0_1]) (t := 24) ?hr ?_; (case hd => rfl); (case hg => rfl); (case hr => first | (go_simp; done) | (go_simp; rfl)); intro gb162 hg w5 hbox hb; have n0_ := Aside0.mk (below_step (by repeat (first | (with_reducible first | exact HB.out | apply below_alloc | apply pw_below_drewN | apply below_drew1) | exact HB.out)) hb); have n1_ := Aside0.mk (hbox); have n2_ := Aside0.mk ((by rw [hg]; exact (below_size (by repeat (first | (with_reducible first | exact HB.out | apply below_alloc | apply pw_below_drewN | apply below_drew1) | exact HB.out))) : w.heap.size ≤ gb162)); have n3_ := Aside0.mk ((by rw [hg]; exact (below_size (by repeat (first | (with_reducible first | exact HB.out | apply below_alloc | apply pw_below_drewN | apply below_drew1) | exact HB.out))) : w.heap.size ≤ gb162)); clear HB; have HB := n0_; have BK162 := n1_; have GW162 := n2_; have GE162 := n3_; clear n0_ n1_ n2_ n3_; clear hb hbox hg; have hcz6_0 : w5.cell? ⟨gb162, 0, none⟩ = some (.int .u64 a0_0) := (blk_cell BK162.out 0).trans rfl; have hcz6_1 : w5.cell? ⟨gb162, 1, none⟩ = some (.int .u64 a0_1) := (blk_cell BK162.out 1).trans rfl; have hfz6_0 := blk_frozen BK162.out 0; have hfz6_1 := blk_frozen BK162.out 1) | (go_at_call 87; (with_reducible refine (bits_Set_plain.calls a0_0 a0_1 t163 t164 _ A2.out).mono ?_); rintro e w7 ⟨rfl, hb⟩; have n0_ := Aside0.mk (blk_below (g := gb162) (o := .cells #[.int .u64 a0_0, .int .u64 a0_1] 24 (0, 0)) (by (with_reducible repeat (first | refine blk_drewN ?_ _ | refine blk_drew ?_ | refine blk_alloc ?_ _)); exact BK162.out) hb); have n1_ := Aside0.mk (below_step (by repeat (first | (with_reducible first | exact HB.out | apply below_alloc | apply pw_below_drewN | apply below_drew1 | refine below_set ?_ GE162.out) | exact HB.out)) hb); clear BK162; clear HB; have BK162 := n0_; have HB := n1_; clear n0_ n1_; (try clear hb); (try clear hb2); (try clear hk); (try clear hi); have hcz8_0 : w7.cell? ⟨gb162, 0, none⟩ = some (.int .u64 a0_0) := (blk_cell BK162.out 0).trans rfl; have hcz8_1 : w7.cell? ⟨gb162, 1, none⟩ = some (.int .u64 a0_1) := (blk_cell BK162.out 1).trans rfl; have hfz8_0 := blk_frozen BK162.out 0; have hfz8_1 := blk_frozen BK162.out 1) | (go_at_call 90; (with_reducible refine (bits_OnesCount64.calls t163 t165 _ A3.out).mono ?_); rintro e w' ⟨rfl, ⟨nd, rfl⟩⟩; (try first | exact ⟨rfl, _, World.drewN_drewN _ _ _⟩ | exact ⟨rfl, _, Eq.trans (World.drewN_drewN _ _ _) (congrArg (World.drewN _) (Nat.add_assoc _ _ _))⟩)) | (go_at_call 90; (with_reducible refine (bits_OnesCount64.calls t164 t166 _ A4.out).mono ?_); rintro e w' ⟨rfl, ⟨nd, rfl⟩⟩; (try first | exact ⟨rfl, _, World.drewN_drewN _ _ _⟩ | exact ⟨rfl, _, Eq.trans (World.drewN_drewN _ _ _) (congrArg (World.drewN _) (Nat.add_assoc _ _ _))⟩))))
  go_ret
  exact ⟨by first | rfl | (simp [errW_none, errW_some] <;> rfl) | (simp [*, errW_none, errW_some] <;> rfl), by repeat (first | (with_reducible first | exact HB.out | apply below_alloc | apply pw_below_drewN | apply below_drew1 | refine below_set ?_ GE162.out) | exact HB.out)⟩

end Go.Proofs.YtkbimiimgcklaaaDoor.Print

-- of YtkbimiimgcklaaaDoorPrint8
-- Written by a program of this session (wip/gprint/gprint.py) over the kit's print; the parts marked GIVEN by hand.
namespace Go.Proofs.YtkbimiimgcklaaaDoor.Print
open Go.RowKit Go.Proofs.YtkbimiimgcklaaaDoorW.PrintWords Go.Proofs.YtkbimiimgcklaaaDoorW.PrintLast Go.Proofs.YtkbimiimgcklaaaDoorW.PrintMore
attribute [local go_sem] max2_int min2_int max_two min_two max_three min_three max_four min_four   -- for this text's walks alone
set_option linter.unusedVariables false
set_option linter.unusedSimpArgs false
/-! GIVEN bits_Len64 -/
-- GIVEN math/bits.Len64
-- MAKES no
-- IMPORT Derived.Test.YtkbimiimgcklaaaDoorShelf
def bits_Len64.f (a0 : Int) : Option (Int) := if 0 ≤ a0 ∧ a0 < 18446744073709551616 then some (Lib.bitLen a0.toNat : Int) else none
theorem bits_Len64.calls (a0 : Int) (r : Int) (w : World) (h : bits_Len64.f a0 = some r) :
    Calls Tryd.prog 92 #[.int .u64 a0] w fun e w' => e = .returned (.int .i64 r) ∧ Drawn0 w w' := by
  unfold bits_Len64.f at h
  split at h
  case isFalse => cases h
  rename_i hr
  obtain rfl := Option.some.inj h
  exact (Tryd.bits_Len64 a0 w hr.1 (by omega)).mono fun e w' ⟨he, hw⟩ => ⟨he, by subst hw; exact Drawn0.refl _⟩

end Go.Proofs.YtkbimiimgcklaaaDoor.Print

-- of YtkbimiimgcklaaaDoorPrint9
-- Written by a program of this session (wip/gprint/gprint.py) over the kit's print; the parts marked GIVEN by hand.
namespace Go.Proofs.YtkbimiimgcklaaaDoor.Print
open Go.RowKit Go.Proofs.YtkbimiimgcklaaaDoorW.PrintWords Go.Proofs.YtkbimiimgcklaaaDoorW.PrintLast Go.Proofs.YtkbimiimgcklaaaDoorW.PrintMore
attribute [local go_sem] max2_int min2_int max_two min_two max_three min_three max_four min_four   -- for this text's walks alone
set_option linter.unusedVariables false
set_option linter.unusedSimpArgs false
/-! ### bits_Set_Last: function 36 -/
def bits_Set_Last.f (a0_0 : Int) (a0_1 : Int) : Option (Int) := (bits_Set_plain.f a0_0 a0_1).bind fun bt168 => (if bt168.2 = 0 then (if bt168.1 = 0 then (some (-1)) else ((bits_Len64.f bt168.1).bind fun t170 => (some (wrap64 (t170 - 1))))) else ((bits_Len64.f bt168.2).bind fun t171 => (some (wrap64 ((wrap64 (45 + t171)) - 1)))))
set_option maxHeartbeats 8000000 in
set_option maxRecDepth 100000 in
theorem bits_Set_Last.calls (a0_0 : Int) (a0_1 : Int) (r : Int) (w : World) (h : bits_Set_Last.f a0_0 a0_1 = some r) :
    Calls Tryd.prog 36 #[.agg #[.int .u64 a0_0, .int .u64 a0_1]] w fun e w' => e = .returned (.int .i64 r) ∧ Below w.heap.size w w' := by
  have hu24 := Tryd.underlying24
  have HB := Aside0.mk (Below.refl w.heap.size w)
  have H : ((bits_Set_plain.f a0_0 a0_1).bind fun bt168 => (if bt168.2 = 0 then (if bt168.1 = 0 then (some (-1)) else ((bits_Len64.f bt168.1).bind fun t170 => (some (wrap64 (t170 - 1))))) else ((bits_Len64.f bt168.2).bind fun t171 => (some (wrap64 ((wrap64 (45 + t171)) - 1)))))) = some r := h
  clear h
  replace H := Option.bind_eq_some_iff.mp H
  obtain ⟨⟨t168, t169⟩, A20, H⟩ := H
  replace H : (if t169 = 0 then (if t168 = 0 then (some (-1)) else ((bits_Len64.f t168).bind fun t170 => (some (wrap64 (t170 - 1))))) else ((bits_Len64.f t169).bind fun t171 => (some (wrap64 ((wrap64 (45 + t171)) - 1))))) = some r := H
  have A2 := Aside0.mk A20
  clear A20
  by_cases c3 : t169 = 0
  · rw [if_pos c3] at H
    have c3b0 : (t169 == 0) = true := beq_iff_eq.mpr c3
    have c3b1 : (t169 != 0) = false := bne_eq_false_iff_eq.mpr c3
    clear c3
    by_cases c4 : t168 = 0
    · rw [if_pos c4] at H
      have c4b0 : (t168 == 0) = true := beq_iff_eq.mpr c4
      have c4b1 : (t168 != 0) = false := bne_eq_false_iff_eq.mpr c4
      clear c4
      obtain rfl := Option.some.inj H
      go_enter Tryd.func36, Tryd.ntmps36
      go_wp2_with (first | ((with_reducible refine gate_dst (N := 1) rfl ?_); refine box_event ?hg (N := 1) ?hd (cs := #[.int .u64 a0_0, .int .u64 a0_1]) (t := 24) ?hr ?_; (case hd => rfl); (case hg => rfl); (case hr => first | (go_simp; done) | (go_simp; rfl)); intro gb167 hg w5 hbox hb; have n0_ := Aside0.mk (below_step (by repeat (first | (with_reducible first | exact HB.out | apply below_alloc | apply pw_below_drewN | apply below_drew1) | exact HB.out)) hb); have n1_ := Aside0.mk (hbox); have n2_ := Aside0.mk ((by rw [hg]; exact (below_size (by repeat (first | (with_reducible first | exact HB.out | apply below_alloc | apply pw_below_drewN | apply below_drew1) | exact HB.out))) : w.heap.size ≤ gb167)); have n3_ := Aside0.mk ((by rw [hg]; exact (below_size (by repeat (first | (with_reducible first | exact HB.out | apply below_alloc | apply pw_below_drewN | apply below_drew1) | exact HB.out))) : w.heap.size ≤ gb167)); clear HB; have HB := n0_; have BK167 := n1_; have GW167 := n2_; have GE167 := n3_; clear n0_ n1_ n2_ n3_; clear hb hbox hg; have hcz6_0 : w5.cell? ⟨gb167, 0, none⟩ = some (.int .u64 a0_0) := (blk_cell BK167.out 0).trans rfl; have hcz6_1 : w5.cell? ⟨gb167, 1, none⟩ = some (.int .u64 a0_1) := (blk_cell BK167.out 1).trans rfl; have hfz6_0 := blk_frozen BK167.out 0; have hfz6_1 := blk_frozen BK167.out 1) | ((with_reducible refine gate_callee (f := 87) rfl ?_); refine goesL_ (some 4) rfl rfl Tryd.func87 (by kernel_rfl) rfl #[.agg #[.int .u64 a0_0, .int .u64 a0_1]] rfl (by (try simp only [List.map_toArray, List.map_cons, List.map_nil]); first | done | rfl | (simp only [List.length_drop, List.length_take]; rfl)) ?_; (with_reducible refine (bits_Set_plain.calls a0_0 a0_1 t168 t169 _ A2.out).mono ?_); rintro e w7 ⟨rfl, hb⟩; refine ⟨_, rfl, ?_⟩; have n0_ := Aside0.mk (blk_below (g := gb167) (o := .cells #[.int .u64 a0_0, .int .u64 a0_1] 24 (0, 0)) (by (with_reducible repeat (first | refine blk_drewN ?_ _ | refine blk_drew ?_ | refine blk_alloc ?_ _)); exact BK167.out) hb); have n1_ := Aside0.mk (below_step (by repeat (first | (with_reducible first | exact HB.out | apply below_alloc | apply pw_below_drewN | apply below_drew1 | refine below_set ?_ GE167.out) | exact HB.out)) hb); clear BK167; clear HB; have BK167 := n0_; have HB := n1_; clear n0_ n1_; (try clear hb); (try clear hb2); (try clear hk); (try clear hi); have hcz8_0 : w7.cell? ⟨gb167, 0, none⟩ = some (.int .u64 a0_0) := (blk_cell BK167.out 0).trans rfl; have hcz8_1 : w7.cell? ⟨gb167, 1, none⟩ = some (.int .u64 a0_1) := (blk_cell BK167.out 1).trans rfl; have hfz8_0 := blk_frozen BK167.out 0; have hfz8_1 := blk_frozen BK167.out 1))
      go_ret
      exact ⟨by first | rfl | (simp [errW_none, errW_some] <;> rfl) | (simp [*, errW_none, errW_some] <;> rfl), by repeat (first | (with_reducible first | exact HB.out | apply below_alloc | apply pw_below_drewN | apply below_drew1 | refine below_set ?_ GE167.out) | exact HB.out)⟩
    · rw [if_neg c4] at H
      have c4b0 : (t168 == 0) = false := beq_eq_false_iff_ne.mpr c4
      have c4b1 : (t168 != 0) = true := bne_iff_ne.mpr c4
      replace H := Option.bind_eq_some_iff.mp H
      obtain ⟨t170, A90, H⟩ := H
      replace H : (some (wrap64 (t170 - 1))) = some r := H
      have A9 := Aside0.mk A90
      clear A90
      obtain rfl := Option.some.inj H
      go_enter Tryd.func36, Tryd.ntmps36
      go_wp2_with (first | ((with_reducible refine gate_dst (N := 1) rfl ?_); refine box_event ?hg (N := 1) ?hd (cs := #[.int .u64 a0_0, .int .u64 a0_1]) (t := 24) ?hr ?_; (case hd => rfl); (case hg => rfl); (case hr => first | (go_simp; done) | (go_simp; rfl)); intro gb167 hg w10 hbox hb; have n0_ := Aside0.mk (below_step (by repeat (first | (with_reducible first | exact HB.out | apply below_alloc | apply pw_below_drewN | apply below_drew1) | exact HB.out)) hb); have n1_ := Aside0.mk (hbox); have n2_ := Aside0.mk ((by rw [hg]; exact (below_size (by repeat (first | (with_reducible first | exact HB.out | apply below_alloc | apply pw_below_drewN | apply below_drew1) | exact HB.out))) : w.heap.size ≤ gb167)); have n3_ := Aside0.mk ((by rw [hg]; exact (below_size (by repeat (first | (with_reducible first | exact HB.out | apply below_alloc | apply pw_below_drewN | apply below_drew1) | exact HB.out))) : w.heap.size ≤ gb167)); clear HB; have HB := n0_; have BK167 := n1_; have GW167 := n2_; have GE167 := n3_; clear n0_ n1_ n2_ n3_; clear hb hbox hg; have hcz11_0 : w10.cell? ⟨gb167, 0, none⟩ = some (.int .u64 a0_0) := (blk_cell BK167.out 0).trans rfl; have hcz11_1 : w10.cell? ⟨gb167, 1, none⟩ = some (.int .u64 a0_1) := (blk_cell BK167.out 1).trans rfl; have hfz11_0 := blk_frozen BK167.out 0; have hfz11_1 := blk_frozen BK167.out 1) | ((with_reducible refine gate_callee (f := 87) rfl ?_); refine goesL_ (some 4) rfl rfl Tryd.func87 (by kernel_rfl) rfl #[.agg #[.int .u64 a0_0, .int .u64 a0_1]] rfl (by (try simp only [List.map_toArray, List.map_cons, List.map_nil]); first | done | rfl | (simp only [List.length_drop, List.length_take]; rfl)) ?_; (with_reducible refine (bits_Set_plain.calls a0_0 a0_1 t168 t169 _ A2.out).mono ?_); rintro e w12 ⟨rfl, hb⟩; refine ⟨_, rfl, ?_⟩; have n0_ := Aside0.mk (blk_below (g := gb167) (o := .cells #[.int .u64 a0_0, .int .u64 a0_1] 24 (0, 0)) (by (with_reducible repeat (first | refine blk_drewN ?_ _ | refine blk_drew ?_ | refine blk_alloc ?_ _)); exact BK167.out) hb); have n1_ := Aside0.mk (below_step (by repeat (first | (with_reducible first | exact HB.out | apply below_alloc | apply pw_below_drewN | apply below_drew1 | refine below_set ?_ GE167.out) | exact HB.out)) hb); clear BK167; clear HB; have BK167 := n0_; have HB := n1_; clear n0_ n1_; (try clear hb); (try clear hb2); (try clear hk); (try clear hi); have hcz13_0 : w12.cell? ⟨gb167, 0, none⟩ = some (.int .u64 a0_0) := (blk_cell BK167.out 0).trans rfl; have hcz13_1 : w12.cell? ⟨gb167, 1, none⟩ = some (.int .u64 a0_1) := (blk_cell BK167.out 1).trans rfl; have hfz13_0 := blk_frozen BK167.out 0; have hfz13_1 := blk_frozen BK167.out 1) | ((with_reducible refine gate_callee (f := 92) rfl ?_); refine goesL_ (some 20) rfl rfl Tryd.func92 (by kernel_rfl) rfl #[.int .u64 t168] rfl (by (try simp only [List.map_toArray, List.map_cons, List.map_nil]); first | done | rfl | (simp only [List.length_drop, List.length_take]; rfl)) ?_; (with_reducible refine (bits_Len64.calls t168 t170 _ A9.out).mono ?_); rintro e w' ⟨rfl, ⟨nd, rfl⟩⟩; refine ⟨_, rfl, ?_⟩))
      go_ret
      exact ⟨by first | rfl | (simp [errW_none, errW_some] <;> rfl) | (simp [*, errW_none, errW_some] <;> rfl), by repeat (first | (with_reducible first | exact HB.out | apply below_alloc | apply pw_below_drewN | apply below_drew1 | refine below_set ?_ GE167.out) | exact HB.out)⟩
  · rw [if_neg c3] at H
    have c3b0 : (t169 == 0) = false := beq_eq_false_iff_ne.mpr c3
    have c3b1 : (t169 != 0) = true := bne_iff_ne.mpr c3
    replace H := Option.bind_eq_some_iff.mp H
    obtain ⟨t171, A140, H⟩ := H
    replace H : (some (wrap64 ((wrap64 (45 + t171)) - 1))) = some r := H
    have A14 := Aside0.mk A140
    clear A140
    obtain rfl := Option.some.inj H
    go_enter Tryd.func36, Tryd.ntmps36
    go_wp2_with (first | ((with_reducible refine gate_dst (N := 1) rfl ?_); refine box_event ?hg (N := 1) ?hd (cs := #[.int .u64 a0_0, .int .u64 a0_1]) (t := 24) ?hr ?_; (case hd => rfl); (case hg => rfl); (case hr => first | (go_simp; done) | (go_simp; rfl)); intro gb167 hg w15 hbox hb; have n0_ := Aside0.mk (below_step (by repeat (first | (with_reducible first | exact HB.out | apply below_alloc | apply pw_below_drewN | apply below_drew1) | exact HB.out)) hb); have n1_ := Aside0.mk (hbox); have n2_ := Aside0.mk ((by rw [hg]; exact (below_size (by repeat (first | (with_reducible first | exact HB.out | apply below_alloc | apply pw_below_drewN | apply below_drew1) | exact HB.out))) : w.heap.size ≤ gb167)); have n3_ := Aside0.mk ((by rw [hg]; exact (below_size (by repeat (first | (with_reducible first | exact HB.out | apply below_alloc | apply pw_below_drewN | apply below_drew1) | exact HB.out))) : w.heap.size ≤ gb167)); clear HB; have HB := n0_; have BK167 := n1_; have GW167 := n2_; have GE167 := n3_; clear n0_ n1_ n2_ n3_; clear hb hbox hg; have hcz16_0 : w15.cell? ⟨gb167, 0, none⟩ = some (.int .u64 a0_0) := (blk_cell BK167.out 0).trans rfl; have hcz16_1 : w15.cell? ⟨gb167, 1, none⟩ = some (.int .u64 a0_1) := (blk_cell BK167.out 1).trans rfl; have hfz16_0 := blk_frozen BK167.out 0; have hfz16_1 := blk_frozen BK167.out 1) | ((with_reducible refine gate_callee (f := 87) rfl ?_); refine goesL_ (some 4) rfl rfl Tryd.func87 (by kernel_rfl) rfl #[.agg #[.int .u64 a0_0, .int .u64 a0_1]] rfl (by (try simp only [List.map_toArray, List.map_cons, List.map_nil]); first | done | rfl | (simp only [List.length_drop, List.length_take]; rfl)) ?_; (with_reducible refine (bits_Set_plain.calls a0_0 a0_1 t168 t169 _ A2.out).mono ?_); rintro e w17 ⟨rfl, hb⟩; refine ⟨_, rfl, ?_⟩; have n0_ := Aside0.mk (blk_below (g := gb167) (o := .cells #[.int .u64 a0_0, .int .u64 a0_1] 24 (0, 0)) (by (with_reducible repeat (first | refine blk_drewN ?_ _ | refine blk_drew ?_ | refine blk_alloc ?_ _)); exact BK167.out) hb); have n1_ := Aside0.mk (below_step (by repeat (first | (with_reducible first | exact HB.out | apply below_alloc | apply pw_below_drewN | apply below_drew1 | refine below_set ?_ GE167.out) | exact HB.out)) hb); clear BK167; clear HB; have BK167 := n0_; have HB := n1_; clear n0_ n1_; (try clear hb); (try clear hb2); (try clear hk); (try clear hi); have hcz18_0 : w17.cell? ⟨gb167, 0, none⟩ = some (.int .u64 a0_0) := (blk_cell BK167.out 0).trans rfl; have hcz18_1 : w17.cell? ⟨gb167, 1, none⟩ = some (.int .u64 a0_1) := (blk_cell BK167.out 1).trans rfl; have hfz18_0 := blk_frozen BK167.out 0; have hfz18_1 := blk_frozen BK167.out 1) | ((with_reducible refine gate_callee (f := 92) rfl ?_); refine goesL_ (some 11) rfl rfl Tryd.func92 (by kernel_rfl) rfl #[.int .u64 t169] rfl (by (try simp only [List.map_toArray, List.map_cons, List.map_nil]); first | done | rfl | (simp only [List.length_drop, List.length_take]; rfl)) ?_; (with_reducible refine (bits_Len64.calls t169 t171 _ A14.out).mono ?_); rintro e w' ⟨rfl, ⟨nd, rfl⟩⟩; refine ⟨_, rfl, ?_⟩))
    go_ret
    exact ⟨by first | rfl | (simp [errW_none, errW_some] <;> rfl) | (simp [*, errW_none, errW_some] <;> rfl), by repeat (first | (with_reducible first | exact HB.out | apply below_alloc | apply pw_below_drewN | apply below_drew1 | refine below_set ?_ GE167.out) | exact HB.out)⟩

/-! ### bits_Set_Has: function 37 -/
def bits_Set_Has.f (k : Nat) (a0_0 : Int) (a0_1 : Int) (a1 : Int) : Option (Bool) := (bits_one.f k a1).bind fun bt173 => ((bits_Set_And.f a0_0 a0_1 bt173.1 bt173.2).bind fun bt175 => (some (!(bt175.1 == 0) || (!(bt175.2 == 0)))))
theorem bits_Set_Has.mono : ∀ a0 a1 a2 k, LeO (bits_Set_Has.f k a0 a1 a2) (bits_Set_Has.f (k + 1) a0 a1 a2) := by
  intro a0 a1 a2 k
  unfold bits_Set_Has.f
  repeat' first
      | (with_reducible exact bits_one.mono _ _)
      | (with_reducible exact LeO.refl _)
      | (with_reducible exact LeO.none _)
      | (with_reducible refine LeO.ite ?_ ?_)
      | (with_reducible refine LeO.bind ?_ (fun _ => ?_))
      | exact bits_one.mono _ _
      | exact LeO.none _
      | refine LeO.ite ?_ ?_
      | refine LeO.bind ?_ (fun _ => ?_)
set_option maxHeartbeats 8000000 in
set_option maxRecDepth 100000 in
theorem bits_Set_Has.calls (k : Nat) (a0_0 : Int) (a0_1 : Int) (a1 : Int) (r : Bool) (w : World) (h : bits_Set_Has.f k a0_0 a0_1 a1 = some r) :
    Calls Tryd.prog 37 #[.agg #[.int .u64 a0_0, .int .u64 a0_1], .int .i64 a1] w fun e w' => e = .returned (.bool r) ∧ Below w.heap.size w w' := by
  have hu24 := Tryd.underlying24
  have HB := Aside0.mk (Below.refl w.heap.size w)
  have H : ((bits_one.f k a1).bind fun bt173 => ((bits_Set_And.f a0_0 a0_1 bt173.1 bt173.2).bind fun bt175 => (some (!(bt175.1 == 0) || (!(bt175.2 == 0)))))) = some r := h
  clear h
  replace H := Option.bind_eq_some_iff.mp H
  obtain ⟨⟨t173, t174⟩, A30, H⟩ := H
  replace H : ((bits_Set_And.f a0_0 a0_1 t173 t174).bind fun bt175 => (some (!(bt175.1 == 0) || (!(bt175.2 == 0))))) = some r := H
  have A3 := Aside0.mk A30
  clear A30
  replace H := Option.bind_eq_some_iff.mp H
  obtain ⟨⟨t175, t176⟩, A40, H⟩ := H
  replace H : (some (!(t175 == 0) || (!(t176 == 0)))) = some r := H
  have A4 := Aside0.mk A40
  clear A40
  obtain rfl := Option.some.inj H
  go_enter Tryd.func37, Tryd.ntmps37
  try go_wp2_with (first | ((with_reducible refine gate_dst (N := 2) rfl ?_); refine box_event ?hg (N := 2) ?hd (cs := #[.int .u64 a0_0, .int .u64 a0_1]) (t := 24) ?hr ?_; (case hd => rfl); (case hg => rfl); (case hr => first | (go_simp; done) | (go_simp; rfl)); intro gb172 hg w5 hbox hb; have n0_ := Aside0.mk (below_step (by repeat (first | (with_reducible first | exact HB.out | apply below_alloc | apply pw_below_drewN | apply below_drew1) | exact HB.out)) hb); have n1_ := Aside0.mk (hbox); have n2_ := Aside0.mk ((by rw [hg]; exact (below_size (by repeat (first | (with_reducible first | exact HB.out | apply below_alloc | apply pw_below_drewN | apply below_drew1) | exact HB.out))) : w.heap.size ≤ gb172)); have n3_ := Aside0.mk ((by rw [hg]; exact (below_size (by repeat (first | (with_reducible first | exact HB.out | apply below_alloc | apply pw_below_drewN | apply below_drew1) | exact HB.out))) : w.heap.size ≤ gb172)); clear HB; have HB := n0_; have BK172 := n1_; have GW172 := n2_; have GE172 := n3_; clear n0_ n1_ n2_ n3_; clear hb hbox hg))
  have n0_ := Aside0.mk (blk_drew BK172.out)
  have n1_ := Aside0.mk (below_drew1 HB.out)
  clear BK172
  clear HB
  have BK172 := n0_
  have HB := n1_
  clear n0_ n1_
  refine start_ (n := 7) (S := fun w' => w'.cell? ⟨gb172, 0, none⟩ = some (.int .u64 a0_0) ∧ w'.cell? ⟨gb172, 1, none⟩ = some (.int .u64 a0_1)) (ds := []) #[false, false, false, false, false, false, false] (by kernel_rfl) rfl rfl ⟨(blk_cell BK172.out 0).trans rfl, (blk_cell BK172.out 1).trans rfl⟩ (fun hHeld => ?_)
  generalize w5.drew = w6 at BK172 HB hHeld ⊢
  refine pure_ (i := 1) (N := some 6) (v := ?_) (a' := ?_) #[false, true, false, false, false, false, false] rfl rfl (by kernel_rfl) (fun _ _ _ h => h) (Or.inl ⟨by rfl, ?_⟩) ?_ ?_
  rotate_left
  · intro w'
    go_simp
    with_reducible rfl
  rotate_left
  · simp only [Act.put, List.setIfInBounds_toArray, List.set_cons_zero, List.set_cons_succ, i64_w, i32_w]
    rfl
  refine pure_ (i := 4) (N := some 9) (v := ?_) (a' := ?_) #[false, true, false, false, true, false, false] rfl rfl (by kernel_rfl) (fun _ _ _ h => h) (Or.inl ⟨by rfl, ?_⟩) ?_ ?_
  rotate_left
  · intro w'
    go_simp
    with_reducible rfl
  rotate_left
  · simp only [Act.put, List.setIfInBounds_toArray, List.set_cons_zero, List.set_cons_succ, i64_w, i32_w]
    rfl
  refine take_ (i := 0) (N := some 5) (v := ?_) (a' := ?_) #[true, true, false, false, true, false, false] rfl rfl (by kernel_rfl) (fun _ _ _ h => h) (Or.inl ⟨by rfl, ?_⟩) hHeld ?_ ?_
  rotate_left
  · rintro w' ⟨s0, s1⟩
    go_simp
    with_reducible rfl
  rotate_left
  · simp only [Act.put, List.setIfInBounds_toArray, List.set_cons_zero, List.set_cons_succ, i64_w, i32_w]
    rfl
  refine one_ (i := 2) (N := some 7) #[true, true, true, false, true, false, false] rfl rfl (by kernel_rfl) (by decide) (fun K hK => ?_)
  refine goes_ Tryd.func93 (by kernel_rfl) rfl #[.int .i64 a1] (by rfl) rfl rfl (by (try simp only [List.map_toArray, List.map_cons, List.map_nil]); first | done | rfl | (simp only [List.length_drop, List.length_take]; rfl)) ?_
  with_reducible refine (bits_one.calls k a1 t173 t174 _ A3.out).mono ?_
  rintro e w7 ⟨rfl, hb⟩
  refine ⟨_, rfl, ?_⟩
  have n0_ := Aside0.mk (blk_below (g := gb172) (o := .cells #[.int .u64 a0_0, .int .u64 a0_1] 24 (0, 0)) (by (with_reducible repeat (first | refine blk_drewN ?_ _ | refine blk_drew ?_ | refine blk_alloc ?_ _)); exact BK172.out) hb)
  have n1_ := Aside0.mk (below_step (by repeat (first | (with_reducible first | exact HB.out | apply below_alloc | apply pw_below_drewN | apply below_drew1 | refine below_set ?_ GE172.out) | exact HB.out)) hb)
  clear BK172
  clear HB
  have BK172 := n0_
  have HB := n1_
  clear n0_ n1_
  (try clear hb)
  (try clear hb2)
  (try clear hk)
  (try clear hi)
  refine hK.out _ _ ⟨(blk_cell BK172.out 0).trans rfl, (blk_cell BK172.out 1).trans rfl⟩ (fun hHeld => ?_)
  clear hK K
  refine norm_ (a' := ?_) ?_ ?_
  rotate_left
  · show Act.put _ (some 7) _ = _
    simp only [Act.put, List.setIfInBounds_toArray, List.set_cons_zero, List.set_cons_succ, i64_w, i32_w]
    rfl
  refine one_ (i := 3) (N := some 8) #[true, true, true, true, true, false, false] rfl rfl (by kernel_rfl) (by decide) (fun K hK => ?_)
  refine goes_ Tryd.func26 (by kernel_rfl) rfl #[.agg #[.int .u64 a0_0, .int .u64 a0_1], .agg #[.int .u64 t173, .int .u64 t174]] (by rfl) rfl rfl (by (try simp only [List.map_toArray, List.map_cons, List.map_nil]); first | done | rfl | (simp only [List.length_drop, List.length_take]; rfl)) ?_
  with_reducible refine (bits_Set_And.calls a0_0 a0_1 t173 t174 t175 t176 _ A4.out).mono ?_
  rintro e w8 ⟨rfl, hb⟩
  refine ⟨_, rfl, ?_⟩
  have n0_ := Aside0.mk (blk_below (g := gb172) (o := .cells #[.int .u64 a0_0, .int .u64 a0_1] 24 (0, 0)) (by (with_reducible repeat (first | refine blk_drewN ?_ _ | refine blk_drew ?_ | refine blk_alloc ?_ _)); exact BK172.out) hb)
  have n1_ := Aside0.mk (below_step (by repeat (first | (with_reducible first | exact HB.out | apply below_alloc | apply pw_below_drewN | apply below_drew1 | refine below_set ?_ GE172.out) | exact HB.out)) hb)
  clear BK172
  clear HB
  have BK172 := n0_
  have HB := n1_
  clear n0_ n1_
  (try clear hb)
  (try clear hb2)
  (try clear hk)
  (try clear hi)
  refine hK.out _ _ ⟨(blk_cell BK172.out 0).trans rfl, (blk_cell BK172.out 1).trans rfl⟩ (fun hHeld => ?_)
  clear hK K
  refine norm_ (a' := ?_) ?_ ?_
  rotate_left
  · show Act.put _ (some 8) _ = _
    simp only [Act.put, List.setIfInBounds_toArray, List.set_cons_zero, List.set_cons_succ, i64_w, i32_w]
    rfl
  refine pure_ (i := 5) (N := some 10) (v := ?_) (a' := ?_) #[true, true, true, true, true, true, false] rfl rfl (by kernel_rfl) (fun _ _ _ h => h) (Or.inl ⟨by rfl, ?_⟩) ?_ ?_
  rotate_left
  · intro w'
    go_simp
    with_reducible rfl
  rotate_left
  · simp only [Act.put, List.setIfInBounds_toArray, List.set_cons_zero, List.set_cons_succ, i64_w, i32_w]
    rfl
  refine pure_ (i := 6) (N := some 4) (v := ?_) (a' := ?_) #[true, true, true, true, true, true, true] rfl rfl (by kernel_rfl) (fun _ _ _ h => h) (Or.inl ⟨by rfl, ?_⟩) ?_ ?_
  rotate_left
  · intro w'
    go_simp
    with_reducible rfl
  rotate_left
  · simp only [Act.put, List.setIfInBounds_toArray, List.set_cons_zero, List.set_cons_succ, i64_w, i32_w]
    rfl
  refine done_ (by kernel_rfl) ?_
  try go_wp2
  go_ret
  exact ⟨by first | rfl | (simp [errW_none, errW_some] <;> rfl) | (simp [*, errW_none, errW_some] <;> rfl), by repeat (first | (with_reducible first | exact HB.out | apply below_alloc | apply pw_below_drewN | apply below_drew1 | refine below_set ?_ GE172.out) | exact HB.out)⟩

end Go.Proofs.YtkbimiimgcklaaaDoor.Print

-- of YtkbimiimgcklaaaDoorPrint10
-- Written by a program of this session (wip/gprint/gprint.py) over the kit's print; the parts marked GIVEN by hand.
namespace Go.Proofs.YtkbimiimgcklaaaDoor.Print
open Go.RowKit Go.Proofs.YtkbimiimgcklaaaDoorW.PrintWords Go.Proofs.YtkbimiimgcklaaaDoorW.PrintLast Go.Proofs.YtkbimiimgcklaaaDoorW.PrintMore
attribute [local go_sem] max2_int min2_int max_two min_two max_three min_three max_four min_four   -- for this text's walks alone
set_option linter.unusedVariables false
set_option linter.unusedSimpArgs false
/-! ### bits_Set_Shift: function 41 -/
mutual
def bits_Set_Shift.j0 : Nat → Int → Bool → Int → Int → Option (Int × Int)
  | 0, _, _, _, _ => none
  | k + 1, x1, x12, x178000, x178001 => if x12 = true then (some (0, 0)) else (if x1 ≥ 45 then (bits_Set_Shift.j1 k (wrap64 (x1 - 45)) 0 x178000) else (bits_Set_Shift.j1 k x1 x178000 x178001))
def bits_Set_Shift.j1 : Nat → Int → Int → Int → Option (Int × Int)
  | 0, _, _, _ => none
  | k + 1, x1, x178000, x178001 => if x1 ≤ (-45) then (bits_Set_Shift.j2 k (wrap64 (x1 + 45)) x178001 0) else (bits_Set_Shift.j2 k x1 x178000 x178001)
def bits_Set_Shift.j2 : Nat → Int → Int → Int → Option (Int × Int)
  | 0, _, _, _ => none
  | k + 1, x1, x178000, x178001 => if x1 ≥ 0 then (if 0 ≤ x1 then (if 0 ≤ (wrap64 (45 - x1)) then ((bits_Set_plain.f (shl .u64 x178000 x1) (Go.bits .or .u64 (shl .u64 x178001 x1) (shr .u64 x178000 (wrap64 (45 - x1))))).bind fun bt181 => (some (bt181.1, bt181.2))) else (none)) else (none)) else (if 0 ≤ (wrap64 (-x1)) then (if 0 ≤ (wrap64 (45 + x1)) then ((bits_Set_plain.f (Go.bits .or .u64 (shr .u64 x178000 (wrap64 (-x1))) (shl .u64 x178001 (wrap64 (45 + x1)))) (shr .u64 x178001 (wrap64 (-x1)))).bind fun bt183 => (some (bt183.1, bt183.2))) else (none)) else (none))
end
def bits_Set_Shift.f (k : Nat) (a0_0 : Int) (a0_1 : Int) (a1 : Int) : Option (Int × Int) := (bits_Set_plain.f a0_0 a0_1).bind fun bt179 => (if a1 ≤ (-90) then (bits_Set_Shift.j0 k a1 true bt179.1 bt179.2) else (bits_Set_Shift.j0 k a1 (decide (a1 ≥ 90)) bt179.1 bt179.2))
theorem bits_Set_Shift.mono_l : ∀ k, (∀ y0 y1 y2 y3, LeO (bits_Set_Shift.j0 k y0 y1 y2 y3) (bits_Set_Shift.j0 (k + 1) y0 y1 y2 y3)) ∧ (∀ y0 y1 y2, LeO (bits_Set_Shift.j1 k y0 y1 y2) (bits_Set_Shift.j1 (k + 1) y0 y1 y2)) ∧ (∀ y0 y1 y2, LeO (bits_Set_Shift.j2 k y0 y1 y2) (bits_Set_Shift.j2 (k + 1) y0 y1 y2))
  | 0 => ⟨fun _ _ _ _ r h => by simp [bits_Set_Shift.j0] at h, fun _ _ _ r h => by simp [bits_Set_Shift.j1] at h, fun _ _ _ r h => by simp [bits_Set_Shift.j2] at h⟩
  | k + 1 => by
    obtain ⟨ih0, ih1, ih2⟩ := bits_Set_Shift.mono_l k
    refine ⟨?_, ?_, ?_⟩
    · intro y0 y1 y2 y3
      unfold bits_Set_Shift.j0
      repeat' first
      | (with_reducible exact ih0 _ _ _ _)
      | (with_reducible exact ih1 _ _ _)
      | (with_reducible exact ih2 _ _ _)
      | (with_reducible exact LeO.refl _)
      | (with_reducible exact LeO.none _)
      | (with_reducible refine LeO.ite ?_ ?_)
      | (with_reducible refine LeO.bind ?_ (fun _ => ?_))
      | exact ih0 _ _ _ _
      | exact ih1 _ _ _
      | exact ih2 _ _ _
      | exact LeO.none _
      | refine LeO.ite ?_ ?_
      | refine LeO.bind ?_ (fun _ => ?_)
    · intro y0 y1 y2
      unfold bits_Set_Shift.j1
      repeat' first
      | (with_reducible exact ih0 _ _ _ _)
      | (with_reducible exact ih1 _ _ _)
      | (with_reducible exact ih2 _ _ _)
      | (with_reducible exact LeO.refl _)
      | (with_reducible exact LeO.none _)
      | (with_reducible refine LeO.ite ?_ ?_)
      | (with_reducible refine LeO.bind ?_ (fun _ => ?_))
      | exact ih0 _ _ _ _
      | exact ih1 _ _ _
      | exact ih2 _ _ _
      | exact LeO.none _
      | refine LeO.ite ?_ ?_
      | refine LeO.bind ?_ (fun _ => ?_)
    · intro y0 y1 y2
      unfold bits_Set_Shift.j2
      repeat' first
      | (with_reducible exact ih0 _ _ _ _)
      | (with_reducible exact ih1 _ _ _)
      | (with_reducible exact ih2 _ _ _)
      | (with_reducible exact LeO.refl _)
      | (with_reducible exact LeO.none _)
      | (with_reducible refine LeO.ite ?_ ?_)
      | (with_reducible refine LeO.bind ?_ (fun _ => ?_))
      | exact ih0 _ _ _ _
      | exact ih1 _ _ _
      | exact ih2 _ _ _
      | exact LeO.none _
      | refine LeO.ite ?_ ?_
      | refine LeO.bind ?_ (fun _ => ?_)
theorem bits_Set_Shift.mono : ∀ a0 a1 a2 k, LeO (bits_Set_Shift.f k a0 a1 a2) (bits_Set_Shift.f (k + 1) a0 a1 a2) := by
  intro a0 a1 a2 k
  obtain ⟨ih0, ih1, ih2⟩ := bits_Set_Shift.mono_l k
  unfold bits_Set_Shift.f
  repeat' first
      | (with_reducible exact ih0 _ _ _ _)
      | (with_reducible exact ih1 _ _ _)
      | (with_reducible exact ih2 _ _ _)
      | (with_reducible exact LeO.refl _)
      | (with_reducible exact LeO.none _)
      | (with_reducible refine LeO.ite ?_ ?_)
      | (with_reducible refine LeO.bind ?_ (fun _ => ?_))
      | exact ih0 _ _ _ _
      | exact ih1 _ _ _
      | exact ih2 _ _ _
      | exact LeO.none _
      | refine LeO.ite ?_ ?_
      | refine LeO.bind ?_ (fun _ => ?_)
def bits_Set_Shift.T9 : Bool × List (List Nat × List Nat) := (true, [([], []), ([0], [0]), ([], []), ([1, 2], [1, 2]), ([], []), ([4], [4]), ([], []), ([5, 6], [5, 6]), ([], []), ([8], [8]), ([], []), ([10], [10]), ([9, 11], [9, 11]), ([7, 12], [7, 12]), ([3, 13], [3, 13]), ([14], [14]), ([15, 15, 0, 1, 2, 3, 4, 5, 6, 7, 8, 9, 10, 11, 12, 13, 14, 15], [15])])
def bits_Set_Shift.B9 : List Nat := [0, 1, 0, 7, 0, 16, 0, 112, 0, 256, 0, 1024, 3840, 8176, 16383, 32767, 65535]
theorem bits_Set_Shift.tab9 : rtab .any (opsOf Tryd.f41 9) = bits_Set_Shift.T9 := by kernel_rfl
theorem bits_Set_Shift.bits9 : waitsOk bits_Set_Shift.T9.2 bits_Set_Shift.B9 = true := by kernel_rfl
def bits_Set_Shift.T10 : Bool × List (List Nat × List Nat) := (true, [([], []), ([0], [0]), ([], []), ([2], [2]), ([1, 3], [1, 3]), ([], []), ([5], [5]), ([], []), ([7], [7]), ([6, 8], [6, 8]), ([4, 9], [4, 9]), ([], []), ([11], [11]), ([], []), ([13], [13]), ([12, 14], [12, 14]), ([10, 15], [10, 15]), ([16], [16]), ([17, 17, 0, 1, 2, 3, 4, 5, 6, 7, 8, 9, 10, 11, 12, 13, 14, 15, 16, 17], [17])])
def bits_Set_Shift.B10 : List Nat := [0, 1, 0, 4, 15, 0, 32, 0, 128, 480, 1023, 0, 2048, 0, 8192, 30720, 65535, 131071, 262143]
theorem bits_Set_Shift.tab10 : rtab .any (opsOf Tryd.f41 10) = bits_Set_Shift.T10 := by kernel_rfl
theorem bits_Set_Shift.bits10 : waitsOk bits_Set_Shift.T10.2 bits_Set_Shift.B10 = true := by kernel_rfl
set_option maxHeartbeats 8000000 in
set_option maxRecDepth 100000 in
theorem bits_Set_Shift.calls (k : Nat) (a0_0 : Int) (a0_1 : Int) (a1 : Int) (r1 : Int) (r2 : Int) (w : World) (h : bits_Set_Shift.f k a0_0 a0_1 a1 = some (r1, r2)) :
    Calls Tryd.prog 41 #[.agg #[.int .u64 a0_0, .int .u64 a0_1], .int .i64 a1] w fun e w' => e = .returned (.agg #[.int .u64 r1, .int .u64 r2]) ∧ Below w.heap.size w w' := by
  have hu24 := Tryd.underlying24
  have HB := Aside0.mk (Below.refl w.heap.size w)
  have H : ((bits_Set_plain.f a0_0 a0_1).bind fun bt179 => (if a1 ≤ (-90) then (bits_Set_Shift.j0 k a1 true bt179.1 bt179.2) else (bits_Set_Shift.j0 k a1 (decide (a1 ≥ 90)) bt179.1 bt179.2))) = some (r1, r2) := h
  clear h
  replace H := Option.bind_eq_some_iff.mp H
  obtain ⟨⟨t179, t180⟩, A30, H⟩ := H
  replace H : (if a1 ≤ (-90) then (bits_Set_Shift.j0 k a1 true t179 t180) else (bits_Set_Shift.j0 k a1 (decide (a1 ≥ 90)) t179 t180)) = some (r1, r2) := H
  have A3 := Aside0.mk A30
  clear A30
  have HC4 := Aside0.mk H
  clear H
  go_enter Tryd.func41, Tryd.ntmps41
  go_upto_region 2 with (first | ((with_reducible refine gate_dst (N := 2) rfl ?_); refine box_event ?hg (N := 2) ?hd (cs := #[.int .u64 a0_0, .int .u64 a0_1]) (t := 24) ?hr ?_; (case hd => rfl); (case hg => rfl); (case hr => first | (go_simp; done) | (go_simp; rfl)); intro gb177 hg w5 hbox hb; have n0_ := Aside0.mk (below_step (by repeat (first | (with_reducible first | exact HB.out | apply below_alloc | apply pw_below_drewN | apply below_drew1) | exact HB.out)) hb); have n1_ := Aside0.mk (hbox); have n2_ := Aside0.mk ((by rw [hg]; exact (below_size (by repeat (first | (with_reducible first | exact HB.out | apply below_alloc | apply pw_below_drewN | apply below_drew1) | exact HB.out))) : w.heap.size ≤ gb177)); have n3_ := Aside0.mk ((by rw [hg]; exact (below_size (by repeat (first | (with_reducible first | exact HB.out | apply below_alloc | apply pw_below_drewN | apply below_drew1) | exact HB.out))) : w.heap.size ≤ gb177)); clear HB; have HB := n0_; have BK177 := n1_; have GW177 := n2_; have GE177 := n3_; clear n0_ n1_ n2_ n3_; clear hb hbox hg) | ((with_reducible refine gate_dst (N := 4) rfl ?_); refine box_event ?hg (N := 4) ?hd (cs := #[.int .u64 0, .int .u64 0]) (t := 24) ?hr ?_; (case hd => rfl); (case hg => rfl); (case hr => first | (go_simp; done) | (go_simp; rfl)); intro gb178 hg w6 hbox hb; have n0_ := Aside0.mk (blk_below (g := gb177) (o := .cells #[.int .u64 a0_0, .int .u64 a0_1] 24 (0, 0)) (by (with_reducible repeat (first | refine blk_drewN ?_ _ | refine blk_drew ?_ | refine blk_alloc ?_ _)); exact BK177.out) hb); have n1_ := Aside0.mk (below_step (by repeat (first | (with_reducible first | exact HB.out | apply below_alloc | apply pw_below_drewN | apply below_drew1 | refine below_set ?_ GE177.out) | exact HB.out)) hb); have n2_ := Aside0.mk (hbox); have n3_ := Aside0.mk ((by rw [hg]; exact (below_size (by repeat (first | (with_reducible first | exact HB.out | apply below_alloc | apply pw_below_drewN | apply below_drew1 | refine below_set ?_ GE177.out) | exact HB.out))) : w.heap.size ≤ gb178)); have n4_ := Aside0.mk ((by rw [hg]; exact (below_size (by repeat (first | (with_reducible first | exact HB.out | apply below_alloc | apply pw_below_drewN | apply below_drew1 | refine below_set ?_ GE177.out) | exact HB.out))) : w.heap.size ≤ gb178)); have n5_ := Aside0.mk ((by rw [hg]; exact Nat.ne_of_lt (blk_lt (g := gb177) (o := .cells #[.int .u64 a0_0, .int .u64 a0_1] 24 (0, 0)) (by (with_reducible repeat (first | refine blk_drewN ?_ _ | refine blk_drew ?_ | refine blk_alloc ?_ _)); exact BK177.out)) : gb177 ≠ gb178)); have n6_ := Aside0.mk ((by rw [hg]; exact Nat.ne_of_gt (blk_lt (g := gb177) (o := .cells #[.int .u64 a0_0, .int .u64 a0_1] 24 (0, 0)) (by (with_reducible repeat (first | refine blk_drewN ?_ _ | refine blk_drew ?_ | refine blk_alloc ?_ _)); exact BK177.out)) : gb178 ≠ gb177)); clear BK177; clear HB; have BK177 := n0_; have HB := n1_; have BK178 := n2_; have GW178 := n3_; have GE178 := n4_; have NB177_178 := n5_; have NB178_177 := n6_; clear n0_ n1_ n2_ n3_ n4_ n5_ n6_; clear hb hbox hg; have hnb7 := NB177_178.out; have hnc7 := NB178_177.out; have hcz8_0 : w6.cell? ⟨gb177, 0, none⟩ = some (.int .u64 a0_0) := (blk_cell BK177.out 0).trans rfl; have hcz8_1 : w6.cell? ⟨gb177, 1, none⟩ = some (.int .u64 a0_1) := (blk_cell BK177.out 1).trans rfl; have hfz8_0 := blk_frozen BK177.out 0; have hfz8_1 := blk_frozen BK177.out 1) | ((with_reducible refine gate_callee (f := 87) rfl ?_); refine goesL_ (some 6) rfl rfl Tryd.func87 (by kernel_rfl) rfl #[.agg #[.int .u64 a0_0, .int .u64 a0_1]] rfl (by (try simp only [List.map_toArray, List.map_cons, List.map_nil]); first | done | rfl | (simp only [List.length_drop, List.length_take]; rfl)) ?_; (with_reducible refine (bits_Set_plain.calls a0_0 a0_1 t179 t180 _ A3.out).mono ?_); rintro e w9 ⟨rfl, hb⟩; refine ⟨_, rfl, ?_⟩; have n0_ := Aside0.mk (blk_below (g := gb177) (o := .cells #[.int .u64 a0_0, .int .u64 a0_1] 24 (0, 0)) (by (with_reducible repeat (first | refine blk_drewN ?_ _ | refine blk_drew ?_ | refine blk_alloc ?_ _)); exact BK177.out) hb); have n1_ := Aside0.mk (blk_below (g := gb178) (o := .cells #[.int .u64 0, .int .u64 0] 24 (0, 0)) (by (with_reducible repeat (first | refine blk_drewN ?_ _ | refine blk_drew ?_ | refine blk_alloc ?_ _)); exact BK178.out) hb); have n2_ := Aside0.mk (below_step (by repeat (first | (with_reducible first | exact HB.out | apply below_alloc | apply pw_below_drewN | apply below_drew1 | refine below_set ?_ GE177.out | refine below_set ?_ GE178.out) | exact HB.out)) hb); clear BK177; clear BK178; clear HB; have BK177 := n0_; have BK178 := n1_; have HB := n2_; clear n0_ n1_ n2_; (try clear hb); (try clear hb2); (try clear hk); (try clear hi); have hcz10_0 : w9.cell? ⟨gb177, 0, none⟩ = some (.int .u64 a0_0) := (blk_cell BK177.out 0).trans rfl; have hcz10_1 : w9.cell? ⟨gb177, 1, none⟩ = some (.int .u64 a0_1) := (blk_cell BK177.out 1).trans rfl; have hfz10_0 := blk_frozen BK177.out 0; have hfz10_1 := blk_frozen BK177.out 1))
  (try simp only [Act.put, List.setIfInBounds_toArray, List.set_cons_zero, List.set_cons_succ])
  go_cut [12] (fun v12 wc => ∃ (kq : Nat) (x12_3 : Bool), v12 = .bool x12_3 ∧ Aside0 (bits_Set_Shift.j0 kq a1 x12_3 t179 t180 = some (r1, r2)) ∧ Aside0 (kq ≤ k) ∧ Aside0 (wc.heap[gb177]? = some (.cells #[.int .u64 t179, .int .u64 t180] 24 (0, 0))) ∧ Aside0 (wc.heap[gb178]? = some (.cells #[.int .u64 0, .int .u64 0] 24 (0, 0))) ∧ Aside0 (Below w.heap.size w wc))
  case first =>
    have H := HC4.out
    clear HC4
    by_cases c11 : a1 ≤ (-90)
    · rw [if_pos c11] at H
      have c11b0 : decide (a1 ≤ (-90)) = true := decide_eq_true c11
      clear c11
      (first | rw [c11b0] | (simp only [i64_w, i32_w]; rw [c11b0]) | skip)
      have H' := Aside0.mk H
      clear H
      go_wp2
      go_meet
      case rel => exact ⟨_, (true), (by first | rfl | (simp; done) | (simp [*]; done)), H', ⟨by first | omega | exact Nat.le_refl _⟩, ⟨by (with_reducible repeat (first | refine blk_drewN ?_ _ | refine blk_drew ?_ | refine blk_alloc ?_ _)); refine blk_put (cs := #[.int .u64 t179, .int .u64 a0_1]) ?_ 1 _ rfl; (with_reducible repeat (first | refine blk_drewN ?_ _ | refine blk_drew ?_ | refine blk_alloc ?_ _)); refine blk_put (cs := #[.int .u64 a0_0, .int .u64 a0_1]) ?_ 0 _ rfl; (with_reducible repeat (first | refine blk_drewN ?_ _ | refine blk_drew ?_ | refine blk_alloc ?_ _)); exact BK177.out⟩, ⟨by (with_reducible repeat (first | refine blk_drewN ?_ _ | refine blk_drew ?_ | refine blk_alloc ?_ _)); refine blk_far ?_ NB178_177.out _; (with_reducible repeat (first | refine blk_drewN ?_ _ | refine blk_drew ?_ | refine blk_alloc ?_ _)); refine blk_far ?_ NB178_177.out _; (with_reducible repeat (first | refine blk_drewN ?_ _ | refine blk_drew ?_ | refine blk_alloc ?_ _)); exact BK178.out⟩, ⟨by repeat (first | (with_reducible first | exact HB.out | apply below_alloc | apply pw_below_drewN | apply below_drew1 | refine below_set ?_ GE177.out | refine below_set ?_ GE178.out) | exact HB.out)⟩⟩
    · rw [if_neg c11] at H
      have c11b0 : decide (a1 ≤ (-90)) = false := decide_eq_false c11
      clear c11
      (first | rw [c11b0] | (simp only [i64_w, i32_w]; rw [c11b0]) | skip)
      have H' := Aside0.mk H
      clear H
      go_wp2
      go_meet
      case rel => exact ⟨_, (decide (a1 ≥ 90)), (by first | rfl | (simp; done) | (simp [*]; done)), H', ⟨by first | omega | exact Nat.le_refl _⟩, ⟨by (with_reducible repeat (first | refine blk_drewN ?_ _ | refine blk_drew ?_ | refine blk_alloc ?_ _)); refine blk_put (cs := #[.int .u64 t179, .int .u64 a0_1]) ?_ 1 _ rfl; (with_reducible repeat (first | refine blk_drewN ?_ _ | refine blk_drew ?_ | refine blk_alloc ?_ _)); refine blk_put (cs := #[.int .u64 a0_0, .int .u64 a0_1]) ?_ 0 _ rfl; (with_reducible repeat (first | refine blk_drewN ?_ _ | refine blk_drew ?_ | refine blk_alloc ?_ _)); exact BK177.out⟩, ⟨by (with_reducible repeat (first | refine blk_drewN ?_ _ | refine blk_drew ?_ | refine blk_alloc ?_ _)); refine blk_far ?_ NB178_177.out _; (with_reducible repeat (first | refine blk_drewN ?_ _ | refine blk_drew ?_ | refine blk_alloc ?_ _)); refine blk_far ?_ NB178_177.out _; (with_reducible repeat (first | refine blk_drewN ?_ _ | refine blk_drew ?_ | refine blk_alloc ?_ _)); exact BK178.out⟩, ⟨by repeat (first | (with_reducible first | exact HB.out | apply below_alloc | apply pw_below_drewN | apply below_drew1 | refine below_set ?_ GE177.out | refine below_set ?_ GE178.out) | exact HB.out)⟩⟩
  case rest =>
    clear HC4
    try clear c1
    try clear p2
    try clear c4
    try clear c7
    try clear c8
    try clear c11
    try clear c11b0
    try clear hcz10_0
    try clear hcz10_1
    try clear hcz8_0
    try clear hcz8_1
    try clear hfz10_0
    try clear hfz10_1
    try clear hfz8_0
    try clear hfz8_1
    obtain ⟨kq, x12_3, rfl, HA, HJ3, BK177, BK178, HB⟩ := hcut
    cases kq with
    | zero => exact absurd HA.out (by simp [bits_Set_Shift.j0])
    | succ kj3 =>
      have H := HA.out
      clear HA
      simp only [bits_Set_Shift.j0] at H
      by_cases c12 : x12_3 = true
      · subst c12
        have H1 : (some (0, 0)) = some (r1, r2) := by rw [if_pos rfl] at H; exact H
        clear H
        have H := H1
        clear H1
        simp only [Option.some.injEq, Prod.mk.injEq] at H
        obtain ⟨rfl, rfl⟩ := H
        have hnb13 := NB178_177.out
        have hnc13 := NB177_178.out
        have hcz14_0 : wc.cell? ⟨gb178, 0, none⟩ = some (.int .u64 0) := (blk_cell BK178.out 0).trans rfl
        have hcz14_1 : wc.cell? ⟨gb178, 1, none⟩ = some (.int .u64 0) := (blk_cell BK178.out 1).trans rfl
        have hfz14_0 := blk_frozen BK178.out 0
        have hfz14_1 := blk_frozen BK178.out 1
        go_wp2
        refine bodyPost_ret (results_cell_row rfl _ _ gb178 24 #[.int .u64 0, .int .u64 0] (0, 0) _ rfl (by (with_reducible repeat (first | refine blk_drewN ?_ _ | refine blk_drew ?_ | refine blk_alloc ?_ _)); refine blk_put (cs := #[.int .u64 0, .int .u64 0]) ?_ 1 _ rfl; (with_reducible repeat (first | refine blk_drewN ?_ _ | refine blk_drew ?_ | refine blk_alloc ?_ _)); refine blk_put (cs := #[.int .u64 0, .int .u64 0]) ?_ 0 _ rfl; (with_reducible repeat (first | refine blk_drewN ?_ _ | refine blk_drew ?_ | refine blk_alloc ?_ _)); exact BK178.out) Tryd.underlying24 rfl (by kernel_rfl)) rfl ?_
        exact ⟨by first | rfl | (simp [errW_none, errW_some] <;> rfl) | (simp [*, errW_none, errW_some] <;> rfl), by repeat (first | (with_reducible first | exact HB.out | apply below_alloc | apply pw_below_drewN | apply below_drew1 | refine below_set ?_ GE177.out | refine below_set ?_ GE178.out) | exact HB.out)⟩
      · replace c12 := Bool.eq_false_iff.mpr c12
        subst c12
        have H1 : (if a1 ≥ 45 then (bits_Set_Shift.j1 kj3 (wrap64 (a1 - 45)) 0 t179) else (bits_Set_Shift.j1 kj3 a1 t179 t180)) = some (r1, r2) := by rw [if_neg (show ¬ (false = true) by decide)] at H; exact H
        clear H
        have H := H1
        clear H1
        have HC15 := Aside0.mk H
        clear H
        go_upto_if 15 with (fail)
        go_cut [1] (fun v1 wc => ∃ (kq : Nat) (x1_14 : Int) (x178000_14 : Int) (x178001_14 : Int), v1 = .int .i64 x1_14 ∧ Aside0 (bits_Set_Shift.j1 kq x1_14 x178000_14 x178001_14 = some (r1, r2)) ∧ Aside0 (kq ≤ kj3) ∧ Aside0 (wc.heap[gb177]? = some (.cells #[.int .u64 x178000_14, .int .u64 x178001_14] 24 (0, 0))) ∧ Aside0 (wc.heap[gb178]? = some (.cells #[.int .u64 0, .int .u64 0] 24 (0, 0))) ∧ Aside0 (Below w.heap.size w wc))
        case first =>
          have H := HC15.out
          clear HC15
          by_cases c16 : a1 ≥ 45
          · rw [if_pos c16] at H
            have c16b0 : decide (45 ≤ a1) = true := decide_eq_true c16
            clear c16
            (first | rw [c16b0] | (simp only [i64_w, i32_w]; rw [c16b0]) | skip)
            have H' := Aside0.mk H
            clear H
            have hnb17 := NB177_178.out
            have hnc17 := NB178_177.out
            have hcz18_0 : wc.cell? ⟨gb177, 0, none⟩ = some (.int .u64 t179) := (blk_cell BK177.out 0).trans rfl
            have hcz18_1 : wc.cell? ⟨gb177, 1, none⟩ = some (.int .u64 t180) := (blk_cell BK177.out 1).trans rfl
            have hfz18_0 := blk_frozen BK177.out 0
            have hfz18_1 := blk_frozen BK177.out 1
            go_wp2
            go_meet
            case rel => exact ⟨_, (wrap64 (a1 - 45)), (0), (t179), (by first | rfl | (simp; done) | (simp [*]; done)), H', ⟨by have := HJ3.out; first | omega | exact Nat.le_refl _⟩, ⟨by (with_reducible repeat (first | refine blk_drewN ?_ _ | refine blk_drew ?_ | refine blk_alloc ?_ _)); refine blk_put (cs := #[.int .u64 0, .int .u64 t180]) ?_ 1 _ rfl; (with_reducible repeat (first | refine blk_drewN ?_ _ | refine blk_drew ?_ | refine blk_alloc ?_ _)); refine blk_put (cs := #[.int .u64 t179, .int .u64 t180]) ?_ 0 _ rfl; (with_reducible repeat (first | refine blk_drewN ?_ _ | refine blk_drew ?_ | refine blk_alloc ?_ _)); exact BK177.out⟩, ⟨by (with_reducible repeat (first | refine blk_drewN ?_ _ | refine blk_drew ?_ | refine blk_alloc ?_ _)); refine blk_far ?_ NB178_177.out _; (with_reducible repeat (first | refine blk_drewN ?_ _ | refine blk_drew ?_ | refine blk_alloc ?_ _)); refine blk_far ?_ NB178_177.out _; (with_reducible repeat (first | refine blk_drewN ?_ _ | refine blk_drew ?_ | refine blk_alloc ?_ _)); exact BK178.out⟩, ⟨by repeat (first | (with_reducible first | exact HB.out | apply below_alloc | apply pw_below_drewN | apply below_drew1 | refine below_set ?_ GE177.out | refine below_set ?_ GE178.out) | exact HB.out)⟩⟩
          · rw [if_neg c16] at H
            have c16b0 : decide (45 ≤ a1) = false := decide_eq_false c16
            clear c16
            (first | rw [c16b0] | (simp only [i64_w, i32_w]; rw [c16b0]) | skip)
            have H' := Aside0.mk H
            clear H
            go_wp2
            go_meet
            case rel => exact ⟨_, (a1), (t179), (t180), (by first | rfl | (simp; done) | (simp [*]; done)), H', ⟨by have := HJ3.out; first | omega | exact Nat.le_refl _⟩, ⟨by (with_reducible repeat (first | refine blk_drewN ?_ _ | refine blk_drew ?_ | refine blk_alloc ?_ _)); exact BK177.out⟩, ⟨by (with_reducible repeat (first | refine blk_drewN ?_ _ | refine blk_drew ?_ | refine blk_alloc ?_ _)); exact BK178.out⟩, ⟨by repeat (first | (with_reducible first | exact HB.out | apply below_alloc | apply pw_below_drewN | apply below_drew1 | refine below_set ?_ GE177.out | refine below_set ?_ GE178.out) | exact HB.out)⟩⟩
        case rest =>
          clear HC15
          try clear c1
          try clear p2
          try clear c4
          try clear p6
          try clear c7
          try clear c8
          try clear c11
          try clear c11b0
          try clear c12
          try clear c13
          try clear c16
          try clear c16b0
          try clear c17
          try clear hcz10_0
          try clear hcz10_1
          try clear hcz14_0
          try clear hcz14_1
          try clear hcz18_0
          try clear hcz18_1
          try clear hcz8_0
          try clear hcz8_1
          try clear hfz10_0
          try clear hfz10_1
          try clear hfz14_0
          try clear hfz14_1
          try clear hfz18_0
          try clear hfz18_1
          try clear hfz8_0
          try clear hfz8_1
          try clear p2
          obtain ⟨kq, x1_14, x178000_14, x178001_14, rfl, HA, HJ14, BK177, BK178, HB⟩ := hcut
          cases kq with
          | zero => exact absurd HA.out (by simp [bits_Set_Shift.j1])
          | succ kj14 =>
            have H := HA.out
            clear HA
            simp only [bits_Set_Shift.j1] at H
            have HC19 := Aside0.mk H
            clear H
            go_upto_if 22 with (fail)
            go_cut [1] (fun v1 wc => ∃ (kq : Nat) (x1_18 : Int) (x178000_18 : Int) (x178001_18 : Int), v1 = .int .i64 x1_18 ∧ Aside0 (bits_Set_Shift.j2 kq x1_18 x178000_18 x178001_18 = some (r1, r2)) ∧ Aside0 (kq ≤ kj14) ∧ Aside0 (wc.heap[gb177]? = some (.cells #[.int .u64 x178000_18, .int .u64 x178001_18] 24 (0, 0))) ∧ Aside0 (wc.heap[gb178]? = some (.cells #[.int .u64 0, .int .u64 0] 24 (0, 0))) ∧ Aside0 (Below w.heap.size w wc))
            case first =>
              have H := HC19.out
              clear HC19
              by_cases c20 : x1_14 ≤ (-45)
              · rw [if_pos c20] at H
                have c20b0 : decide (x1_14 ≤ (-45)) = true := decide_eq_true c20
                clear c20
                (first | rw [c20b0] | (simp only [i64_w, i32_w]; rw [c20b0]) | skip)
                have H' := Aside0.mk H
                clear H
                have hnb21 := NB177_178.out
                have hnc21 := NB178_177.out
                have hcz22_0 : wc.cell? ⟨gb177, 0, none⟩ = some (.int .u64 x178000_14) := (blk_cell BK177.out 0).trans rfl
                have hcz22_1 : wc.cell? ⟨gb177, 1, none⟩ = some (.int .u64 x178001_14) := (blk_cell BK177.out 1).trans rfl
                have hfz22_0 := blk_frozen BK177.out 0
                have hfz22_1 := blk_frozen BK177.out 1
                go_wp2
                go_meet
                case rel => exact ⟨_, (wrap64 (x1_14 + 45)), (x178001_14), (0), (by first | rfl | (simp; done) | (simp [*]; done)), H', ⟨by have := HJ3.out; have := HJ14.out; first | omega | exact Nat.le_refl _⟩, ⟨by (with_reducible repeat (first | refine blk_drewN ?_ _ | refine blk_drew ?_ | refine blk_alloc ?_ _)); refine blk_put (cs := #[.int .u64 x178001_14, .int .u64 x178001_14]) ?_ 1 _ rfl; (with_reducible repeat (first | refine blk_drewN ?_ _ | refine blk_drew ?_ | refine blk_alloc ?_ _)); refine blk_put (cs := #[.int .u64 x178000_14, .int .u64 x178001_14]) ?_ 0 _ rfl; (with_reducible repeat (first | refine blk_drewN ?_ _ | refine blk_drew ?_ | refine blk_alloc ?_ _)); exact BK177.out⟩, ⟨by (with_reducible repeat (first | refine blk_drewN ?_ _ | refine blk_drew ?_ | refine blk_alloc ?_ _)); refine blk_far ?_ NB178_177.out _; (with_reducible repeat (first | refine blk_drewN ?_ _ | refine blk_drew ?_ | refine blk_alloc ?_ _)); refine blk_far ?_ NB178_177.out _; (with_reducible repeat (first | refine blk_drewN ?_ _ | refine blk_drew ?_ | refine blk_alloc ?_ _)); exact BK178.out⟩, ⟨by repeat (first | (with_reducible first | exact HB.out | apply below_alloc | apply pw_below_drewN | apply below_drew1 | refine below_set ?_ GE177.out | refine below_set ?_ GE178.out) | exact HB.out)⟩⟩
              · rw [if_neg c20] at H
                have c20b0 : decide (x1_14 ≤ (-45)) = false := decide_eq_false c20
                clear c20
                (first | rw [c20b0] | (simp only [i64_w, i32_w]; rw [c20b0]) | skip)
                have H' := Aside0.mk H
                clear H
                go_wp2
                go_meet
                case rel => exact ⟨_, (x1_14), (x178000_14), (x178001_14), (by first | rfl | (simp; done) | (simp [*]; done)), H', ⟨by have := HJ3.out; have := HJ14.out; first | omega | exact Nat.le_refl _⟩, ⟨by (with_reducible repeat (first | refine blk_drewN ?_ _ | refine blk_drew ?_ | refine blk_alloc ?_ _)); exact BK177.out⟩, ⟨by (with_reducible repeat (first | refine blk_drewN ?_ _ | refine blk_drew ?_ | refine blk_alloc ?_ _)); exact BK178.out⟩, ⟨by repeat (first | (with_reducible first | exact HB.out | apply below_alloc | apply pw_below_drewN | apply below_drew1 | refine below_set ?_ GE177.out | refine below_set ?_ GE178.out) | exact HB.out)⟩⟩
            case rest =>
              clear HC19
              try clear c1
              try clear c2
              try clear p2
              try clear c4
              try clear p6
              try clear c7
              try clear c8
              try clear c11
              try clear c11b0
              try clear c12
              try clear c13
              try clear c16
              try clear c16b0
              try clear c17
              try clear c20
              try clear c20b0
              try clear c21
              try clear hcz10_0
              try clear hcz10_1
              try clear hcz14_0
              try clear hcz14_1
              try clear hcz18_0
              try clear hcz18_1
              try clear hcz22_0
              try clear hcz22_1
              try clear hcz8_0
              try clear hcz8_1
              try clear hfz10_0
              try clear hfz10_1
              try clear hfz14_0
              try clear hfz14_1
              try clear hfz18_0
              try clear hfz18_1
              try clear hfz22_0
              try clear hfz22_1
              try clear hfz8_0
              try clear hfz8_1
              try clear p2
              try clear p6
              obtain ⟨kq, x1_18, x178000_18, x178001_18, rfl, HA, HJ18, BK177, BK178, HB⟩ := hcut
              cases kq with
              | zero => exact absurd HA.out (by simp [bits_Set_Shift.j2])
              | succ kj18 =>
                have H := HA.out
                clear HA
                simp only [bits_Set_Shift.j2] at H
                by_cases c23 : x1_18 ≥ 0
                · rw [if_pos c23] at H
                  have c23b0 : decide (0 ≤ x1_18) = true := decide_eq_true c23
                  clear c23
                  by_cases c24 : 0 ≤ x1_18
                  · rw [if_pos c24] at H
                    have c24b0 := eq_true c24
                    have c24b1 : decide (0 ≤ x1_18) = true := decide_eq_true c24
                    clear c24
                    obtain ⟨ji25, hji25⟩ : ∃ j_ : Int, (shl .u64 x178000_18 x1_18) = j_ := ⟨_, rfl⟩
                    replace H : (if 0 ≤ (wrap64 (45 - x1_18)) then ((bits_Set_plain.f (ji25) (Go.bits .or .u64 (shl .u64 x178001_18 x1_18) (shr .u64 x178000_18 (wrap64 (45 - x1_18))))).bind fun bt181 => (some (bt181.1, bt181.2))) else (none)) = some (r1, r2) := by first | (rw [hji25] at H; exact H) | (simp only [hji25] at H ⊢; exact H)
                    have hji25_ : (IntKind.u64.wrap (x178000_18 * 2 ^ min x1_18.toNat 64)) = ji25 := hji25
                    have hji25z : x1_18 ≤ 64 → (IntKind.u64.wrap (x178000_18 * 2 ^ x1_18.toNat)) = ji25 := shl_small hji25
                    have c26b0 := eq_true (of_decide_eq_true (by first | (with_reducible assumption) | assumption) : 0 ≤ x1_18)
                    obtain ⟨ji27, hji27⟩ : ∃ j_ : Int, (shl .u64 x178001_18 x1_18) = j_ := ⟨_, rfl⟩
                    replace H : (if 0 ≤ (wrap64 (45 - x1_18)) then ((bits_Set_plain.f (ji25) (Go.bits .or .u64 (ji27) (shr .u64 x178000_18 (wrap64 (45 - x1_18))))).bind fun bt181 => (some (bt181.1, bt181.2))) else (none)) = some (r1, r2) := by first | (rw [hji27] at H; exact H) | (simp only [hji27] at H ⊢; exact H)
                    have hji27_ : (IntKind.u64.wrap (x178001_18 * 2 ^ min x1_18.toNat 64)) = ji27 := hji27
                    have hji27z : x1_18 ≤ 64 → (IntKind.u64.wrap (x178001_18 * 2 ^ x1_18.toNat)) = ji27 := shl_small hji27
                    obtain ⟨ji28, hji28⟩ : ∃ j_ : Int, (wrap64 (45 - x1_18)) = j_ := ⟨_, rfl⟩
                    replace H : (if 0 ≤ (ji28) then ((bits_Set_plain.f (ji25) (Go.bits .or .u64 (ji27) (shr .u64 x178000_18 (ji28)))).bind fun bt181 => (some (bt181.1, bt181.2))) else (none)) = some (r1, r2) := by first | (rw [hji28] at H; exact H) | (simp only [hji28] at H ⊢; exact H)
                    have hji28w : (IntKind.i64.wrap (45 - x1_18)) = ji28 := (i64_w _).trans hji28
                    by_cases c29 : 0 ≤ (ji28)
                    · rw [if_pos c29] at H
                      have c29b0 := eq_true c29
                      have c29b1 : decide (0 ≤ (ji28)) = true := decide_eq_true c29
                      clear c29
                      obtain ⟨ji30, hji30⟩ : ∃ j_ : Int, (shr .u64 x178000_18 (ji28)) = j_ := ⟨_, rfl⟩
                      replace H : ((bits_Set_plain.f (ji25) (Go.bits .or .u64 (ji27) (ji30))).bind fun bt181 => (some (bt181.1, bt181.2))) = some (r1, r2) := by first | (rw [hji30] at H; exact H) | (simp only [hji30] at H ⊢; exact H)
                      have hji30_ : (x178000_18 / 2 ^ min (ji28).toNat 64) = ji30 := hji30
                      have hji30z : (ji28) ≤ 64 → (x178000_18 / 2 ^ (ji28).toNat) = ji30 := shr_small hji30
                      replace H := Option.bind_eq_some_iff.mp H
                      obtain ⟨⟨t181, t182⟩, A310, H⟩ := H
                      replace H : (some (t181, t182)) = some (r1, r2) := H
                      have A31 := Aside0.mk A310
                      clear A310
                      simp only [Option.some.injEq, Prod.mk.injEq] at H
                      obtain ⟨rfl, rfl⟩ := H
                      try go_wp2
                      have n0_ := Aside0.mk (blk_drew BK177.out)
                      have n1_ := Aside0.mk (blk_drew BK178.out)
                      have n2_ := Aside0.mk (below_drew1 HB.out)
                      clear BK177
                      clear BK178
                      clear HB
                      have BK177 := n0_
                      have BK178 := n1_
                      have HB := n2_
                      clear n0_ n1_ n2_
                      refine start_ (n := 17) (S := fun w' => w'.cell? ⟨gb177, 0, none⟩ = some (.int .u64 x178000_18) ∧ w'.cell? ⟨gb177, 1, none⟩ = some (.int .u64 x178001_18)) (ds := []) #[false, false, false, false, false, false, false, false, false, false, false, false, false, false, false, false, false] (by kernel_rfl) rfl rfl ⟨(blk_cell BK177.out 0).trans rfl, (blk_cell BK177.out 1).trans rfl⟩ (fun hHeld => ?_); refine with_tabW bits_Set_Shift.tab9 bits_Set_Shift.bits9 (fun HT_ HW_ => ?_)
                      generalize wc.drew = w32 at BK177 BK178 HB hHeld ⊢
                      refine pure_ (i := 0) (N := some 30) (v := ?_) (a' := ?_) #[true, false, false, false, false, false, false, false, false, false, false, false, false, false, false, false, false] rfl rfl (any_of HT_.out (by kernel_rfl)) (fun _ _ _ h => h) (Or.inl ⟨by rfl, ?_⟩) ?_ ?_
                      rotate_left
                      · intro w'
                        go_simp
                        with_reducible rfl
                      rotate_left
                      · simp only [Act.put, List.setIfInBounds_toArray, List.set_cons_zero, List.set_cons_succ, i64_w, i32_w]
                        rfl
                      refine pure_ (i := 2) (N := some 32) (v := ?_) (a' := ?_) #[true, false, true, false, false, false, false, false, false, false, false, false, false, false, false, false, false] rfl rfl (any_of HT_.out (by kernel_rfl)) (fun _ _ _ h => h) (Or.inl ⟨by rfl, ?_⟩) ?_ ?_
                      rotate_left
                      · intro w'
                        go_simp
                        with_reducible rfl
                      rotate_left
                      · simp only [Act.put, List.setIfInBounds_toArray, List.set_cons_zero, List.set_cons_succ, i64_w, i32_w]
                        rfl
                      refine pure_ (i := 4) (N := some 34) (v := ?_) (a' := ?_) #[true, false, true, false, true, false, false, false, false, false, false, false, false, false, false, false, false] rfl rfl (any_of HT_.out (by kernel_rfl)) (fun _ _ _ h => h) (Or.inl ⟨by rfl, ?_⟩) ?_ ?_
                      rotate_left
                      · intro w'
                        go_simp
                        with_reducible rfl
                      rotate_left
                      · simp only [Act.put, List.setIfInBounds_toArray, List.set_cons_zero, List.set_cons_succ, i64_w, i32_w]
                        rfl
                      refine pure_ (i := 6) (N := some 36) (v := ?_) (a' := ?_) #[true, false, true, false, true, false, true, false, false, false, false, false, false, false, false, false, false] rfl rfl (any_of HT_.out (by kernel_rfl)) (fun _ _ _ h => h) (Or.inl ⟨by rfl, ?_⟩) ?_ ?_
                      rotate_left
                      · intro w'
                        go_simp
                        with_reducible rfl
                      rotate_left
                      · simp only [Act.put, List.setIfInBounds_toArray, List.set_cons_zero, List.set_cons_succ, i64_w, i32_w]
                        rfl
                      refine pure_ (i := 8) (N := some 38) (v := ?_) (a' := ?_) #[true, false, true, false, true, false, true, false, true, false, false, false, false, false, false, false, false] rfl rfl (any_of HT_.out (by kernel_rfl)) (fun _ _ _ h => h) (Or.inl ⟨by rfl, ?_⟩) ?_ ?_
                      rotate_left
                      · intro w'
                        go_simp
                        with_reducible rfl
                      rotate_left
                      · simp only [Act.put, List.setIfInBounds_toArray, List.set_cons_zero, List.set_cons_succ, i64_w, i32_w]
                        rfl
                      refine pure_ (i := 10) (N := some 40) (v := ?_) (a' := ?_) #[true, false, true, false, true, false, true, false, true, false, true, false, false, false, false, false, false] rfl rfl (any_of HT_.out (by kernel_rfl)) (fun _ _ _ h => h) (Or.inl ⟨by rfl, ?_⟩) ?_ ?_
                      rotate_left
                      · intro w'
                        go_simp
                        with_reducible rfl
                      rotate_left
                      · simp only [Act.put, List.setIfInBounds_toArray, List.set_cons_zero, List.set_cons_succ, i64_w, i32_w]
                        rfl
                      refine pure_ (i := 11) (N := some 41) (v := ?_) (a' := ?_) #[true, false, true, false, true, false, true, false, true, false, true, true, false, false, false, false, false] rfl rfl (any_of HT_.out (by kernel_rfl)) (fun _ _ _ h => h) (Or.inl ⟨by rfl, ?_⟩) ?_ ?_
                      rotate_left
                      · intro w'
                        go_simp
                        with_reducible rfl
                      rotate_left
                      · simp only [Act.put, List.setIfInBounds_toArray, List.set_cons_zero, List.set_cons_succ, i64_w, i32_w]
                        rfl
                      refine take_ (i := 1) (N := some 31) (v := ?_) (a' := ?_) #[true, true, true, false, true, false, true, false, true, false, true, true, false, false, false, false, false] rfl rfl (take_ofW HT_.out HW_.out (by kernel_rfl)) (fun _ _ _ h => h) (Or.inl ⟨by rfl, ?_⟩) hHeld ?_ ?_
                      rotate_left
                      · rintro w' ⟨s0, s1⟩
                        go_simp
                        with_reducible rfl
                      rotate_left
                      · simp only [Act.put, List.setIfInBounds_toArray, List.set_cons_zero, List.set_cons_succ, i64_w, i32_w]
                        rfl
                      refine pure_ (i := 3) (N := some 33) (v := ?_) (a' := ?_) #[true, true, true, true, true, false, true, false, true, false, true, true, false, false, false, false, false] rfl rfl (any_of HT_.out (by kernel_rfl)) (fun _ _ _ h => h) (Or.inl ⟨by rfl, ?_⟩) ?_ ?_
                      rotate_left
                      · intro w'
                        go_simp
                        with_reducible rfl
                      rotate_left
                      · simp only [Act.put, List.setIfInBounds_toArray, List.set_cons_zero, List.set_cons_succ, i64_w, i32_w]
                        rfl
                      refine take_ (i := 5) (N := some 35) (v := ?_) (a' := ?_) #[true, true, true, true, true, true, true, false, true, false, true, true, false, false, false, false, false] rfl rfl (take_ofW HT_.out HW_.out (by kernel_rfl)) (fun _ _ _ h => h) (Or.inl ⟨by rfl, ?_⟩) hHeld ?_ ?_
                      rotate_left
                      · rintro w' ⟨s0, s1⟩
                        go_simp
                        with_reducible rfl
                      rotate_left
                      · simp only [Act.put, List.setIfInBounds_toArray, List.set_cons_zero, List.set_cons_succ, i64_w, i32_w]
                        rfl
                      refine pure_ (i := 7) (N := some 37) (v := ?_) (a' := ?_) #[true, true, true, true, true, true, true, true, true, false, true, true, false, false, false, false, false] rfl rfl (any_of HT_.out (by kernel_rfl)) (fun _ _ _ h => h) (Or.inl ⟨by rfl, ?_⟩) ?_ ?_
                      rotate_left
                      · intro w'
                        go_simp
                        with_reducible rfl
                      rotate_left
                      · simp only [Act.put, List.setIfInBounds_toArray, List.set_cons_zero, List.set_cons_succ, i64_w, i32_w]
                        rfl
                      refine take_ (i := 9) (N := some 39) (v := ?_) (a' := ?_) #[true, true, true, true, true, true, true, true, true, true, true, true, false, false, false, false, false] rfl rfl (take_ofW HT_.out HW_.out (by kernel_rfl)) (fun _ _ _ h => h) (Or.inl ⟨by rfl, ?_⟩) hHeld ?_ ?_
                      rotate_left
                      · rintro w' ⟨s0, s1⟩
                        go_simp
                        with_reducible rfl
                      rotate_left
                      · simp only [Act.put, List.setIfInBounds_toArray, List.set_cons_zero, List.set_cons_succ, i64_w, i32_w]
                        rfl
                      refine pure_ (i := 12) (N := some 42) (v := ?_) (a' := ?_) #[true, true, true, true, true, true, true, true, true, true, true, true, true, false, false, false, false] rfl rfl (any_of HT_.out (by kernel_rfl)) (fun _ _ _ h => h) (Or.inl ⟨by rfl, ?_⟩) ?_ ?_
                      rotate_left
                      · intro w'
                        go_simp
                        with_reducible rfl
                      rotate_left
                      · simp only [Act.put, List.setIfInBounds_toArray, List.set_cons_zero, List.set_cons_succ, i64_w, i32_w]
                        rfl
                      refine pure_ (i := 13) (N := some 43) (v := ?_) (a' := ?_) #[true, true, true, true, true, true, true, true, true, true, true, true, true, true, false, false, false] rfl rfl (any_of HT_.out (by kernel_rfl)) (fun _ _ _ h => h) (Or.inl ⟨by rfl, ?_⟩) ?_ ?_
                      rotate_left
                      · intro w'
                        go_simp
                        with_reducible rfl
                      rotate_left
                      · simp only [Act.put, List.setIfInBounds_toArray, List.set_cons_zero, List.set_cons_succ, i64_w, i32_w]
                        rfl
                      refine pure_ (i := 14) (N := some 44) (v := ?_) (a' := ?_) #[true, true, true, true, true, true, true, true, true, true, true, true, true, true, true, false, false] rfl rfl (any_of HT_.out (by kernel_rfl)) (fun _ _ _ h => h) (Or.inl ⟨by rfl, ?_⟩) ?_ ?_
                      rotate_left
                      · intro w'
                        go_simp
                        with_reducible rfl
                      rotate_left
                      · simp only [Act.put, List.setIfInBounds_toArray, List.set_cons_zero, List.set_cons_succ, i64_w, i32_w]
                        rfl
                      refine one_ (i := 15) (N := some 45) #[true, true, true, true, true, true, true, true, true, true, true, true, true, true, true, true, false] rfl rfl (one_of HT_.out (by kernel_rfl)) (by decide) (fun K hK => ?_)
                      refine goes_ Tryd.func87 (by kernel_rfl) rfl #[.agg #[.int .u64 ji25, .int .u64 (Go.bits .or .u64 (ji27) (ji30))]] (by rfl) rfl rfl (by (try simp only [List.map_toArray, List.map_cons, List.map_nil]); first | done | (simp only [hji25, hji27, hji30]; rfl) | rfl | (simp only [List.length_drop, List.length_take]; rfl)) ?_
                      with_reducible refine (bits_Set_plain.calls ji25 (Go.bits .or .u64 (ji27) (ji30)) t181 t182 _ A31.out).mono ?_
                      rintro e w33 ⟨rfl, hb⟩
                      refine ⟨_, rfl, ?_⟩
                      have n0_ := Aside0.mk (blk_below (g := gb177) (o := .cells #[.int .u64 x178000_18, .int .u64 x178001_18] 24 (0, 0)) (by (with_reducible repeat (first | refine blk_drewN ?_ _ | refine blk_drew ?_ | refine blk_alloc ?_ _)); exact BK177.out) hb)
                      have n1_ := Aside0.mk (blk_below (g := gb178) (o := .cells #[.int .u64 0, .int .u64 0] 24 (0, 0)) (by (with_reducible repeat (first | refine blk_drewN ?_ _ | refine blk_drew ?_ | refine blk_alloc ?_ _)); exact BK178.out) hb)
                      have n2_ := Aside0.mk (below_step (by repeat (first | (with_reducible first | exact HB.out | apply below_alloc | apply pw_below_drewN | apply below_drew1 | refine below_set ?_ GE177.out | refine below_set ?_ GE178.out) | exact HB.out)) hb)
                      clear BK177
                      clear BK178
                      clear HB
                      have BK177 := n0_
                      have BK178 := n1_
                      have HB := n2_
                      clear n0_ n1_ n2_
                      (try clear hb)
                      (try clear hb2)
                      (try clear hk)
                      (try clear hi)
                      refine hK.out _ _ ⟨(blk_cell BK177.out 0).trans rfl, (blk_cell BK177.out 1).trans rfl⟩ (fun hHeld => ?_)
                      clear hK K
                      refine norm_ (a' := ?_) ?_ ?_
                      rotate_left
                      · show Act.put _ (some 45) _ = _
                        simp only [Act.put, List.setIfInBounds_toArray, List.set_cons_zero, List.set_cons_succ, i64_w, i32_w]
                        rfl
                      refine one_ (i := 16) (N := none) #[true, true, true, true, true, true, true, true, true, true, true, true, true, true, true, true, true] rfl rfl (one_of HT_.out (by kernel_rfl)) (by decide) (fun K hK => ?_)
                      have hs34 : w33.cell? ⟨gb178, 0, none⟩ = some (.int .u64 0) := (blk_cell BK178.out 0).trans rfl
                      have hfs34 := blk_frozen BK178.out 0
                      have hns34_0 := NB177_178.out
                      have hms34_0 := NB178_177.out
                      have hs35 : w33.cell? ⟨gb178, 1, none⟩ = some (.int .u64 0) := (blk_cell BK178.out 1).trans rfl
                      have hfs35 := blk_frozen BK178.out 1
                      have hns35_0 := NB177_178.out
                      have hms35_0 := NB178_177.out
                      refine skip_ (w1 := ?_) (by rfl) rfl ?_ ?_
                      rotate_left
                      · go_simp
                        rfl
                      refine hK.out _ _ ⟨((cell_far (p := ⟨gb178, _, none⟩) NB177_178.out _).trans (((cell_far (p := ⟨gb178, _, none⟩) NB177_178.out _).trans (hHeld.1)))), ((cell_far (p := ⟨gb178, _, none⟩) NB177_178.out _).trans (((cell_far (p := ⟨gb178, _, none⟩) NB177_178.out _).trans (hHeld.2))))⟩ (fun hHeld => ?_)
                      clear hK K
                      refine done_ (done_of HT_.out (by kernel_rfl)) ?_
                      try go_wp2
                      refine bodyPost_ret (results_cell_row rfl _ _ gb178 24 #[.int .u64 t181, .int .u64 t182] (0, 0) _ rfl (by (with_reducible repeat (first | refine blk_drewN ?_ _ | refine blk_drew ?_ | refine blk_alloc ?_ _)); refine blk_put (cs := #[.int .u64 t181, .int .u64 0]) ?_ 1 _ rfl; (with_reducible repeat (first | refine blk_drewN ?_ _ | refine blk_drew ?_ | refine blk_alloc ?_ _)); refine blk_put (cs := #[.int .u64 0, .int .u64 0]) ?_ 0 _ rfl; (with_reducible repeat (first | refine blk_drewN ?_ _ | refine blk_drew ?_ | refine blk_alloc ?_ _)); exact BK178.out) Tryd.underlying24 rfl (by kernel_rfl)) rfl ?_
                      exact ⟨by first | rfl | (simp [errW_none, errW_some] <;> rfl) | (simp only [← hji25, ← hji27, ← hji28, ← hji30]; first | rfl | (simp [errW_none, errW_some] <;> rfl)) | (simp [*, errW_none, errW_some] <;> rfl), by repeat (first | (with_reducible first | exact HB.out | apply below_alloc | apply pw_below_drewN | apply below_drew1 | refine below_set ?_ GE177.out | refine below_set ?_ GE178.out) | exact HB.out)⟩
                    · rw [if_neg c29] at H
                      exact absurd H (by simp)
                  · rw [if_neg c24] at H
                    exact absurd H (by simp)
                · rw [if_neg c23] at H
                  have c23b0 : decide (0 ≤ x1_18) = false := decide_eq_false c23
                  clear c23
                  obtain ⟨ji36, hji36⟩ : ∃ j_ : Int, (wrap64 (-x1_18)) = j_ := ⟨_, rfl⟩
                  replace H : (if 0 ≤ (ji36) then (if 0 ≤ (wrap64 (45 + x1_18)) then ((bits_Set_plain.f (Go.bits .or .u64 (shr .u64 x178000_18 (ji36)) (shl .u64 x178001_18 (wrap64 (45 + x1_18)))) (shr .u64 x178001_18 (ji36))).bind fun bt183 => (some (bt183.1, bt183.2))) else (none)) else (none)) = some (r1, r2) := by first | (rw [hji36] at H; exact H) | (simp only [hji36] at H ⊢; exact H)
                  have hji36w : (IntKind.i64.wrap (-x1_18)) = ji36 := (i64_w _).trans hji36
                  by_cases c37 : 0 ≤ (ji36)
                  · rw [if_pos c37] at H
                    have c37b0 := eq_true c37
                    have c37b1 : decide (0 ≤ (ji36)) = true := decide_eq_true c37
                    clear c37
                    obtain ⟨ji38, hji38⟩ : ∃ j_ : Int, (shr .u64 x178000_18 (ji36)) = j_ := ⟨_, rfl⟩
                    replace H : (if 0 ≤ (wrap64 (45 + x1_18)) then ((bits_Set_plain.f (Go.bits .or .u64 (ji38) (shl .u64 x178001_18 (wrap64 (45 + x1_18)))) (shr .u64 x178001_18 (ji36))).bind fun bt183 => (some (bt183.1, bt183.2))) else (none)) = some (r1, r2) := by first | (rw [hji38] at H; exact H) | (simp only [hji38] at H ⊢; exact H)
                    have hji38_ : (x178000_18 / 2 ^ min (ji36).toNat 64) = ji38 := hji38
                    have hji38z : (ji36) ≤ 64 → (x178000_18 / 2 ^ (ji36).toNat) = ji38 := shr_small hji38
                    obtain ⟨ji39, hji39⟩ : ∃ j_ : Int, (wrap64 (45 + x1_18)) = j_ := ⟨_, rfl⟩
                    replace H : (if 0 ≤ (ji39) then ((bits_Set_plain.f (Go.bits .or .u64 (ji38) (shl .u64 x178001_18 (ji39))) (shr .u64 x178001_18 (ji36))).bind fun bt183 => (some (bt183.1, bt183.2))) else (none)) = some (r1, r2) := by first | (rw [hji39] at H; exact H) | (simp only [hji39] at H ⊢; exact H)
                    have hji39w : (IntKind.i64.wrap (45 + x1_18)) = ji39 := (i64_w _).trans hji39
                    by_cases c40 : 0 ≤ (ji39)
                    · rw [if_pos c40] at H
                      have c40b0 := eq_true c40
                      have c40b1 : decide (0 ≤ (ji39)) = true := decide_eq_true c40
                      clear c40
                      obtain ⟨ji41, hji41⟩ : ∃ j_ : Int, (shl .u64 x178001_18 (ji39)) = j_ := ⟨_, rfl⟩
                      replace H : ((bits_Set_plain.f (Go.bits .or .u64 (ji38) (ji41)) (shr .u64 x178001_18 (ji36))).bind fun bt183 => (some (bt183.1, bt183.2))) = some (r1, r2) := by first | (rw [hji41] at H; exact H) | (simp only [hji41] at H ⊢; exact H)
                      have hji41_ : (IntKind.u64.wrap (x178001_18 * 2 ^ min (ji39).toNat 64)) = ji41 := hji41
                      have hji41z : (ji39) ≤ 64 → (IntKind.u64.wrap (x178001_18 * 2 ^ (ji39).toNat)) = ji41 := shl_small hji41
                      have c42b0 := eq_true (of_decide_eq_true (by first | (with_reducible assumption) | assumption) : 0 ≤ (ji36))
                      obtain ⟨ji43, hji43⟩ : ∃ j_ : Int, (shr .u64 x178001_18 (ji36)) = j_ := ⟨_, rfl⟩
                      replace H : ((bits_Set_plain.f (Go.bits .or .u64 (ji38) (ji41)) (ji43)).bind fun bt183 => (some (bt183.1, bt183.2))) = some (r1, r2) := by first | (rw [hji43] at H; exact H) | (simp only [hji43] at H ⊢; exact H)
                      have hji43_ : (x178001_18 / 2 ^ min (ji36).toNat 64) = ji43 := hji43
                      have hji43z : (ji36) ≤ 64 → (x178001_18 / 2 ^ (ji36).toNat) = ji43 := shr_small hji43
                      replace H := Option.bind_eq_some_iff.mp H
                      obtain ⟨⟨t183, t184⟩, A440, H⟩ := H
                      replace H : (some (t183, t184)) = some (r1, r2) := H
                      have A44 := Aside0.mk A440
                      clear A440
                      simp only [Option.some.injEq, Prod.mk.injEq] at H
                      obtain ⟨rfl, rfl⟩ := H
                      try go_wp2
                      have n0_ := Aside0.mk (blk_drew BK177.out)
                      have n1_ := Aside0.mk (blk_drew BK178.out)
                      have n2_ := Aside0.mk (below_drew1 HB.out)
                      clear BK177
                      clear BK178
                      clear HB
                      have BK177 := n0_
                      have BK178 := n1_
                      have HB := n2_
                      clear n0_ n1_ n2_
                      refine start_ (n := 19) (S := fun w' => w'.cell? ⟨gb177, 0, none⟩ = some (.int .u64 x178000_18) ∧ w'.cell? ⟨gb177, 1, none⟩ = some (.int .u64 x178001_18)) (ds := []) #[false, false, false, false, false, false, false, false, false, false, false, false, false, false, false, false, false, false, false] (by kernel_rfl) rfl rfl ⟨(blk_cell BK177.out 0).trans rfl, (blk_cell BK177.out 1).trans rfl⟩ (fun hHeld => ?_); refine with_tabW bits_Set_Shift.tab10 bits_Set_Shift.bits10 (fun HT_ HW_ => ?_)
                      generalize wc.drew = w45 at BK177 BK178 HB hHeld ⊢
                      refine pure_ (i := 0) (N := some 46) (v := ?_) (a' := ?_) #[true, false, false, false, false, false, false, false, false, false, false, false, false, false, false, false, false, false, false] rfl rfl (any_of HT_.out (by kernel_rfl)) (fun _ _ _ h => h) (Or.inl ⟨by rfl, ?_⟩) ?_ ?_
                      rotate_left
                      · intro w'
                        go_simp
                        with_reducible rfl
                      rotate_left
                      · simp only [Act.put, List.setIfInBounds_toArray, List.set_cons_zero, List.set_cons_succ, i64_w, i32_w]
                        rfl
                      refine pure_ (i := 2) (N := some 48) (v := ?_) (a' := ?_) #[true, false, true, false, false, false, false, false, false, false, false, false, false, false, false, false, false, false, false] rfl rfl (any_of HT_.out (by kernel_rfl)) (fun _ _ _ h => h) (Or.inl ⟨by rfl, ?_⟩) ?_ ?_
                      rotate_left
                      · intro w'
                        go_simp
                        with_reducible rfl
                      rotate_left
                      · simp only [Act.put, List.setIfInBounds_toArray, List.set_cons_zero, List.set_cons_succ, i64_w, i32_w]
                        rfl
                      refine pure_ (i := 3) (N := some 49) (v := ?_) (a' := ?_) #[true, false, true, true, false, false, false, false, false, false, false, false, false, false, false, false, false, false, false] rfl rfl (any_of HT_.out (by kernel_rfl)) (fun _ _ _ h => h) (Or.inl ⟨by rfl, ?_⟩) ?_ ?_
                      rotate_left
                      · intro w'
                        go_simp
                        with_reducible rfl
                      rotate_left
                      · simp only [Act.put, List.setIfInBounds_toArray, List.set_cons_zero, List.set_cons_succ, i64_w, i32_w]
                        rfl
                      refine pure_ (i := 5) (N := some 51) (v := ?_) (a' := ?_) #[true, false, true, true, false, true, false, false, false, false, false, false, false, false, false, false, false, false, false] rfl rfl (any_of HT_.out (by kernel_rfl)) (fun _ _ _ h => h) (Or.inl ⟨by rfl, ?_⟩) ?_ ?_
                      rotate_left
                      · intro w'
                        go_simp
                        with_reducible rfl
                      rotate_left
                      · simp only [Act.put, List.setIfInBounds_toArray, List.set_cons_zero, List.set_cons_succ, i64_w, i32_w]
                        rfl
                      refine pure_ (i := 7) (N := some 53) (v := ?_) (a' := ?_) #[true, false, true, true, false, true, false, true, false, false, false, false, false, false, false, false, false, false, false] rfl rfl (any_of HT_.out (by kernel_rfl)) (fun _ _ _ h => h) (Or.inl ⟨by rfl, ?_⟩) ?_ ?_
                      rotate_left
                      · intro w'
                        go_simp
                        with_reducible rfl
                      rotate_left
                      · simp only [Act.put, List.setIfInBounds_toArray, List.set_cons_zero, List.set_cons_succ, i64_w, i32_w]
                        rfl
                      refine pure_ (i := 8) (N := some 54) (v := ?_) (a' := ?_) #[true, false, true, true, false, true, false, true, true, false, false, false, false, false, false, false, false, false, false] rfl rfl (any_of HT_.out (by kernel_rfl)) (fun _ _ _ h => h) (Or.inl ⟨by rfl, ?_⟩) ?_ ?_
                      rotate_left
                      · intro w'
                        go_simp
                        with_reducible rfl
                      rotate_left
                      · simp only [Act.put, List.setIfInBounds_toArray, List.set_cons_zero, List.set_cons_succ, i64_w, i32_w]
                        rfl
                      refine pure_ (i := 11) (N := some 57) (v := ?_) (a' := ?_) #[true, false, true, true, false, true, false, true, true, false, false, true, false, false, false, false, false, false, false] rfl rfl (any_of HT_.out (by kernel_rfl)) (fun _ _ _ h => h) (Or.inl ⟨by rfl, ?_⟩) ?_ ?_
                      rotate_left
                      · intro w'
                        go_simp
                        with_reducible rfl
                      rotate_left
                      · simp only [Act.put, List.setIfInBounds_toArray, List.set_cons_zero, List.set_cons_succ, i64_w, i32_w]
                        rfl
                      refine pure_ (i := 13) (N := some 59) (v := ?_) (a' := ?_) #[true, false, true, true, false, true, false, true, true, false, false, true, false, true, false, false, false, false, false] rfl rfl (any_of HT_.out (by kernel_rfl)) (fun _ _ _ h => h) (Or.inl ⟨by rfl, ?_⟩) ?_ ?_
                      rotate_left
                      · intro w'
                        go_simp
                        with_reducible rfl
                      rotate_left
                      · simp only [Act.put, List.setIfInBounds_toArray, List.set_cons_zero, List.set_cons_succ, i64_w, i32_w]
                        rfl
                      refine pure_ (i := 14) (N := some 60) (v := ?_) (a' := ?_) #[true, false, true, true, false, true, false, true, true, false, false, true, false, true, true, false, false, false, false] rfl rfl (any_of HT_.out (by kernel_rfl)) (fun _ _ _ h => h) (Or.inl ⟨by rfl, ?_⟩) ?_ ?_
                      rotate_left
                      · intro w'
                        go_simp
                        with_reducible rfl
                      rotate_left
                      · simp only [Act.put, List.setIfInBounds_toArray, List.set_cons_zero, List.set_cons_succ, i64_w, i32_w]
                        rfl
                      refine take_ (i := 1) (N := some 47) (v := ?_) (a' := ?_) #[true, true, true, true, false, true, false, true, true, false, false, true, false, true, true, false, false, false, false] rfl rfl (take_ofW HT_.out HW_.out (by kernel_rfl)) (fun _ _ _ h => h) (Or.inl ⟨by rfl, ?_⟩) hHeld ?_ ?_
                      rotate_left
                      · rintro w' ⟨s0, s1⟩
                        go_simp
                        with_reducible rfl
                      rotate_left
                      · simp only [Act.put, List.setIfInBounds_toArray, List.set_cons_zero, List.set_cons_succ, i64_w, i32_w]
                        rfl
                      refine pure_ (i := 4) (N := some 50) (v := ?_) (a' := ?_) #[true, true, true, true, true, true, false, true, true, false, false, true, false, true, true, false, false, false, false] rfl rfl (any_of HT_.out (by kernel_rfl)) (fun _ _ _ h => h) (Or.inl ⟨by rfl, ?_⟩) ?_ ?_
                      rotate_left
                      · intro w'
                        go_simp
                        with_reducible rfl
                      rotate_left
                      · simp only [Act.put, List.setIfInBounds_toArray, List.set_cons_zero, List.set_cons_succ, i64_w, i32_w]
                        rfl
                      refine take_ (i := 6) (N := some 52) (v := ?_) (a' := ?_) #[true, true, true, true, true, true, true, true, true, false, false, true, false, true, true, false, false, false, false] rfl rfl (take_ofW HT_.out HW_.out (by kernel_rfl)) (fun _ _ _ h => h) (Or.inl ⟨by rfl, ?_⟩) hHeld ?_ ?_
                      rotate_left
                      · rintro w' ⟨s0, s1⟩
                        go_simp
                        with_reducible rfl
                      rotate_left
                      · simp only [Act.put, List.setIfInBounds_toArray, List.set_cons_zero, List.set_cons_succ, i64_w, i32_w]
                        rfl
                      refine pure_ (i := 9) (N := some 55) (v := ?_) (a' := ?_) #[true, true, true, true, true, true, true, true, true, true, false, true, false, true, true, false, false, false, false] rfl rfl (any_of HT_.out (by kernel_rfl)) (fun _ _ _ h => h) (Or.inl ⟨by rfl, ?_⟩) ?_ ?_
                      rotate_left
                      · intro w'
                        go_simp
                        with_reducible rfl
                      rotate_left
                      · simp only [Act.put, List.setIfInBounds_toArray, List.set_cons_zero, List.set_cons_succ, i64_w, i32_w]
                        rfl
                      refine pure_ (i := 10) (N := some 56) (v := ?_) (a' := ?_) #[true, true, true, true, true, true, true, true, true, true, true, true, false, true, true, false, false, false, false] rfl rfl (any_of HT_.out (by kernel_rfl)) (fun _ _ _ h => h) (Or.inl ⟨by rfl, ?_⟩) ?_ ?_
                      rotate_left
                      · intro w'
                        go_simp
                        with_reducible rfl
                      rotate_left
                      · simp only [Act.put, List.setIfInBounds_toArray, List.set_cons_zero, List.set_cons_succ, i64_w, i32_w]
                        rfl
                      refine take_ (i := 12) (N := some 58) (v := ?_) (a' := ?_) #[true, true, true, true, true, true, true, true, true, true, true, true, true, true, true, false, false, false, false] rfl rfl (take_ofW HT_.out HW_.out (by kernel_rfl)) (fun _ _ _ h => h) (Or.inl ⟨by rfl, ?_⟩) hHeld ?_ ?_
                      rotate_left
                      · rintro w' ⟨s0, s1⟩
                        go_simp
                        with_reducible rfl
                      rotate_left
                      · simp only [Act.put, List.setIfInBounds_toArray, List.set_cons_zero, List.set_cons_succ, i64_w, i32_w]
                        rfl
                      refine pure_ (i := 15) (N := some 61) (v := ?_) (a' := ?_) #[true, true, true, true, true, true, true, true, true, true, true, true, true, true, true, true, false, false, false] rfl rfl (any_of HT_.out (by kernel_rfl)) (fun _ _ _ h => h) (Or.inl ⟨by rfl, ?_⟩) ?_ ?_
                      rotate_left
                      · intro w'
                        go_simp
                        with_reducible rfl
                      rotate_left
                      · simp only [Act.put, List.setIfInBounds_toArray, List.set_cons_zero, List.set_cons_succ, i64_w, i32_w]
                        rfl
                      refine pure_ (i := 16) (N := some 62) (v := ?_) (a' := ?_) #[true, true, true, true, true, true, true, true, true, true, true, true, true, true, true, true, true, false, false] rfl rfl (any_of HT_.out (by kernel_rfl)) (fun _ _ _ h => h) (Or.inl ⟨by rfl, ?_⟩) ?_ ?_
                      rotate_left
                      · intro w'
                        go_simp
                        with_reducible rfl
                      rotate_left
                      · simp only [Act.put, List.setIfInBounds_toArray, List.set_cons_zero, List.set_cons_succ, i64_w, i32_w]
                        rfl
                      refine one_ (i := 17) (N := some 63) #[true, true, true, true, true, true, true, true, true, true, true, true, true, true, true, true, true, true, false] rfl rfl (one_of HT_.out (by kernel_rfl)) (by decide) (fun K hK => ?_)
                      refine goes_ Tryd.func87 (by kernel_rfl) rfl #[.agg #[.int .u64 (Go.bits .or .u64 (ji38) (ji41)), .int .u64 ji43]] (by rfl) rfl rfl (by (try simp only [List.map_toArray, List.map_cons, List.map_nil]); first | done | (simp only [hji38, hji41, hji43]; rfl) | rfl | (simp only [List.length_drop, List.length_take]; rfl)) ?_
                      with_reducible refine (bits_Set_plain.calls (Go.bits .or .u64 (ji38) (ji41)) ji43 t183 t184 _ A44.out).mono ?_
                      rintro e w46 ⟨rfl, hb⟩
                      refine ⟨_, rfl, ?_⟩
                      have n0_ := Aside0.mk (blk_below (g := gb177) (o := .cells #[.int .u64 x178000_18, .int .u64 x178001_18] 24 (0, 0)) (by (with_reducible repeat (first | refine blk_drewN ?_ _ | refine blk_drew ?_ | refine blk_alloc ?_ _)); exact BK177.out) hb)
                      have n1_ := Aside0.mk (blk_below (g := gb178) (o := .cells #[.int .u64 0, .int .u64 0] 24 (0, 0)) (by (with_reducible repeat (first | refine blk_drewN ?_ _ | refine blk_drew ?_ | refine blk_alloc ?_ _)); exact BK178.out) hb)
                      have n2_ := Aside0.mk (below_step (by repeat (first | (with_reducible first | exact HB.out | apply below_alloc | apply pw_below_drewN | apply below_drew1 | refine below_set ?_ GE177.out | refine below_set ?_ GE178.out) | exact HB.out)) hb)
                      clear BK177
                      clear BK178
                      clear HB
                      have BK177 := n0_
                      have BK178 := n1_
                      have HB := n2_
                      clear n0_ n1_ n2_
                      (try clear hb)
                      (try clear hb2)
                      (try clear hk)
                      (try clear hi)
                      refine hK.out _ _ ⟨(blk_cell BK177.out 0).trans rfl, (blk_cell BK177.out 1).trans rfl⟩ (fun hHeld => ?_)
                      clear hK K
                      refine norm_ (a' := ?_) ?_ ?_
                      rotate_left
                      · show Act.put _ (some 63) _ = _
                        simp only [Act.put, List.setIfInBounds_toArray, List.set_cons_zero, List.set_cons_succ, i64_w, i32_w]
                        rfl
                      refine one_ (i := 18) (N := none) #[true, true, true, true, true, true, true, true, true, true, true, true, true, true, true, true, true, true, true] rfl rfl (one_of HT_.out (by kernel_rfl)) (by decide) (fun K hK => ?_)
                      have hs47 : w46.cell? ⟨gb178, 0, none⟩ = some (.int .u64 0) := (blk_cell BK178.out 0).trans rfl
                      have hfs47 := blk_frozen BK178.out 0
                      have hns47_0 := NB177_178.out
                      have hms47_0 := NB178_177.out
                      have hs48 : w46.cell? ⟨gb178, 1, none⟩ = some (.int .u64 0) := (blk_cell BK178.out 1).trans rfl
                      have hfs48 := blk_frozen BK178.out 1
                      have hns48_0 := NB177_178.out
                      have hms48_0 := NB178_177.out
                      refine skip_ (w1 := ?_) (by rfl) rfl ?_ ?_
                      rotate_left
                      · go_simp
                        rfl
                      refine hK.out _ _ ⟨((cell_far (p := ⟨gb178, _, none⟩) NB177_178.out _).trans (((cell_far (p := ⟨gb178, _, none⟩) NB177_178.out _).trans (hHeld.1)))), ((cell_far (p := ⟨gb178, _, none⟩) NB177_178.out _).trans (((cell_far (p := ⟨gb178, _, none⟩) NB177_178.out _).trans (hHeld.2))))⟩ (fun hHeld => ?_)
                      clear hK K
                      refine done_ (done_of HT_.out (by kernel_rfl)) ?_
                      try go_wp2
                      refine bodyPost_ret (results_cell_row rfl _ _ gb178 24 #[.int .u64 t183, .int .u64 t184] (0, 0) _ rfl (by (with_reducible repeat (first | refine blk_drewN ?_ _ | refine blk_drew ?_ | refine blk_alloc ?_ _)); refine blk_put (cs := #[.int .u64 t183, .int .u64 0]) ?_ 1 _ rfl; (with_reducible repeat (first | refine blk_drewN ?_ _ | refine blk_drew ?_ | refine blk_alloc ?_ _)); refine blk_put (cs := #[.int .u64 0, .int .u64 0]) ?_ 0 _ rfl; (with_reducible repeat (first | refine blk_drewN ?_ _ | refine blk_drew ?_ | refine blk_alloc ?_ _)); exact BK178.out) Tryd.underlying24 rfl (by kernel_rfl)) rfl ?_
                      exact ⟨by first | rfl | (simp [errW_none, errW_some] <;> rfl) | (simp only [← hji36, ← hji38, ← hji39, ← hji41, ← hji43]; first | rfl | (simp [errW_none, errW_some] <;> rfl)) | (simp [*, errW_none, errW_some] <;> rfl), by repeat (first | (with_reducible first | exact HB.out | apply below_alloc | apply pw_below_drewN | apply below_drew1 | refine below_set ?_ GE177.out | refine below_set ?_ GE178.out) | exact HB.out)⟩
                    · rw [if_neg c40] at H
                      exact absurd H (by simp)
                  · rw [if_neg c37] at H
                    exact absurd H (by simp)

end Go.Proofs.YtkbimiimgcklaaaDoor.Print

-- of YtkbimiimgcklaaaDoorPrint11
-- Written by a program of this session (wip/gprint/gprint.py) over the kit's print; the parts marked GIVEN by hand.
namespace Go.Proofs.YtkbimiimgcklaaaDoor.Print
open Go.RowKit Go.Proofs.YtkbimiimgcklaaaDoorW.PrintWords Go.Proofs.YtkbimiimgcklaaaDoorW.PrintLast Go.Proofs.YtkbimiimgcklaaaDoorW.PrintMore
attribute [local go_sem] max2_int min2_int max_two min_two max_three min_three max_four min_four   -- for this text's walks alone
set_option linter.unusedVariables false
set_option linter.unusedSimpArgs false
/-! ### bits_Set_Between: function 43 -/
def bits_Set_Between.j0 : Nat → Int → Int → Bool → Int → Int → Option (Int × Int)
  | 0, _, _, _, _, _ => none
  | k + 1, x7, x8, x26, x186000, x186001 => if x26 = true then (some (0, 0)) else ((bits_Set_Shift.f k x186000 x186001 (wrap64 (-x7))).bind fun bt187 => ((bits_Set_Shift.f k bt187.1 bt187.2 (wrap64 ((wrap64 (x7 + 90)) - x8))).bind fun bt189 => ((bits_Set_Shift.f k bt189.1 bt189.2 (wrap64 (x8 - 90))).bind fun bt191 => (some (bt191.1, bt191.2)))))
def bits_Set_Between.f (k : Nat) (a0_0 : Int) (a0_1 : Int) (a1 : Int) (a2 : Int) : Option (Int × Int) := if (mn a1 a2) ≥ 90 then (bits_Set_Between.j0 k (mx (wrap64 ((mn a1 a2) + 1)) 0) (mn (mx a1 a2) 90) true a0_0 a0_1) else (bits_Set_Between.j0 k (mx (wrap64 ((mn a1 a2) + 1)) 0) (mn (mx a1 a2) 90) (decide ((mx (wrap64 ((mn a1 a2) + 1)) 0) ≥ (mn (mx a1 a2) 90))) a0_0 a0_1)
theorem bits_Set_Between.mono_l : ∀ k, (∀ y0 y1 y2 y3 y4, LeO (bits_Set_Between.j0 k y0 y1 y2 y3 y4) (bits_Set_Between.j0 (k + 1) y0 y1 y2 y3 y4))
  | 0 => fun _ _ _ _ _ r h => by simp [bits_Set_Between.j0] at h
  | k + 1 => by
    have ih0 := bits_Set_Between.mono_l k
    · intro y0 y1 y2 y3 y4
      unfold bits_Set_Between.j0
      repeat' first
      | (with_reducible exact ih0 _ _ _ _ _)
      | (with_reducible exact bits_Set_Shift.mono _ _ _ _)
      | (with_reducible exact LeO.refl _)
      | (with_reducible exact LeO.none _)
      | (with_reducible refine LeO.ite ?_ ?_)
      | (with_reducible refine LeO.bind ?_ (fun _ => ?_))
      | exact ih0 _ _ _ _ _
      | exact bits_Set_Shift.mono _ _ _ _
      | exact LeO.none _
      | refine LeO.ite ?_ ?_
      | refine LeO.bind ?_ (fun _ => ?_)
theorem bits_Set_Between.mono : ∀ a0 a1 a2 a3 k, LeO (bits_Set_Between.f k a0 a1 a2 a3) (bits_Set_Between.f (k + 1) a0 a1 a2 a3) := by
  intro a0 a1 a2 a3 k
  have ih0 := bits_Set_Between.mono_l k
  unfold bits_Set_Between.f
  repeat' first
      | (with_reducible exact ih0 _ _ _ _ _)
      | (with_reducible exact bits_Set_Shift.mono _ _ _ _)
      | (with_reducible exact LeO.refl _)
      | (with_reducible exact LeO.none _)
      | (with_reducible refine LeO.ite ?_ ?_)
      | (with_reducible refine LeO.bind ?_ (fun _ => ?_))
      | exact ih0 _ _ _ _ _
      | exact bits_Set_Shift.mono _ _ _ _
      | exact LeO.none _
      | refine LeO.ite ?_ ?_
      | refine LeO.bind ?_ (fun _ => ?_)
set_option maxHeartbeats 8000000 in
set_option maxRecDepth 100000 in
theorem bits_Set_Between.calls (k : Nat) (a0_0 : Int) (a0_1 : Int) (a1 : Int) (a2 : Int) (r1 : Int) (r2 : Int) (w : World) (h : bits_Set_Between.f k a0_0 a0_1 a1 a2 = some (r1, r2)) :
    Calls Tryd.prog 43 #[.agg #[.int .u64 a0_0, .int .u64 a0_1], .int .i64 a1, .int .i64 a2] w fun e w' => e = .returned (.agg #[.int .u64 r1, .int .u64 r2]) ∧ Below w.heap.size w w' := by
  have hu24 := Tryd.underlying24
  have HB := Aside0.mk (Below.refl w.heap.size w)
  have H : (if (mn a1 a2) ≥ 90 then (bits_Set_Between.j0 k (mx (wrap64 ((mn a1 a2) + 1)) 0) (mn (mx a1 a2) 90) true a0_0 a0_1) else (bits_Set_Between.j0 k (mx (wrap64 ((mn a1 a2) + 1)) 0) (mn (mx a1 a2) 90) (decide ((mx (wrap64 ((mn a1 a2) + 1)) 0) ≥ (mn (mx a1 a2) 90))) a0_0 a0_1)) = some (r1, r2) := h
  clear h
  obtain ⟨ji4, hji4⟩ : ∃ j_ : Int, (mn a1 a2) = j_ := ⟨_, rfl⟩
  replace H : (if (ji4) ≥ 90 then (bits_Set_Between.j0 k (mx (wrap64 ((ji4) + 1)) 0) (mn (mx a1 a2) 90) true a0_0 a0_1) else (bits_Set_Between.j0 k (mx (wrap64 ((ji4) + 1)) 0) (mn (mx a1 a2) 90) (decide ((mx (wrap64 ((ji4) + 1)) 0) ≥ (mn (mx a1 a2) 90))) a0_0 a0_1)) = some (r1, r2) := by first | (rw [hji4] at H; exact H) | (simp only [hji4] at H ⊢; exact H)
  have hji4_ : (if a2 < a1 then a2 else a1) = ji4 := hji4
  obtain ⟨ji5, hji5⟩ : ∃ j_ : Int, (mx (wrap64 ((ji4) + 1)) 0) = j_ := ⟨_, rfl⟩
  replace H : (if (ji4) ≥ 90 then (bits_Set_Between.j0 k ji5 (mn (mx a1 a2) 90) true a0_0 a0_1) else (bits_Set_Between.j0 k ji5 (mn (mx a1 a2) 90) (decide ((ji5) ≥ (mn (mx a1 a2) 90))) a0_0 a0_1)) = some (r1, r2) := by first | (rw [hji5] at H; exact H) | (simp only [hji5] at H ⊢; exact H)
  have hji5_ : (if (wrap64 ((ji4) + 1)) < 0 then 0 else (wrap64 ((ji4) + 1))) = ji5 := hji5
  obtain ⟨ji6, hji6⟩ : ∃ j_ : Int, (mx a1 a2) = j_ := ⟨_, rfl⟩
  replace H : (if (ji4) ≥ 90 then (bits_Set_Between.j0 k ji5 (mn (ji6) 90) true a0_0 a0_1) else (bits_Set_Between.j0 k ji5 (mn (ji6) 90) (decide ((ji5) ≥ (mn (ji6) 90))) a0_0 a0_1)) = some (r1, r2) := by first | (rw [hji6] at H; exact H) | (simp only [hji6] at H ⊢; exact H)
  have hji6_ : (if a1 < a2 then a2 else a1) = ji6 := hji6
  obtain ⟨ji7, hji7⟩ : ∃ j_ : Int, (mn (ji6) 90) = j_ := ⟨_, rfl⟩
  replace H : (if (ji4) ≥ 90 then (bits_Set_Between.j0 k ji5 ji7 true a0_0 a0_1) else (bits_Set_Between.j0 k ji5 ji7 (decide ((ji5) ≥ (ji7))) a0_0 a0_1)) = some (r1, r2) := by first | (rw [hji7] at H; exact H) | (simp only [hji7] at H ⊢; exact H)
  have hji7_ : (if 90 < (ji6) then 90 else (ji6)) = ji7 := hji7
  have HC8 := Aside0.mk H
  clear H
  go_enter Tryd.func43, Tryd.ntmps43
  go_upto_region 2 with (first | ((with_reducible refine gate_dst (N := 3) rfl ?_); refine box_event ?hg (N := 3) ?hd (cs := #[.int .u64 a0_0, .int .u64 a0_1]) (t := 24) ?hr ?_; (case hd => rfl); (case hg => rfl); (case hr => first | (go_simp; done) | (go_simp; rfl)); intro gb185 hg w9 hbox hb; have n0_ := Aside0.mk (below_step (by repeat (first | (with_reducible first | exact HB.out | apply below_alloc | apply pw_below_drewN | apply below_drew1) | exact HB.out)) hb); have n1_ := Aside0.mk (hbox); have n2_ := Aside0.mk ((by rw [hg]; exact (below_size (by repeat (first | (with_reducible first | exact HB.out | apply below_alloc | apply pw_below_drewN | apply below_drew1) | exact HB.out))) : w.heap.size ≤ gb185)); have n3_ := Aside0.mk ((by rw [hg]; exact (below_size (by repeat (first | (with_reducible first | exact HB.out | apply below_alloc | apply pw_below_drewN | apply below_drew1) | exact HB.out))) : w.heap.size ≤ gb185)); clear HB; have HB := n0_; have BK185 := n1_; have GW185 := n2_; have GE185 := n3_; clear n0_ n1_ n2_ n3_; clear hb hbox hg) | ((with_reducible refine gate_dst (N := 6) rfl ?_); refine box_event ?hg (N := 6) ?hd (cs := #[.int .u64 0, .int .u64 0]) (t := 24) ?hr ?_; (case hd => rfl); (case hg => rfl); (case hr => first | (go_simp; done) | (go_simp; rfl)); intro gb186 hg w10 hbox hb; have n0_ := Aside0.mk (blk_below (g := gb185) (o := .cells #[.int .u64 a0_0, .int .u64 a0_1] 24 (0, 0)) (by (with_reducible repeat (first | refine blk_drewN ?_ _ | refine blk_drew ?_ | refine blk_alloc ?_ _)); exact BK185.out) hb); have n1_ := Aside0.mk (below_step (by repeat (first | (with_reducible first | exact HB.out | apply below_alloc | apply pw_below_drewN | apply below_drew1 | refine below_set ?_ GE185.out) | exact HB.out)) hb); have n2_ := Aside0.mk (hbox); have n3_ := Aside0.mk ((by rw [hg]; exact (below_size (by repeat (first | (with_reducible first | exact HB.out | apply below_alloc | apply pw_below_drewN | apply below_drew1 | refine below_set ?_ GE185.out) | exact HB.out))) : w.heap.size ≤ gb186)); have n4_ := Aside0.mk ((by rw [hg]; exact (below_size (by repeat (first | (with_reducible first | exact HB.out | apply below_alloc | apply pw_below_drewN | apply below_drew1 | refine below_set ?_ GE185.out) | exact HB.out))) : w.heap.size ≤ gb186)); have n5_ := Aside0.mk ((by rw [hg]; exact Nat.ne_of_lt (blk_lt (g := gb185) (o := .cells #[.int .u64 a0_0, .int .u64 a0_1] 24 (0, 0)) (by (with_reducible repeat (first | refine blk_drewN ?_ _ | refine blk_drew ?_ | refine blk_alloc ?_ _)); exact BK185.out)) : gb185 ≠ gb186)); have n6_ := Aside0.mk ((by rw [hg]; exact Nat.ne_of_gt (blk_lt (g := gb185) (o := .cells #[.int .u64 a0_0, .int .u64 a0_1] 24 (0, 0)) (by (with_reducible repeat (first | refine blk_drewN ?_ _ | refine blk_drew ?_ | refine blk_alloc ?_ _)); exact BK185.out)) : gb186 ≠ gb185)); clear BK185; clear HB; have BK185 := n0_; have HB := n1_; have BK186 := n2_; have GW186 := n3_; have GE186 := n4_; have NB185_186 := n5_; have NB186_185 := n6_; clear n0_ n1_ n2_ n3_ n4_ n5_ n6_; clear hb hbox hg))
  (try simp only [Act.put, List.setIfInBounds_toArray, List.set_cons_zero, List.set_cons_succ])
  go_cut [26] (fun v26 wc => ∃ (kq : Nat) (x26_7 : Bool), v26 = .bool x26_7 ∧ Aside0 (bits_Set_Between.j0 kq ji5 ji7 x26_7 a0_0 a0_1 = some (r1, r2)) ∧ Aside0 (kq ≤ k) ∧ Aside0 (wc.heap[gb185]? = some (.cells #[.int .u64 a0_0, .int .u64 a0_1] 24 (0, 0))) ∧ Aside0 (wc.heap[gb186]? = some (.cells #[.int .u64 0, .int .u64 0] 24 (0, 0))) ∧ Aside0 (Below w.heap.size w wc))
  case first =>
    have H := HC8.out
    clear HC8
    by_cases c12 : (ji4) ≥ 90
    · rw [if_pos c12] at H
      have c12b0 : decide (90 ≤ (ji4)) = true := decide_eq_true c12
      clear c12
      (first | rw [c12b0] | (simp only [i64_w, i32_w]; rw [c12b0]) | skip)
      have H' := Aside0.mk H
      clear H
      go_wp2
      go_meet
      case rel => exact ⟨_, (true), (by first | rfl | (simp; done) | (simp [*]; done)), H', ⟨by first | omega | exact Nat.le_refl _⟩, ⟨by (with_reducible repeat (first | refine blk_drewN ?_ _ | refine blk_drew ?_ | refine blk_alloc ?_ _)); exact BK185.out⟩, ⟨by (with_reducible repeat (first | refine blk_drewN ?_ _ | refine blk_drew ?_ | refine blk_alloc ?_ _)); exact BK186.out⟩, ⟨by repeat (first | (with_reducible first | exact HB.out | apply below_alloc | apply pw_below_drewN | apply below_drew1 | refine below_set ?_ GE185.out | refine below_set ?_ GE186.out) | exact HB.out)⟩⟩
    · rw [if_neg c12] at H
      have c12b0 : decide (90 ≤ (ji4)) = false := decide_eq_false c12
      clear c12
      (first | rw [c12b0] | (simp only [i64_w, i32_w]; rw [c12b0]) | skip)
      have H' := Aside0.mk H
      clear H
      go_wp2
      go_meet
      case rel => exact ⟨_, (decide ((ji5) ≥ (ji7))), (by first | rfl | (simp; done) | (simp only [← hji5, ← hji7] <;> (first | rfl | simp)) | (simp [*]; done)), H', ⟨by first | omega | exact Nat.le_refl _⟩, ⟨by (with_reducible repeat (first | refine blk_drewN ?_ _ | refine blk_drew ?_ | refine blk_alloc ?_ _)); exact BK185.out⟩, ⟨by (with_reducible repeat (first | refine blk_drewN ?_ _ | refine blk_drew ?_ | refine blk_alloc ?_ _)); exact BK186.out⟩, ⟨by repeat (first | (with_reducible first | exact HB.out | apply below_alloc | apply pw_below_drewN | apply below_drew1 | refine below_set ?_ GE185.out | refine below_set ?_ GE186.out) | exact HB.out)⟩⟩
  case rest =>
    clear HC8
    try clear c1
    try clear p2
    try clear c4
    try clear p6
    try clear c11
    try clear c11b0
    try clear c12
    try clear c12b0
    obtain ⟨kq, x26_7, rfl, HA, HJ7, BK185, BK186, HB⟩ := hcut
    cases kq with
    | zero => exact absurd HA.out (by simp [bits_Set_Between.j0])
    | succ kj7 =>
      have H := HA.out
      clear HA
      simp only [bits_Set_Between.j0] at H
      by_cases c13 : x26_7 = true
      · subst c13
        have H1 : (some (0, 0)) = some (r1, r2) := by rw [if_pos rfl] at H; exact H
        clear H
        have H := H1
        clear H1
        simp only [Option.some.injEq, Prod.mk.injEq] at H
        obtain ⟨rfl, rfl⟩ := H
        have hnb14 := NB186_185.out
        have hnc14 := NB185_186.out
        have hcz15_0 : wc.cell? ⟨gb186, 0, none⟩ = some (.int .u64 0) := (blk_cell BK186.out 0).trans rfl
        have hcz15_1 : wc.cell? ⟨gb186, 1, none⟩ = some (.int .u64 0) := (blk_cell BK186.out 1).trans rfl
        have hfz15_0 := blk_frozen BK186.out 0
        have hfz15_1 := blk_frozen BK186.out 1
        go_wp2
        refine bodyPost_ret (results_cell_row rfl _ _ gb186 24 #[.int .u64 0, .int .u64 0] (0, 0) _ rfl (by (with_reducible repeat (first | refine blk_drewN ?_ _ | refine blk_drew ?_ | refine blk_alloc ?_ _)); refine blk_put (cs := #[.int .u64 0, .int .u64 0]) ?_ 1 _ rfl; (with_reducible repeat (first | refine blk_drewN ?_ _ | refine blk_drew ?_ | refine blk_alloc ?_ _)); refine blk_put (cs := #[.int .u64 0, .int .u64 0]) ?_ 0 _ rfl; (with_reducible repeat (first | refine blk_drewN ?_ _ | refine blk_drew ?_ | refine blk_alloc ?_ _)); exact BK186.out) Tryd.underlying24 rfl (by kernel_rfl)) rfl ?_
        exact ⟨by first | rfl | (simp [errW_none, errW_some] <;> rfl) | (simp only [← hji4, ← hji5, ← hji6, ← hji7]; first | rfl | (simp [errW_none, errW_some] <;> rfl)) | (simp [*, errW_none, errW_some] <;> rfl), by repeat (first | (with_reducible first | exact HB.out | apply below_alloc | apply pw_below_drewN | apply below_drew1 | refine below_set ?_ GE185.out | refine below_set ?_ GE186.out) | exact HB.out)⟩
      · replace c13 := Bool.eq_false_iff.mpr c13
        subst c13
        have H1 : ((bits_Set_Shift.f kj7 a0_0 a0_1 (wrap64 (-ji5))).bind fun bt187 => ((bits_Set_Shift.f kj7 bt187.1 bt187.2 (wrap64 ((wrap64 (ji5 + 90)) - ji7))).bind fun bt189 => ((bits_Set_Shift.f kj7 bt189.1 bt189.2 (wrap64 (ji7 - 90))).bind fun bt191 => (some (bt191.1, bt191.2))))) = some (r1, r2) := by rw [if_neg (show ¬ (false = true) by decide)] at H; exact H
        clear H
        have H := H1
        clear H1
        replace H := Option.bind_eq_some_iff.mp H
        obtain ⟨⟨t187, t188⟩, A160, H⟩ := H
        replace H : ((bits_Set_Shift.f kj7 t187 t188 (wrap64 ((wrap64 (ji5 + 90)) - ji7))).bind fun bt189 => ((bits_Set_Shift.f kj7 bt189.1 bt189.2 (wrap64 (ji7 - 90))).bind fun bt191 => (some (bt191.1, bt191.2)))) = some (r1, r2) := H
        have A16 := Aside0.mk A160
        clear A160
        replace H := Option.bind_eq_some_iff.mp H
        obtain ⟨⟨t189, t190⟩, A170, H⟩ := H
        replace H : ((bits_Set_Shift.f kj7 t189 t190 (wrap64 (ji7 - 90))).bind fun bt191 => (some (bt191.1, bt191.2))) = some (r1, r2) := H
        have A17 := Aside0.mk A170
        clear A170
        replace H := Option.bind_eq_some_iff.mp H
        obtain ⟨⟨t191, t192⟩, A180, H⟩ := H
        replace H : (some (t191, t192)) = some (r1, r2) := H
        have A18 := Aside0.mk A180
        clear A180
        simp only [Option.some.injEq, Prod.mk.injEq] at H
        obtain ⟨rfl, rfl⟩ := H
        have hnb19 := NB185_186.out
        have hnc19 := NB186_185.out
        have hcz20_0 : wc.cell? ⟨gb185, 0, none⟩ = some (.int .u64 a0_0) := (blk_cell BK185.out 0).trans rfl
        have hcz20_1 : wc.cell? ⟨gb185, 1, none⟩ = some (.int .u64 a0_1) := (blk_cell BK185.out 1).trans rfl
        have hfz20_0 := blk_frozen BK185.out 0
        have hfz20_1 := blk_frozen BK185.out 1
        go_wp2_with (first | ((with_reducible refine gate_callee (f := 41) rfl ?_); refine goesL_ (some 31) rfl rfl Tryd.func41 (by kernel_rfl) rfl #[.agg #[.int .u64 a0_0, .int .u64 a0_1], .int .i64 (wrap64 (-ji5))] rfl (by (try simp only [List.map_toArray, List.map_cons, List.map_nil]); first | done | (simp only [hji5]; rfl) | rfl | (simp only [List.length_drop, List.length_take]; rfl)) ?_; (with_reducible refine (bits_Set_Shift.calls kj7 a0_0 a0_1 (wrap64 (-ji5)) t187 t188 _ A16.out).mono ?_); rintro e w21 ⟨rfl, hb⟩; refine ⟨_, rfl, ?_⟩; have n0_ := Aside0.mk (blk_below (g := gb185) (o := .cells #[.int .u64 a0_0, .int .u64 a0_1] 24 (0, 0)) (by (with_reducible repeat (first | refine blk_drewN ?_ _ | refine blk_drew ?_ | refine blk_alloc ?_ _)); exact BK185.out) hb); have n1_ := Aside0.mk (blk_below (g := gb186) (o := .cells #[.int .u64 0, .int .u64 0] 24 (0, 0)) (by (with_reducible repeat (first | refine blk_drewN ?_ _ | refine blk_drew ?_ | refine blk_alloc ?_ _)); exact BK186.out) hb); have n2_ := Aside0.mk (below_step (by repeat (first | (with_reducible first | exact HB.out | apply below_alloc | apply pw_below_drewN | apply below_drew1 | refine below_set ?_ GE185.out | refine below_set ?_ GE186.out) | exact HB.out)) hb); clear BK185; clear BK186; clear HB; have BK185 := n0_; have BK186 := n1_; have HB := n2_; clear n0_ n1_ n2_; (try clear hb); (try clear hb2); (try clear hk); (try clear hi)) | ((with_reducible refine gate_callee (f := 41) rfl ?_); refine goesL_ (some 36) rfl rfl Tryd.func41 (by kernel_rfl) rfl #[.agg #[.int .u64 t187, .int .u64 t188], .int .i64 (wrap64 ((wrap64 (ji5 + 90)) - ji7))] rfl (by (try simp only [List.map_toArray, List.map_cons, List.map_nil]); first | done | (simp only [hji5, hji7]; rfl) | rfl | (simp only [List.length_drop, List.length_take]; rfl)) ?_; (with_reducible refine (bits_Set_Shift.calls kj7 t187 t188 (wrap64 ((wrap64 (ji5 + 90)) - ji7)) t189 t190 _ A17.out).mono ?_); rintro e w22 ⟨rfl, hb⟩; refine ⟨_, rfl, ?_⟩; have n0_ := Aside0.mk (blk_below (g := gb185) (o := .cells #[.int .u64 a0_0, .int .u64 a0_1] 24 (0, 0)) (by (with_reducible repeat (first | refine blk_drewN ?_ _ | refine blk_drew ?_ | refine blk_alloc ?_ _)); exact BK185.out) hb); have n1_ := Aside0.mk (blk_below (g := gb186) (o := .cells #[.int .u64 0, .int .u64 0] 24 (0, 0)) (by (with_reducible repeat (first | refine blk_drewN ?_ _ | refine blk_drew ?_ | refine blk_alloc ?_ _)); exact BK186.out) hb); have n2_ := Aside0.mk (below_step (by repeat (first | (with_reducible first | exact HB.out | apply below_alloc | apply pw_below_drewN | apply below_drew1 | refine below_set ?_ GE185.out | refine below_set ?_ GE186.out) | exact HB.out)) hb); clear BK185; clear BK186; clear HB; have BK185 := n0_; have BK186 := n1_; have HB := n2_; clear n0_ n1_ n2_; (try clear hb); (try clear hb2); (try clear hk); (try clear hi)) | ((with_reducible refine gate_callee (f := 41) rfl ?_); refine goesL_ (some 39) rfl rfl Tryd.func41 (by kernel_rfl) rfl #[.agg #[.int .u64 t189, .int .u64 t190], .int .i64 (wrap64 (ji7 - 90))] rfl (by (try simp only [List.map_toArray, List.map_cons, List.map_nil]); first | done | (simp only [hji7]; rfl) | rfl | (simp only [List.length_drop, List.length_take]; rfl)) ?_; (with_reducible refine (bits_Set_Shift.calls kj7 t189 t190 (wrap64 (ji7 - 90)) t191 t192 _ A18.out).mono ?_); rintro e w23 ⟨rfl, hb⟩; refine ⟨_, rfl, ?_⟩; have n0_ := Aside0.mk (blk_below (g := gb185) (o := .cells #[.int .u64 a0_0, .int .u64 a0_1] 24 (0, 0)) (by (with_reducible repeat (first | refine blk_drewN ?_ _ | refine blk_drew ?_ | refine blk_alloc ?_ _)); exact BK185.out) hb); have n1_ := Aside0.mk (blk_below (g := gb186) (o := .cells #[.int .u64 0, .int .u64 0] 24 (0, 0)) (by (with_reducible repeat (first | refine blk_drewN ?_ _ | refine blk_drew ?_ | refine blk_alloc ?_ _)); exact BK186.out) hb); have n2_ := Aside0.mk (below_step (by repeat (first | (with_reducible first | exact HB.out | apply below_alloc | apply pw_below_drewN | apply below_drew1 | refine below_set ?_ GE185.out | refine below_set ?_ GE186.out) | exact HB.out)) hb); clear BK185; clear BK186; clear HB; have BK185 := n0_; have BK186 := n1_; have HB := n2_; clear n0_ n1_ n2_; (try clear hb); (try clear hb2); (try clear hk); (try clear hi); have hcz24_0 : w23.cell? ⟨gb186, 0, none⟩ = some (.int .u64 0) := (blk_cell BK186.out 0).trans rfl; have hcz24_1 : w23.cell? ⟨gb186, 1, none⟩ = some (.int .u64 0) := (blk_cell BK186.out 1).trans rfl; have hfz24_0 := blk_frozen BK186.out 0; have hfz24_1 := blk_frozen BK186.out 1))
        refine bodyPost_ret (results_cell_row rfl _ _ gb186 24 #[.int .u64 t191, .int .u64 t192] (0, 0) _ rfl (by (with_reducible repeat (first | refine blk_drewN ?_ _ | refine blk_drew ?_ | refine blk_alloc ?_ _)); refine blk_put (cs := #[.int .u64 t191, .int .u64 0]) ?_ 1 _ rfl; (with_reducible repeat (first | refine blk_drewN ?_ _ | refine blk_drew ?_ | refine blk_alloc ?_ _)); refine blk_put (cs := #[.int .u64 0, .int .u64 0]) ?_ 0 _ rfl; (with_reducible repeat (first | refine blk_drewN ?_ _ | refine blk_drew ?_ | refine blk_alloc ?_ _)); exact BK186.out) Tryd.underlying24 rfl (by kernel_rfl)) rfl ?_
        exact ⟨by first | rfl | (simp [errW_none, errW_some] <;> rfl) | (simp only [← hji4, ← hji5, ← hji6, ← hji7]; first | rfl | (simp [errW_none, errW_some] <;> rfl)) | (simp [*, errW_none, errW_some] <;> rfl), by repeat (first | (with_reducible first | exact HB.out | apply below_alloc | apply pw_below_drewN | apply below_drew1 | refine below_set ?_ GE185.out | refine below_set ?_ GE186.out) | exact HB.out)⟩

/-! ### bits_Set_With: function 38 -/
def bits_Set_With.f (k : Nat) (a0_0 : Int) (a0_1 : Int) (a1 : Int) : Option (Int × Int) := (bits_one.f k a1).bind fun bt195 => ((bits_Set_Or.f a0_0 a0_1 bt195.1 bt195.2).bind fun bt197 => (some (bt197.1, bt197.2)))
theorem bits_Set_With.mono : ∀ a0 a1 a2 k, LeO (bits_Set_With.f k a0 a1 a2) (bits_Set_With.f (k + 1) a0 a1 a2) := by
  intro a0 a1 a2 k
  unfold bits_Set_With.f
  repeat' first
      | (with_reducible exact bits_one.mono _ _)
      | (with_reducible exact LeO.refl _)
      | (with_reducible exact LeO.none _)
      | (with_reducible refine LeO.ite ?_ ?_)
      | (with_reducible refine LeO.bind ?_ (fun _ => ?_))
      | exact bits_one.mono _ _
      | exact LeO.none _
      | refine LeO.ite ?_ ?_
      | refine LeO.bind ?_ (fun _ => ?_)
set_option maxHeartbeats 8000000 in
set_option maxRecDepth 100000 in
theorem bits_Set_With.calls (k : Nat) (a0_0 : Int) (a0_1 : Int) (a1 : Int) (r1 : Int) (r2 : Int) (w : World) (h : bits_Set_With.f k a0_0 a0_1 a1 = some (r1, r2)) :
    Calls Tryd.prog 38 #[.agg #[.int .u64 a0_0, .int .u64 a0_1], .int .i64 a1] w fun e w' => e = .returned (.agg #[.int .u64 r1, .int .u64 r2]) ∧ Below w.heap.size w w' := by
  have hu24 := Tryd.underlying24
  have HB := Aside0.mk (Below.refl w.heap.size w)
  have H : ((bits_one.f k a1).bind fun bt195 => ((bits_Set_Or.f a0_0 a0_1 bt195.1 bt195.2).bind fun bt197 => (some (bt197.1, bt197.2)))) = some (r1, r2) := h
  clear h
  replace H := Option.bind_eq_some_iff.mp H
  obtain ⟨⟨t195, t196⟩, A30, H⟩ := H
  replace H : ((bits_Set_Or.f a0_0 a0_1 t195 t196).bind fun bt197 => (some (bt197.1, bt197.2))) = some (r1, r2) := H
  have A3 := Aside0.mk A30
  clear A30
  replace H := Option.bind_eq_some_iff.mp H
  obtain ⟨⟨t197, t198⟩, A40, H⟩ := H
  replace H : (some (t197, t198)) = some (r1, r2) := H
  have A4 := Aside0.mk A40
  clear A40
  simp only [Option.some.injEq, Prod.mk.injEq] at H
  obtain ⟨rfl, rfl⟩ := H
  go_enter Tryd.func38, Tryd.ntmps38
  try go_wp2_with (first | ((with_reducible refine gate_dst (N := 2) rfl ?_); refine box_event ?hg (N := 2) ?hd (cs := #[.int .u64 a0_0, .int .u64 a0_1]) (t := 24) ?hr ?_; (case hd => rfl); (case hg => rfl); (case hr => first | (go_simp; done) | (go_simp; rfl)); intro gb193 hg w5 hbox hb; have n0_ := Aside0.mk (below_step (by repeat (first | (with_reducible first | exact HB.out | apply below_alloc | apply pw_below_drewN | apply below_drew1) | exact HB.out)) hb); have n1_ := Aside0.mk (hbox); have n2_ := Aside0.mk ((by rw [hg]; exact (below_size (by repeat (first | (with_reducible first | exact HB.out | apply below_alloc | apply pw_below_drewN | apply below_drew1) | exact HB.out))) : w.heap.size ≤ gb193)); have n3_ := Aside0.mk ((by rw [hg]; exact (below_size (by repeat (first | (with_reducible first | exact HB.out | apply below_alloc | apply pw_below_drewN | apply below_drew1) | exact HB.out))) : w.heap.size ≤ gb193)); clear HB; have HB := n0_; have BK193 := n1_; have GW193 := n2_; have GE193 := n3_; clear n0_ n1_ n2_ n3_; clear hb hbox hg) | ((with_reducible refine gate_dst (N := 4) rfl ?_); refine box_event ?hg (N := 4) ?hd (cs := #[.int .u64 0, .int .u64 0]) (t := 24) ?hr ?_; (case hd => rfl); (case hg => rfl); (case hr => first | (go_simp; done) | (go_simp; rfl)); intro gb194 hg w6 hbox hb; have n0_ := Aside0.mk (blk_below (g := gb193) (o := .cells #[.int .u64 a0_0, .int .u64 a0_1] 24 (0, 0)) (by (with_reducible repeat (first | refine blk_drewN ?_ _ | refine blk_drew ?_ | refine blk_alloc ?_ _)); exact BK193.out) hb); have n1_ := Aside0.mk (below_step (by repeat (first | (with_reducible first | exact HB.out | apply below_alloc | apply pw_below_drewN | apply below_drew1 | refine below_set ?_ GE193.out) | exact HB.out)) hb); have n2_ := Aside0.mk (hbox); have n3_ := Aside0.mk ((by rw [hg]; exact (below_size (by repeat (first | (with_reducible first | exact HB.out | apply below_alloc | apply pw_below_drewN | apply below_drew1 | refine below_set ?_ GE193.out) | exact HB.out))) : w.heap.size ≤ gb194)); have n4_ := Aside0.mk ((by rw [hg]; exact (below_size (by repeat (first | (with_reducible first | exact HB.out | apply below_alloc | apply pw_below_drewN | apply below_drew1 | refine below_set ?_ GE193.out) | exact HB.out))) : w.heap.size ≤ gb194)); have n5_ := Aside0.mk ((by rw [hg]; exact Nat.ne_of_lt (blk_lt (g := gb193) (o := .cells #[.int .u64 a0_0, .int .u64 a0_1] 24 (0, 0)) (by (with_reducible repeat (first | refine blk_drewN ?_ _ | refine blk_drew ?_ | refine blk_alloc ?_ _)); exact BK193.out)) : gb193 ≠ gb194)); have n6_ := Aside0.mk ((by rw [hg]; exact Nat.ne_of_gt (blk_lt (g := gb193) (o := .cells #[.int .u64 a0_0, .int .u64 a0_1] 24 (0, 0)) (by (with_reducible repeat (first | refine blk_drewN ?_ _ | refine blk_drew ?_ | refine blk_alloc ?_ _)); exact BK193.out)) : gb194 ≠ gb193)); clear BK193; clear HB; have BK193 := n0_; have HB := n1_; have BK194 := n2_; have GW194 := n3_; have GE194 := n4_; have NB193_194 := n5_; have NB194_193 := n6_; clear n0_ n1_ n2_ n3_ n4_ n5_ n6_; clear hb hbox hg))
  have n0_ := Aside0.mk (blk_drew BK193.out)
  have n1_ := Aside0.mk (blk_drew BK194.out)
  have n2_ := Aside0.mk (below_drew1 HB.out)
  clear BK193
  clear BK194
  clear HB
  have BK193 := n0_
  have BK194 := n1_
  have HB := n2_
  clear n0_ n1_ n2_
  refine start_ (n := 5) (S := fun w' => w'.cell? ⟨gb193, 0, none⟩ = some (.int .u64 a0_0) ∧ w'.cell? ⟨gb193, 1, none⟩ = some (.int .u64 a0_1)) (ds := []) #[false, false, false, false, false] (by kernel_rfl) rfl rfl ⟨(blk_cell BK193.out 0).trans rfl, (blk_cell BK193.out 1).trans rfl⟩ (fun hHeld => ?_)
  generalize w6.drew = w7 at BK193 BK194 HB hHeld ⊢
  refine pure_ (i := 1) (N := some 6) (v := ?_) (a' := ?_) #[false, true, false, false, false] rfl rfl (by kernel_rfl) (fun _ _ _ h => h) (Or.inl ⟨by rfl, ?_⟩) ?_ ?_
  rotate_left
  · intro w'
    go_simp
    with_reducible rfl
  rotate_left
  · simp only [Act.put, List.setIfInBounds_toArray, List.set_cons_zero, List.set_cons_succ, i64_w, i32_w]
    rfl
  refine take_ (i := 0) (N := some 5) (v := ?_) (a' := ?_) #[true, true, false, false, false] rfl rfl (by kernel_rfl) (fun _ _ _ h => h) (Or.inl ⟨by rfl, ?_⟩) hHeld ?_ ?_
  rotate_left
  · rintro w' ⟨s0, s1⟩
    go_simp
    with_reducible rfl
  rotate_left
  · simp only [Act.put, List.setIfInBounds_toArray, List.set_cons_zero, List.set_cons_succ, i64_w, i32_w]
    rfl
  refine one_ (i := 2) (N := some 7) #[true, true, true, false, false] rfl rfl (by kernel_rfl) (by decide) (fun K hK => ?_)
  refine goes_ Tryd.func93 (by kernel_rfl) rfl #[.int .i64 a1] (by rfl) rfl rfl (by (try simp only [List.map_toArray, List.map_cons, List.map_nil]); first | done | rfl | (simp only [List.length_drop, List.length_take]; rfl)) ?_
  with_reducible refine (bits_one.calls k a1 t195 t196 _ A3.out).mono ?_
  rintro e w8 ⟨rfl, hb⟩
  refine ⟨_, rfl, ?_⟩
  have n0_ := Aside0.mk (blk_below (g := gb193) (o := .cells #[.int .u64 a0_0, .int .u64 a0_1] 24 (0, 0)) (by (with_reducible repeat (first | refine blk_drewN ?_ _ | refine blk_drew ?_ | refine blk_alloc ?_ _)); exact BK193.out) hb)
  have n1_ := Aside0.mk (blk_below (g := gb194) (o := .cells #[.int .u64 0, .int .u64 0] 24 (0, 0)) (by (with_reducible repeat (first | refine blk_drewN ?_ _ | refine blk_drew ?_ | refine blk_alloc ?_ _)); exact BK194.out) hb)
  have n2_ := Aside0.mk (below_step (by repeat (first | (with_reducible first | exact HB.out | apply below_alloc | apply pw_below_drewN | apply below_drew1 | refine below_set ?_ GE193.out | refine below_set ?_ GE194.out) | exact HB.out)) hb)
  clear BK193
  clear BK194
  clear HB
  have BK193 := n0_
  have BK194 := n1_
  have HB := n2_
  clear n0_ n1_ n2_
  (try clear hb)
  (try clear hb2)
  (try clear hk)
  (try clear hi)
  refine hK.out _ _ ⟨(blk_cell BK193.out 0).trans rfl, (blk_cell BK193.out 1).trans rfl⟩ (fun hHeld => ?_)
  clear hK K
  refine norm_ (a' := ?_) ?_ ?_
  rotate_left
  · show Act.put _ (some 7) _ = _
    simp only [Act.put, List.setIfInBounds_toArray, List.set_cons_zero, List.set_cons_succ, i64_w, i32_w]
    rfl
  refine one_ (i := 3) (N := some 8) #[true, true, true, true, false] rfl rfl (by kernel_rfl) (by decide) (fun K hK => ?_)
  refine goes_ Tryd.func24 (by kernel_rfl) rfl #[.agg #[.int .u64 a0_0, .int .u64 a0_1], .agg #[.int .u64 t195, .int .u64 t196]] (by rfl) rfl rfl (by (try simp only [List.map_toArray, List.map_cons, List.map_nil]); first | done | rfl | (simp only [List.length_drop, List.length_take]; rfl)) ?_
  with_reducible refine (bits_Set_Or.calls a0_0 a0_1 t195 t196 t197 t198 _ A4.out).mono ?_
  rintro e w9 ⟨rfl, hb⟩
  refine ⟨_, rfl, ?_⟩
  have n0_ := Aside0.mk (blk_below (g := gb193) (o := .cells #[.int .u64 a0_0, .int .u64 a0_1] 24 (0, 0)) (by (with_reducible repeat (first | refine blk_drewN ?_ _ | refine blk_drew ?_ | refine blk_alloc ?_ _)); exact BK193.out) hb)
  have n1_ := Aside0.mk (blk_below (g := gb194) (o := .cells #[.int .u64 0, .int .u64 0] 24 (0, 0)) (by (with_reducible repeat (first | refine blk_drewN ?_ _ | refine blk_drew ?_ | refine blk_alloc ?_ _)); exact BK194.out) hb)
  have n2_ := Aside0.mk (below_step (by repeat (first | (with_reducible first | exact HB.out | apply below_alloc | apply pw_below_drewN | apply below_drew1 | refine below_set ?_ GE193.out | refine below_set ?_ GE194.out) | exact HB.out)) hb)
  clear BK193
  clear BK194
  clear HB
  have BK193 := n0_
  have BK194 := n1_
  have HB := n2_
  clear n0_ n1_ n2_
  (try clear hb)
  (try clear hb2)
  (try clear hk)
  (try clear hi)
  refine hK.out _ _ ⟨(blk_cell BK193.out 0).trans rfl, (blk_cell BK193.out 1).trans rfl⟩ (fun hHeld => ?_)
  clear hK K
  refine norm_ (a' := ?_) ?_ ?_
  rotate_left
  · show Act.put _ (some 8) _ = _
    simp only [Act.put, List.setIfInBounds_toArray, List.set_cons_zero, List.set_cons_succ, i64_w, i32_w]
    rfl
  refine one_ (i := 4) (N := none) #[true, true, true, true, true] rfl rfl (by kernel_rfl) (by decide) (fun K hK => ?_)
  have hs10 : w9.cell? ⟨gb194, 0, none⟩ = some (.int .u64 0) := (blk_cell BK194.out 0).trans rfl
  have hfs10 := blk_frozen BK194.out 0
  have hns10_0 := NB193_194.out
  have hms10_0 := NB194_193.out
  have hs11 : w9.cell? ⟨gb194, 1, none⟩ = some (.int .u64 0) := (blk_cell BK194.out 1).trans rfl
  have hfs11 := blk_frozen BK194.out 1
  have hns11_0 := NB193_194.out
  have hms11_0 := NB194_193.out
  refine skip_ (w1 := ?_) (by rfl) rfl ?_ ?_
  rotate_left
  · go_simp
    rfl
  refine hK.out _ _ ⟨((cell_far (p := ⟨gb194, _, none⟩) NB193_194.out _).trans (((cell_far (p := ⟨gb194, _, none⟩) NB193_194.out _).trans (hHeld.1)))), ((cell_far (p := ⟨gb194, _, none⟩) NB193_194.out _).trans (((cell_far (p := ⟨gb194, _, none⟩) NB193_194.out _).trans (hHeld.2))))⟩ (fun hHeld => ?_)
  clear hK K
  refine done_ (by kernel_rfl) ?_
  try go_wp2
  refine bodyPost_ret (results_cell_row rfl _ _ gb194 24 #[.int .u64 t197, .int .u64 t198] (0, 0) _ rfl (by (with_reducible repeat (first | refine blk_drewN ?_ _ | refine blk_drew ?_ | refine blk_alloc ?_ _)); refine blk_put (cs := #[.int .u64 t197, .int .u64 0]) ?_ 1 _ rfl; (with_reducible repeat (first | refine blk_drewN ?_ _ | refine blk_drew ?_ | refine blk_alloc ?_ _)); refine blk_put (cs := #[.int .u64 0, .int .u64 0]) ?_ 0 _ rfl; (with_reducible repeat (first | refine blk_drewN ?_ _ | refine blk_drew ?_ | refine blk_alloc ?_ _)); exact BK194.out) Tryd.underlying24 rfl (by kernel_rfl)) rfl ?_
  exact ⟨by first | rfl | (simp [errW_none, errW_some] <;> rfl) | (simp [*, errW_none, errW_some] <;> rfl), by repeat (first | (with_reducible first | exact HB.out | apply below_alloc | apply pw_below_drewN | apply below_drew1 | refine below_set ?_ GE193.out | refine below_set ?_ GE194.out) | exact HB.out)⟩

end Go.Proofs.YtkbimiimgcklaaaDoor.Print
