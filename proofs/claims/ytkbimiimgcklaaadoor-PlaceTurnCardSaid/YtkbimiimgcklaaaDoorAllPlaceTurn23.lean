/- Merged by a program of this session (wip/gprint/merge.py): what this claim needs of this session's texts, each part as it was. -/
import Derived.Test.YtkbimiimgcklaaaDoorAllPlaceTurn4
import Derived.Test.YtkbimiimgcklaaaDoorAllPlaceTurn20
namespace Go.Proofs.YtkbimiimgcklaaaDoor.BitMath
end Go.Proofs.YtkbimiimgcklaaaDoor.BitMath
namespace Go.Proofs.YtkbimiimgcklaaaDoor.Print
end Go.Proofs.YtkbimiimgcklaaaDoor.Print
namespace Go.Proofs.YtkbimiimgcklaaaDoor.SetMath
end Go.Proofs.YtkbimiimgcklaaaDoor.SetMath

-- of YtkbimiimgcklaaaDoorSetMath
/- What the program's sets of squares hold: each operation's answer, square by square. -/
namespace Go.Proofs.YtkbimiimgcklaaaDoor.SetMath
open Go.RowKit Go.Proofs.YtkbimiimgcklaaaDoor.Print Go.Proofs.YtkbimiimgcklaaaDoor.BitMath Go.Proofs.YtkbimiimgcklaaaDoorW.PrintWords Go.Proofs.YtkbimiimgcklaaaDoorW.PrintLast Go.Proofs.YtkbimiimgcklaaaDoorW.PrintMore

/-- A set without bits of no moment. -/
structure Can (lo hi : Int) : Prop where
  l0 : 0 ≤ lo
  l1 : lo < 35184372088832
  h0 : 0 ≤ hi
  h1 : hi < 35184372088832
theorem Can.lo {lo hi : Int} (h : Can lo hi) : U lo := ⟨h.l0, by have := h.l1; omega⟩
theorem Can.hi {lo hi : Int} (h : Can lo hi) : U hi := ⟨h.h0, by have := h.h1; omega⟩
/-- Has a set square n? -/
def mem (lo hi : Int) (n : Nat) : Bool := if n < 45 then tb lo n else tb hi (n - 45)
/-- The squares of a set, rising. -/
def setL (lo hi : Int) : List Int := ((List.range 90).filter (mem lo hi)).map fun (n : Nat) => (n : Int)
theorem pow45 : (2 : Nat) ^ 45 = 35184372088832 := by decide
theorem tb_small {x : Int} (h0 : 0 ≤ x) (h1 : x < 35184372088832) (i : Nat) (hi : 45 ≤ i) : tb x i = false := by
  unfold tb
  refine Nat.testBit_lt_two_pow (Nat.lt_of_lt_of_le ?_ (Nat.pow_le_pow_right (by decide) hi))
  rw [pow45]; omega
theorem Can.ext {a b c d : Int} (h : Can a b) (g : Can c d) (e : ∀ n, n < 90 → mem a b n = mem c d n) : a = c ∧ b = d := by
  constructor
  · refine tb_ext h.l0 g.l0 fun i => ?_
    by_cases hi : i < 45
    · have := e i (by omega); simpa [mem, hi] using this
    · rw [tb_small h.l0 h.l1 i (by omega), tb_small g.l0 g.l1 i (by omega)]
  · refine tb_ext h.h0 g.h0 fun i => ?_
    by_cases hi : i < 45
    · have := e (i + 45) (by omega)
      unfold mem at this
      rw [if_neg (by omega), if_neg (by omega), show i + 45 - 45 = i by omega] at this
      exact this
    · rw [tb_small h.h0 h.h1 i (by omega), tb_small g.h0 g.h1 i (by omega)]

/-- A word's bits of moment. -/
def pl (x : Int) : Int := Go.bits .and .u64 x 35184372088831
theorem tb_pl {x : Int} (h : U x) (i : Nat) : tb (pl x) i = (decide (i < 45) && tb x i) := by
  unfold pl; rw [tb_and h U_mask, tb_mask, Bool.and_comm]
theorem pl_nn {x : Int} : 0 ≤ pl x := (U_bits _ _ _).1
theorem pl_lt {x : Int} (h : U x) : pl x < 35184372088832 := by
  have h1 := Nat.lt_pow_two_of_testBit (n := 45) (pl x).toNat (fun i hi => by
    have := tb_pl h i
    unfold tb at this
    rw [this, decide_eq_false (by omega : ¬ i < 45)]; rfl)
  rw [pow45] at h1
  have := pl_nn (x := x)
  omega
theorem pl_can {x y : Int} (h : U x) (g : U y) : Can (pl x) (pl y) := ⟨pl_nn, pl_lt h, pl_nn, pl_lt g⟩
theorem pl_mem {x y : Int} (h : U x) (g : U y) (n : Nat) (hn : n < 90) : mem (pl x) (pl y) n = mem x y n := by
  unfold mem
  by_cases c : n < 45
  · rw [if_pos c, if_pos c, tb_pl h]; simp [c]
  · rw [if_neg c, if_neg c, tb_pl g]; simp [show n - 45 < 45 by omega]
theorem pl_same {x y : Int} (h : Can x y) : pl x = x ∧ pl y = y := (pl_can h.lo h.hi).ext h (fun n hn => pl_mem h.lo h.hi n hn)
theorem plain_f (x y : Int) : bits_Set_plain.f x y = some (pl x, pl y) := rfl

/-- What an operation on sets answers: r, each square by p. -/
structure Tells (r : Int × Int) (p : Nat → Bool) : Prop where
  can : Can r.1 r.2
  mem : ∀ n, n < 90 → mem r.1 r.2 n = p n
theorem Tells.eq {r s : Int × Int} {p q : Nat → Bool} (h : Tells r p) (g : Tells s q) (e : ∀ n, n < 90 → p n = q n) : r = s := by
  obtain ⟨a, b⟩ := h.can.ext g.can (fun n hn => by rw [h.mem n hn, g.mem n hn, e n hn])
  exact Prod.ext a b
theorem Tells.of {r : Int × Int} (h : Can r.1 r.2) : Tells r (SetMath.mem r.1 r.2) := ⟨h, fun _ _ => rfl⟩
theorem tells_pl {x y : Int} (h : U x) (g : U y) (p : Nat → Bool) (hp : ∀ n, n < 90 → SetMath.mem x y n = p n) : Tells (pl x, pl y) p := ⟨pl_can h g, fun n hn => (pl_mem h g n hn).trans (hp n hn)⟩

theorem Or_f {a b c d : Int} (ha : U a) (hb : U b) (hc : U c) (hd : U d) : ∃ r, bits_Set_Or.f a b c d = some r ∧ Tells r (fun n => SetMath.mem a b n || SetMath.mem c d n) := by
  refine ⟨_, rfl, tells_pl (U_bits _ _ _) (U_bits _ _ _) _ fun n hn => ?_⟩
  unfold SetMath.mem
  by_cases h : n < 45
  · simp only [if_pos h]; exact tb_or ha hc n
  · simp only [if_neg h]; exact tb_or hb hd _
theorem Minus_f {a b c d : Int} (ha : U a) (hb : U b) (hc : U c) (hd : U d) : ∃ r, bits_Set_Minus.f a b c d = some r ∧ Tells r (fun n => SetMath.mem a b n && !SetMath.mem c d n) := by
  refine ⟨_, rfl, tells_pl (U_bits _ _ _) (U_bits _ _ _) _ fun n hn => ?_⟩
  unfold SetMath.mem
  by_cases h : n < 45
  · simp only [if_pos h]; exact tb_andNot ha hc n
  · simp only [if_neg h]; exact tb_andNot hb hd _
theorem pow_lt (n : Nat) (hn : n < 45) : ((2 ^ n : Nat) : Int) < 35184372088832 := by
  have h : (2 : Nat) ^ n < 2 ^ 45 := Nat.pow_lt_pow_right (by decide) hn
  rw [pow45] at h
  obtain ⟨x, hx⟩ : ∃ x, x = 2 ^ n := ⟨_, rfl⟩
  rw [← hx] at h ⊢
  omega
theorem pow_nn (n : Nat) : (0 : Int) ≤ ((2 ^ n : Nat) : Int) := Int.natCast_nonneg _
theorem shl_one (n : Nat) (hn : n < 45) : shl .u64 1 (n : Int) = ((2 ^ n : Nat) : Int) := by
  unfold shl
  rw [show min (n : Int).toNat IntKind.u64.bits = n by simp [IntKind.bits]; omega, u64_wrap, Int.one_mul]
  have e : ((2 : Int) ^ n) = ((2 ^ n : Nat) : Int) := by simp
  have h0 := pow_nn n
  have h1 := pow_lt n hn
  rw [e]
  obtain ⟨x, hx⟩ : ∃ x : Int, x = ((2 ^ n : Nat) : Int) := ⟨_, rfl⟩
  rw [← hx] at h0 h1 ⊢
  omega
theorem one_f (k : Nat) (n : Int) : ∃ r, bits_one.f (k + 1) n = some r ∧ Tells r (fun i => decide ((i : Int) = n)) := by
  unfold bits_one.f
  have z : ∀ p : Nat → Bool, (∀ i, i < 90 → p i = false) → Tells ((0 : Int), (0 : Int)) p := fun p hp => ⟨⟨by decide, by decide, by decide, by decide⟩, fun i hi => by rw [hp i hi]; unfold SetMath.mem; split <;> exact tb_zero _⟩
  by_cases h0 : n < 0
  · rw [if_pos h0]
    refine ⟨(0, 0), by simp [bits_one.j0], z _ fun i hi => by simp; omega⟩
  · rw [if_neg h0]
    by_cases h1 : n ≥ 90
    · refine ⟨(0, 0), by simp [bits_one.j0, h1], z _ fun i hi => by simp; omega⟩
    · obtain ⟨m, rfl⟩ : ∃ m : Nat, n = m := ⟨n.toNat, by omega⟩
      have hm : m < 90 := by omega
      by_cases h2 : m < 45
      · refine ⟨(((2 ^ m : Nat) : Int), 0), ?_, ⟨⟨pow_nn m, pow_lt m h2, Int.le_refl 0, (by decide : (0 : Int) < 35184372088832)⟩, fun i hi => ?_⟩⟩
        · simp only [bits_one.j0, decide_eq_false h1]
          rw [if_neg (by decide), if_pos (by omega), if_pos (by omega), shl_one m h2]
        · unfold SetMath.mem
          by_cases c : i < 45
          · rw [if_pos c, tb_cast, Nat.testBit_two_pow]; exact decide_eq_decide.2 (by omega)
          · rw [if_neg c, tb_zero]; exact (decide_eq_false (by omega)).symm
      · have e : wrap64 ((m : Int) - 45) = ((m - 45 : Nat) : Int) := by unfold wrap64; omega
        refine ⟨(0, ((2 ^ (m - 45) : Nat) : Int)), ?_, ⟨⟨Int.le_refl 0, (by decide : (0 : Int) < 35184372088832), pow_nn _, pow_lt (m - 45) (by omega)⟩, fun i hi => ?_⟩⟩
        · simp only [bits_one.j0, decide_eq_false h1]
          rw [if_neg (by decide), if_neg (by omega), e, if_pos (by omega), shl_one (m - 45) (by omega)]
        · unfold SetMath.mem
          by_cases c : i < 45
          · rw [if_pos c, tb_zero]; exact (decide_eq_false (by omega)).symm
          · rw [if_neg c, tb_cast, Nat.testBit_two_pow]; exact decide_eq_decide.2 (by omega)
theorem Without_f (k : Nat) {a b : Int} (ha : U a) (hb : U b) (n : Int) : ∃ r, bits_Set_Without.f (k + 1) a b n = some r ∧ Tells r (fun i => SetMath.mem a b i && !decide ((i : Int) = n)) := by
  obtain ⟨o, ho, ht⟩ := one_f k n
  obtain ⟨r, hr, tr⟩ := Minus_f ha hb ht.can.lo ht.can.hi
  refine ⟨r, by unfold bits_Set_Without.f; rw [ho]; simp only [Option.bind_some]; rw [hr]; rfl, tr.can, fun i hi => ?_⟩
  rw [tr.mem i hi, ht.mem i hi]

/-! The lowest square. -/
theorem ctzFrom_low : ∀ (f x : Nat), 0 < x → x < 2 ^ f → x.testBit (Lib.ctzFrom f x) = true ∧ (∀ j, j < Lib.ctzFrom f x → x.testBit j = false) ∧ Lib.ctzFrom f x < f := by
  intro f x h0 h1
  obtain ⟨m, hm, hlt⟩ := Lib.ctzFrom_spec f x h0 h1
  obtain ⟨c, hc⟩ : ∃ c, c = Lib.ctzFrom f x := ⟨_, rfl⟩
  rw [← hc] at hm hlt ⊢
  refine ⟨?_, fun j hj => ?_, hlt⟩
  · rw [hm, Nat.testBit_two_pow_mul]; simp
  · rw [hm, Nat.testBit_two_pow_mul]; simp; omega
theorem ctz_low (x : Int) (h : U x) (hx : x ≠ 0) : ∃ c : Nat, bits_TrailingZeros64.f x = some (c : Int) ∧ tb x c = true ∧ (∀ j, j < c → tb x j = false) ∧ c < 64 := by
  obtain ⟨n, rfl, hn⟩ := U_nat h
  have hn0 : n ≠ 0 := by omega
  obtain ⟨a, b, c⟩ := ctzFrom_low 64 n (by omega) (by omega)
  refine ⟨Lib.ctzFrom 64 n, ?_, ?_, fun j hj => ?_, c⟩
  · unfold bits_TrailingZeros64.f; rw [if_pos ⟨by omega, by omega⟩]
    simp [Lib.ctz, hn0]
  · rw [tb_cast]; exact a
  · rw [tb_cast]; exact b j hj
/-- First: the lowest square, -1 where there is none. -/
theorem First_f {a b : Int} (ha : U a) (hb : U b) : (bits_Set_First.f a b = some (-1) ∧ (∀ n, n < 90 → mem a b n = false) ∧ pl a = 0 ∧ pl b = 0) ∨
    (∃ n : Nat, bits_Set_First.f a b = some (n : Int) ∧ n < 90 ∧ mem a b n = true ∧ (∀ j, j < n → mem a b j = false) ∧ (pl a ≠ 0 ∨ pl b ≠ 0)) := by
  have hm := fun n hn => pl_mem ha hb n hn
  have hc := pl_can ha hb
  unfold bits_Set_First.f
  rw [plain_f]
  simp only [Option.bind_some]
  by_cases h1 : pl a = 0
  · rw [if_pos h1]
    by_cases h2 : pl b = 0
    · rw [if_pos h2]
      refine .inl ⟨rfl, fun n hn => ?_, h1, h2⟩
      rw [← hm n hn, h1, h2]; unfold mem; split <;> exact tb_zero _
    · rw [if_neg h2]
      obtain ⟨c, e, t1, t2, t3⟩ := ctz_low (pl b) hc.hi h2
      have c45 : c < 45 := by
        rcases Nat.lt_or_ge c 45 with h | h
        · exact h
        · rw [tb_small hc.h0 hc.h1 c h] at t1; cases t1
      refine .inr ⟨45 + c, ?_, by omega, ?_, fun j hj => ?_, .inr h2⟩
      · rw [e]; simp only [Option.bind_some]; exact congrArg some (show wrap64 (45 + (c : Int)) = ((45 + c : Nat) : Int) by unfold wrap64; omega)
      · rw [← hm _ (by omega)]; unfold mem; rw [if_neg (by omega), show 45 + c - 45 = c by omega]; exact t1
      · rw [← hm _ (by omega)]; unfold mem
        by_cases c2 : j < 45
        · rw [if_pos c2, h1]; exact tb_zero _
        · rw [if_neg c2]; exact t2 _ (by omega)
  · rw [if_neg h1]
    obtain ⟨c, e, t1, t2, t3⟩ := ctz_low (pl a) hc.lo h1
    have c45 : c < 45 := by
      rcases Nat.lt_or_ge c 45 with h | h
      · exact h
      · rw [tb_small hc.l0 hc.l1 c h] at t1; cases t1
    refine .inr ⟨c, by rw [e]; rfl, by omega, ?_, fun j hj => ?_, .inl h1⟩
    · rw [← hm _ (by omega)]; unfold mem; rw [if_pos c45]; exact t1
    · rw [← hm _ (by omega)]; unfold mem; rw [if_pos (by omega)]; exact t2 j hj

/-! The list of squares. -/
theorem filter_cons (p q : Nat → Bool) (n : Nat) (hn : p n = true) (hlow : ∀ j, j < n → p j = false) (hq : ∀ i, q i = (p i && !decide (i = n))) : ∀ N, n < N → (List.range N).filter p = n :: (List.range N).filter q := by
  intro N
  induction N with
  | zero => intro h; omega
  | succ N ih =>
    intro h
    rw [List.range_succ, List.filter_append, List.filter_append]
    rcases Nat.lt_or_ge n N with c | c
    · rw [ih c]
      have : q N = p N := by rw [hq]; simp; intro _; omega
      simp [List.filter_cons, this]
    · obtain rfl : n = N := by omega
      have e1 : (List.range n).filter p = [] := by
        rw [List.filter_eq_nil_iff]; intro a ha; rw [hlow a (List.mem_range.1 ha)]; decide
      have e2 : (List.range n).filter q = [] := by
        rw [List.filter_eq_nil_iff]; intro a ha; rw [hq, hlow a (List.mem_range.1 ha)]; simp
      have e3 : q n = false := by rw [hq]; simp
      rw [e1, e2]; simp [hn, e3]
theorem setL_congr {a b c d : Int} (h : ∀ n, n < 90 → mem a b n = mem c d n) : setL a b = setL c d := by
  unfold setL
  rw [List.filter_congr (fun n hn => h n (List.mem_range.1 hn))]
theorem setL_pl {a b : Int} (ha : U a) (hb : U b) : setL (pl a) (pl b) = setL a b := setL_congr (fun n hn => pl_mem ha hb n hn)
/-- The list, one square at a time: the lowest one, then those of the rest. -/
theorem setL_step {a b : Int} (h : Can a b) : (bits_Set_First.f a b = some (-1) ∧ setL a b = [] ∧ a = 0 ∧ b = 0) ∨
    (∃ (n : Nat) (r : Int × Int), bits_Set_First.f a b = some (n : Int) ∧ (∀ k, bits_Set_Without.f (k + 1) a b n = some r) ∧ Can r.1 r.2 ∧ setL a b = (n : Int) :: setL r.1 r.2 ∧ (a ≠ 0 ∨ b ≠ 0) ∧ n < 90) := by
  obtain ⟨ea, eb⟩ := pl_same h
  rcases First_f h.lo h.hi with ⟨h1, h2, h3, h4⟩ | ⟨n, h1, h2, h3, h4, h5⟩
  · refine .inl ⟨h1, ?_, by rw [← ea]; exact h3, by rw [← eb]; exact h4⟩
    unfold setL
    rw [List.map_eq_nil_iff, List.filter_eq_nil_iff]
    intro x hx; rw [h2 x (List.mem_range.1 hx)]; decide
  · obtain ⟨r, hr, tr⟩ := Without_f 0 h.lo h.hi n
    refine .inr ⟨n, r, h1, fun k => ?_, tr.can, ?_, by rw [ea, eb] at h5; exact h5, h2⟩
    · obtain ⟨r', hr', tr'⟩ := Without_f k h.lo h.hi n
      rw [hr', tr'.eq tr (fun _ _ => rfl)]
    · unfold setL
      have e := filter_cons (mem a b) (fun i => mem a b i && !decide (i = n)) n h3 h4 (fun _ => rfl) 90 h2
      rw [e, List.map_cons]
      congr 2
      refine List.filter_congr fun i hi => ?_
      rw [tr.mem i (List.mem_range.1 hi)]
      congr 2
      by_cases c : i = n
      · simp [c]
      · have : ¬ (i : Int) = (n : Int) := by omega
        simp [c, this]
end Go.Proofs.YtkbimiimgcklaaaDoor.SetMath
