/- Merged by a program of this session (wip/gprint/merge.py): what this claim needs of this session's texts, each part as it was. -/
import Derived.Laws.Entries
import Derived.Laws.Bits64b
import Derived.Lib.TrailingZeros
import Derived.Lib.BitFns
namespace Go.Proofs.YtkbimiimgcklaaaDoor.BitMath
end Go.Proofs.YtkbimiimgcklaaaDoor.BitMath

-- of YtkbimiimgcklaaaDoorBitMath
/- Bits of words of 64 bits, as Go's operators tell them; how many bits a word has, by Go's text of OnesCount64. No program in sight. -/
namespace Go.Proofs.YtkbimiimgcklaaaDoor.BitMath
open Go

/-- A word of 64 bits. -/
def U (x : Int) : Prop := 0 ≤ x ∧ x < 18446744073709551616
/-- Bit i of a word. -/
def tb (x : Int) (i : Nat) : Bool := x.toNat.testBit i

theorem tb_hi {x : Int} (h : U x) (i : Nat) (hi : 64 ≤ i) : tb x i = false := by
  unfold tb
  refine Nat.testBit_lt_two_pow ?_
  have h2 : (2 : Nat) ^ 64 ≤ 2 ^ i := Nat.pow_le_pow_right (by decide) hi
  have := h.1; have := h.2
  have e : (2 : Nat) ^ 64 = 18446744073709551616 := by decide
  omega
theorem tb_ext {x y : Int} (hx : 0 ≤ x) (hy : 0 ≤ y) (h : ∀ i, tb x i = tb y i) : x = y := by
  have := Nat.eq_of_testBit_eq (x := x.toNat) (y := y.toNat) h
  omega
theorem tb_cast (n i : Nat) : tb (n : Int) i = n.testBit i := by simp [tb]
theorem U_nat {x : Int} (h : U x) : ∃ n : Nat, x = n ∧ n < 18446744073709551616 := ⟨x.toNat, by have := h.1; omega, by have := h.1; have := h.2; omega⟩
theorem u64_wrap (n : Int) : IntKind.u64.wrap n = n % 18446744073709551616 := IntKind.wrap_u64 n
theorem U_wrap (n : Int) : U (IntKind.u64.wrap n) := by rw [u64_wrap]; exact ⟨by omega, by omega⟩
theorem U_bits (op : BinOp) (x y : Int) : U (bits op .u64 x y) := by unfold bits; exact U_wrap _

theorem tb_and {x y : Int} (hx : U x) (hy : U y) (i : Nat) : tb (bits .and .u64 x y) i = (tb x i && tb y i) := by
  obtain ⟨a, rfl, ha⟩ := U_nat hx
  obtain ⟨b, rfl, hb⟩ := U_nat hy
  rw [bits_and_u64_nat a b ha hb, tb_cast, tb_cast, tb_cast, Nat.testBit_and]
theorem tb_or {x y : Int} (hx : U x) (hy : U y) (i : Nat) : tb (bits .or .u64 x y) i = (tb x i || tb y i) := by
  obtain ⟨a, rfl, ha⟩ := U_nat hx
  obtain ⟨b, rfl, hb⟩ := U_nat hy
  rw [bits_or_u64_nat a b ha hb, tb_cast, tb_cast, tb_cast, Nat.testBit_or]
theorem bits_andNot_nat (a b : Nat) (ha : a < 18446744073709551616) (hb : b < 18446744073709551616) : bits .andNot .u64 (a : Int) (b : Int) = ((a &&& (18446744073709551615 - b) : Nat) : Int) := by
  have e1 : BitVec.ofInt 64 (a : Int) = BitVec.ofNat 64 a := by simp
  have e2 : BitVec.ofInt 64 (b : Int) = BitVec.ofNat 64 b := by simp
  have e3 : (BitVec.ofNat 64 a &&& ~~~BitVec.ofNat 64 b).toNat = a &&& (18446744073709551615 - b) := by
    simp only [BitVec.toNat_and, BitVec.toNat_not, BitVec.toNat_ofNat]
    rw [Nat.mod_eq_of_lt (by omega : a < 2 ^ 64), Nat.mod_eq_of_lt (by omega : b < 2 ^ 64)]
  have e4 : bits .andNot .u64 (a : Int) (b : Int) = IntKind.u64.wrap ((BitVec.ofNat 64 a &&& ~~~BitVec.ofNat 64 b).toNat : Int) := by
    rw [← e1, ← e2]; rfl
  rw [e4, u64_wrap, e3]
  have : a &&& (18446744073709551615 - b) ≤ a := Nat.and_le_left
  omega
theorem tb_compl (b i : Nat) (hb : b < 18446744073709551616) : (18446744073709551615 - b).testBit i = (decide (i < 64) && !b.testBit i) := by
  have := Nat.testBit_two_pow_sub_succ (x := b) (n := 64) (by omega) i
  rw [← this, show 2 ^ 64 - (b + 1) = 18446744073709551615 - b by omega]
theorem tb_andNot {x y : Int} (hx : U x) (hy : U y) (i : Nat) : tb (bits .andNot .u64 x y) i = (tb x i && !tb y i) := by
  obtain ⟨a, rfl, ha⟩ := U_nat hx
  obtain ⟨b, rfl, hb⟩ := U_nat hy
  rw [bits_andNot_nat a b ha hb, tb_cast, tb_cast, tb_cast, Nat.testBit_and, tb_compl b i hb]
  by_cases h : i < 64
  · simp [h]
  · have : a.testBit i = false := by rw [← tb_cast]; exact tb_hi hx i (by omega)
    simp [this]

theorem tb_mask (i : Nat) : tb 35184372088831 i = decide (i < 45) := by
  have := Nat.testBit_two_pow_sub_one 45 i
  rw [← this]; rfl
theorem U_mask : U 35184372088831 := ⟨by decide, by decide⟩
theorem tb_zero (i : Nat) : tb 0 i = false := by simp [tb]
def g1 (b : Nat) : Nat := (b >>> 1 &&& 0x55) + (b >>> 0 &&& 0x55)
def g2 (b : Nat) : Nat := (b >>> 2 &&& 0x33) + (b >>> 0 &&& 0x33)
end Go.Proofs.YtkbimiimgcklaaaDoor.BitMath
