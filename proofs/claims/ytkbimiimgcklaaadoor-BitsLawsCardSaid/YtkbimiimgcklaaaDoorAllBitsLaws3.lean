/- Merged by a program of this session (wip/gprint/merge.py): what this claim needs of this session's texts, each part as it was. -/
import Derived.Laws.Entries
import Derived.Laws.Bits64b
import Derived.Lib.TrailingZeros
import Derived.Lib.BitFns
namespace Go.Proofs.YtkbimiimgcklaaaDoor.BitMath
end Go.Proofs.YtkbimiimgcklaaaDoor.BitMath

-- of YtkbimiimgcklaaaDoorBitMath
/- Bits of words of 64 bits, as Go's operators tell them; how many bits a word has, by Go's text of OnesCount64. No program in sight. -/
namespace Go.Proofs.YtkbimiimgcklaaaDoor.BitMath
open Go

/-- A word of 64 bits. -/
def U (x : Int) : Prop := 0 ≤ x ∧ x < 18446744073709551616
/-- Bit i of a word. -/
def tb (x : Int) (i : Nat) : Bool := x.toNat.testBit i

theorem tb_hi {x : Int} (h : U x) (i : Nat) (hi : 64 ≤ i) : tb x i = false := by
  unfold tb
  refine Nat.testBit_lt_two_pow ?_
  have h2 : (2 : Nat) ^ 64 ≤ 2 ^ i := Nat.pow_le_pow_right (by decide) hi
  have := h.1; have := h.2
  have e : (2 : Nat) ^ 64 = 18446744073709551616 := by decide
  omega
theorem tb_ext {x y : Int} (hx : 0 ≤ x) (hy : 0 ≤ y) (h : ∀ i, tb x i = tb y i) : x = y := by
  have := Nat.eq_of_testBit_eq (x := x.toNat) (y := y.toNat) h
  omega
theorem tb_cast (n i : Nat) : tb (n : Int) i = n.testBit i := by simp [tb]
theorem U_nat {x : Int} (h : U x) : ∃ n : Nat, x = n ∧ n < 18446744073709551616 := ⟨x.toNat, by have := h.1; omega, by have := h.1; have := h.2; omega⟩
theorem u64_wrap (n : Int) : IntKind.u64.wrap n = n % 18446744073709551616 := IntKind.wrap_u64 n
theorem U_wrap (n : Int) : U (IntKind.u64.wrap n) := by rw [u64_wrap]; exact ⟨by omega, by omega⟩
theorem U_bits (op : BinOp) (x y : Int) : U (bits op .u64 x y) := by unfold bits; exact U_wrap _

theorem tb_and {x y : Int} (hx : U x) (hy : U y) (i : Nat) : tb (bits .and .u64 x y) i = (tb x i && tb y i) := by
  obtain ⟨a, rfl, ha⟩ := U_nat hx
  obtain ⟨b, rfl, hb⟩ := U_nat hy
  rw [bits_and_u64_nat a b ha hb, tb_cast, tb_cast, tb_cast, Nat.testBit_and]
theorem tb_or {x y : Int} (hx : U x) (hy : U y) (i : Nat) : tb (bits .or .u64 x y) i = (tb x i || tb y i) := by
  obtain ⟨a, rfl, ha⟩ := U_nat hx
  obtain ⟨b, rfl, hb⟩ := U_nat hy
  rw [bits_or_u64_nat a b ha hb, tb_cast, tb_cast, tb_cast, Nat.testBit_or]
theorem tb_xor {x y : Int} (hx : U x) (hy : U y) (i : Nat) : tb (bits .xor .u64 x y) i = (tb x i ^^ tb y i) := by
  obtain ⟨a, rfl, ha⟩ := U_nat hx
  obtain ⟨b, rfl, hb⟩ := U_nat hy
  rw [bits_xor_u64_nat a b ha hb, tb_cast, tb_cast, tb_cast, Nat.testBit_xor]
theorem bits_andNot_nat (a b : Nat) (ha : a < 18446744073709551616) (hb : b < 18446744073709551616) : bits .andNot .u64 (a : Int) (b : Int) = ((a &&& (18446744073709551615 - b) : Nat) : Int) := by
  have e1 : BitVec.ofInt 64 (a : Int) = BitVec.ofNat 64 a := by simp
  have e2 : BitVec.ofInt 64 (b : Int) = BitVec.ofNat 64 b := by simp
  have e3 : (BitVec.ofNat 64 a &&& ~~~BitVec.ofNat 64 b).toNat = a &&& (18446744073709551615 - b) := by
    simp only [BitVec.toNat_and, BitVec.toNat_not, BitVec.toNat_ofNat]
    rw [Nat.mod_eq_of_lt (by omega : a < 2 ^ 64), Nat.mod_eq_of_lt (by omega : b < 2 ^ 64)]
  have e4 : bits .andNot .u64 (a : Int) (b : Int) = IntKind.u64.wrap ((BitVec.ofNat 64 a &&& ~~~BitVec.ofNat 64 b).toNat : Int) := by
    rw [← e1, ← e2]; rfl
  rw [e4, u64_wrap, e3]
  have : a &&& (18446744073709551615 - b) ≤ a := Nat.and_le_left
  omega
theorem tb_compl (b i : Nat) (hb : b < 18446744073709551616) : (18446744073709551615 - b).testBit i = (decide (i < 64) && !b.testBit i) := by
  have := Nat.testBit_two_pow_sub_succ (x := b) (n := 64) (by omega) i
  rw [← this, show 2 ^ 64 - (b + 1) = 18446744073709551615 - b by omega]
theorem tb_andNot {x y : Int} (hx : U x) (hy : U y) (i : Nat) : tb (bits .andNot .u64 x y) i = (tb x i && !tb y i) := by
  obtain ⟨a, rfl, ha⟩ := U_nat hx
  obtain ⟨b, rfl, hb⟩ := U_nat hy
  rw [bits_andNot_nat a b ha hb, tb_cast, tb_cast, tb_cast, Nat.testBit_and, tb_compl b i hb]
  by_cases h : i < 64
  · simp [h]
  · have : a.testBit i = false := by rw [← tb_cast]; exact tb_hi hx i (by omega)
    simp [this]

theorem tb_mask (i : Nat) : tb 35184372088831 i = decide (i < 45) := by
  have := Nat.testBit_two_pow_sub_one 45 i
  rw [← this]; rfl
theorem U_mask : U 35184372088831 := ⟨by decide, by decide⟩
theorem tb_zero (i : Nat) : tb 0 i = false := by simp [tb]
/-! How many bits a word has, counted by Go's text (OnesCount64). -/
def byt (f : Nat → Nat) : Nat → Nat → Nat
  | 0, _ => 0
  | n + 1, x => f (x % 256) + 256 * byt f n (x / 256)
def rep (m : Nat) : Nat → Nat
  | 0 => 0
  | n + 1 => m + 256 * rep m n
theorem mask_split (s m M x : Nat) (hs : s ≤ 8) (hm : m < 2 ^ (8 - s)) : (x >>> s) &&& (m + 256 * M) = ((x % 256) >>> s &&& m) + 256 * ((x / 256) >>> s &&& M) := by
  have h8 : (2 : Nat) ^ 8 = 256 := by decide
  have hm8 : m < 2 ^ 8 := Nat.lt_of_lt_of_le hm (Nat.pow_le_pow_right (by decide) (by omega))
  have ha : ((x % 256) >>> s &&& m) < 2 ^ 8 := Nat.lt_of_le_of_lt Nat.and_le_right hm8
  refine Nat.eq_of_testBit_eq fun j => ?_
  have e1 : m + 256 * M = 2 ^ 8 * M + m := by omega
  have e2 : ((x % 256) >>> s &&& m) + 256 * ((x / 256) >>> s &&& M) = 2 ^ 8 * ((x / 256) >>> s &&& M) + ((x % 256) >>> s &&& m) := by omega
  rw [e1, e2, Nat.testBit_two_pow_mul_add _ ha, Nat.testBit_and, Nat.testBit_two_pow_mul_add _ hm8, Nat.testBit_shiftRight]
  by_cases hj : j < 8
  · rw [if_pos hj, if_pos hj, Nat.testBit_and, Nat.testBit_shiftRight, ← h8, Nat.testBit_mod_two_pow]
    by_cases hb : m.testBit j = true
    · have h1 := Nat.ge_two_pow_of_testBit hb
      have h2 : j < 8 - s := (Nat.pow_lt_pow_iff_right (a := 2) (by decide)).1 (Nat.lt_of_le_of_lt h1 hm)
      simp [show s + j < 8 by omega]
    · simp [hb]
  · rw [if_neg hj, if_neg hj, Nat.testBit_and, Nat.testBit_shiftRight, ← h8, Nat.testBit_div_two_pow, show s + (j - 8) + 8 = s + j by omega]
theorem mask_byt (s m : Nat) (hs : s ≤ 8) (hm : m < 2 ^ (8 - s)) : ∀ n x, (x >>> s) &&& rep m n = byt (fun b => b >>> s &&& m) n x := by
  intro n
  induction n with
  | zero => intro x; simp [rep, byt]
  | succ n ih => intro x; unfold rep byt; rw [mask_split s m _ x hs hm, ih]
theorem byt_add (f g : Nat → Nat) : ∀ n x, byt f n x + byt g n x = byt (fun b => f b + g b) n x := by
  intro n
  induction n with
  | zero => intro x; simp [byt]
  | succ n ih => intro x; unfold byt; rw [← ih]; omega
theorem byt_comp (f g : Nat → Nat) (hg : ∀ b, b < 256 → g b < 256) : ∀ n x, byt f n (byt g n x) = byt (fun b => f (g b)) n x := by
  intro n
  induction n with
  | zero => intro x; simp [byt]
  | succ n ih =>
    intro x
    have h := hg (x % 256) (by omega)
    rw [show byt g (n + 1) x = g (x % 256) + 256 * byt g n (x / 256) from rfl]
    unfold byt
    rw [← ih, show (g (x % 256) + 256 * byt g n (x / 256)) % 256 = g (x % 256) by omega, show (g (x % 256) + 256 * byt g n (x / 256)) / 256 = byt g n (x / 256) by omega]
theorem byt_congr (f g : Nat → Nat) (h : ∀ b, b < 256 → f b = g b) : ∀ n x, byt f n x = byt g n x := by
  intro n
  induction n with
  | zero => intro x; rfl
  | succ n ih => intro x; unfold byt; rw [ih, h _ (by omega)]
theorem byt_third (g : Nat → Nat) (hg : ∀ b, b < 256 → g b % 16 ≤ 4 ∧ g b / 16 ≤ 4) : ∀ n x, (byt g n x / 16 + byt g n x) &&& rep 15 n = byt (fun b => g b % 16 + g b / 16) n x := by
  intro n
  induction n with
  | zero => intro x; simp [rep, byt]
  | succ n ih =>
    intro x
    have h := hg (x % 256) (by omega)
    have hl : byt g n (x / 256) % 16 ≤ 4 := by
      cases n with
      | zero => simp [byt]
      | succ n =>
        unfold byt
        have h := hg (x / 256 % 256) (by omega)
        omega
    rw [show byt g (n + 1) x = g (x % 256) + 256 * byt g n (x / 256) from rfl]
    rw [show byt (fun b => g b % 16 + g b / 16) (n + 1) x = g (x % 256) % 16 + g (x % 256) / 16 + 256 * byt (fun b => g b % 16 + g b / 16) n (x / 256) from rfl, show rep 15 (n + 1) = 15 + 256 * rep 15 n from rfl]
    have e := mask_split 0 15 (rep 15 n) ((g (x % 256) + 256 * byt g n (x / 256)) / 16 + (g (x % 256) + 256 * byt g n (x / 256))) (by omega) (by decide)
    simp only [Nat.shiftRight_zero] at e
    rw [e, ← ih]
    have e15 : ∀ y : Nat, y &&& 15 = y % 16 := fun y => by rw [show (15 : Nat) = 2 ^ 4 - 1 by decide, Nat.and_two_pow_sub_one_eq_mod]
    rw [e15]
    have e1 : ((g (x % 256) + 256 * byt g n (x / 256)) / 16 + (g (x % 256) + 256 * byt g n (x / 256))) / 256 = byt g n (x / 256) / 16 + byt g n (x / 256) := by omega
    rw [e1]
    omega
def pop8 (b : Nat) : Nat := Lib.popAux 8 b
def g1 (b : Nat) : Nat := (b >>> 1 &&& 0x55) + (b >>> 0 &&& 0x55)
def g2 (b : Nat) : Nat := (b >>> 2 &&& 0x33) + (b >>> 0 &&& 0x33)
theorem g1_lt : ∀ b, b < 256 → g1 b < 256 := by decide +kernel
theorem g2_nib : ∀ b, b < 256 → g2 (g1 b) % 16 ≤ 4 ∧ g2 (g1 b) / 16 ≤ 4 := by decide +kernel
theorem g3_pop : ∀ b, b < 256 → g2 (g1 b) % 16 + g2 (g1 b) / 16 = pop8 b := by decide +kernel
theorem pop8_le : ∀ b, b < 256 → pop8 b ≤ 8 := by decide +kernel
/-- The sum of the eight digits. -/
def sumB (f : Nat → Nat) : Nat → Nat → Nat
  | 0, _ => 0
  | n + 1, x => f (x % 256) + sumB f n (x / 256)
theorem low_div (d Y y : Nat) (hd : d < 256) (h : y = d + 256 * Y) : y / 256 = Y := by omega
theorem low_div2 (a b Y y : Nat) (ha : a < 256) (hb : b < 256) (h : y = a + 256 * (b + 256 * Y)) : y / 65536 = Y := by omega
theorem low_div4 (a b c d Y y : Nat) (ha : a < 256) (hb : b < 256) (hc : c < 256) (hd : d < 256) (h : y = a + 256 * (b + 256 * (c + 256 * (d + 256 * Y)))) : y / 4294967296 = Y := by
  have e1 : y / 65536 = c + 256 * (d + 256 * Y) := low_div2 a b _ y ha hb h
  have e2 : y / 4294967296 = y / 65536 / 65536 := by rw [Nat.div_div_eq_div_mul]
  rw [e2, e1]
  exact low_div2 c d Y _ hc hd rfl
theorem up_le (d Y K y : Nat) (h : y = d + 256 * Y) (hd : d ≤ 64) (hY : Y ≤ K) : y ≤ 64 + 256 * K := by omega
theorem addu (X Y d e A B : Nat) (hx : X = d + 256 * A) (hy : Y = e + 256 * B) : X + Y = (d + e) + 256 * (A + B) := by omega
theorem le2 (a b : Nat) (ha : a ≤ 8) (hb : b ≤ 8) : a + b ≤ 16 := by omega
theorem le4 (a b c d : Nat) (ha : a + b ≤ 16) (hb : c + d ≤ 16) : a + b + (c + d) ≤ 32 := by omega
theorem lt_of16 (a : Nat) (h : a ≤ 16) : a < 256 := by omega
theorem lt_of32 (a : Nat) (h : a ≤ 32) : a < 256 := by omega
theorem le_of16 (a : Nat) (h : a ≤ 16) : a ≤ 64 := by omega
theorem le_of32 (a : Nat) (h : a ≤ 32) : a ≤ 64 := by omega
theorem sums_end (d0 d1 d2 d3 d4 d5 d6 d7 X y3 : Nat) (h : y3 = (d0 + d1 + (d2 + d3)) + (d4 + d5 + (d6 + d7)) + 256 * X) (h1 : d0 + d1 + (d2 + d3) ≤ 32) (h2 : d4 + d5 + (d6 + d7) ≤ 32) : y3 % 128 = d0 + (d1 + (d2 + (d3 + (d4 + (d5 + (d6 + d7)))))) := by omega
theorem sums_bd (y1 y2 y3 Z2 V4 K M : Nat) (h2 : y2 = y1 + Z2) (h3 : y3 = y2 + V4) (c0 : y2 ≤ K) (c4 : V4 ≤ M) (hK : K + M < 18446744073709551616) : y1 < 18446744073709551616 ∧ y2 < 18446744073709551616 ∧ y3 < 18446744073709551616 := by omega
theorem sums (d0 d1 d2 d3 d4 d5 d6 d7 : Nat) (b0 : d0 ≤ 8) (b1 : d1 ≤ 8) (b2 : d2 ≤ 8) (b3 : d3 ≤ 8) (b4 : d4 ≤ 8) (b5 : d5 ≤ 8) (b6 : d6 ≤ 8) (b7 : d7 ≤ 8)
    (y y1 y2 y3 : Nat) (hy : y = d0 + 256 * (d1 + 256 * (d2 + 256 * (d3 + 256 * (d4 + 256 * (d5 + 256 * (d6 + 256 * d7))))))) (h1 : y1 = y + y / 256) (h2 : y2 = y1 + y1 / 65536) (h3 : y3 = y2 + y2 / 4294967296) :
    y1 < 18446744073709551616 ∧ y2 < 18446744073709551616 ∧ y3 < 18446744073709551616 ∧ y3 % 128 = d0 + (d1 + (d2 + (d3 + (d4 + (d5 + (d6 + d7)))))) := by
  obtain ⟨Y7, e7⟩ : ∃ Y, Y = d7 := ⟨_, rfl⟩
  obtain ⟨Y6, e6⟩ : ∃ Y, Y = d6 + 256 * Y7 := ⟨_, rfl⟩
  obtain ⟨Y5, e5⟩ : ∃ Y, Y = d5 + 256 * Y6 := ⟨_, rfl⟩
  obtain ⟨Y4, e4⟩ : ∃ Y, Y = d4 + 256 * Y5 := ⟨_, rfl⟩
  obtain ⟨Y3, e3⟩ : ∃ Y, Y = d3 + 256 * Y4 := ⟨_, rfl⟩
  obtain ⟨Y2, e2⟩ : ∃ Y, Y = d2 + 256 * Y3 := ⟨_, rfl⟩
  obtain ⟨Y1, e1⟩ : ∃ Y, Y = d1 + 256 * Y2 := ⟨_, rfl⟩
  have e0 : y = d0 + 256 * Y1 := by rw [hy, e1, e2, e3, e4, e5, e6, e7]
  rw [low_div d0 Y1 y (lt_of16 _ (Nat.le_trans b0 (by decide))) e0] at h1
  have s6 := addu Y6 Y7 _ _ _ 0 e6 (by rw [e7]; rfl : Y7 = d7 + 256 * 0)
  have s5 := addu Y5 Y6 _ _ _ _ e5 e6
  have s4 := addu Y4 Y5 _ _ _ _ e4 e5
  have s3 := addu Y3 Y4 _ _ _ _ e3 e4
  have s2 := addu Y2 Y3 _ _ _ _ e2 e3
  have s1 := addu Y1 Y2 _ _ _ _ e1 e2
  have s0 := addu y Y1 _ _ _ _ e0 e1
  rw [← h1] at s0
  have p01 := le2 d0 d1 b0 b1
  have p12 := le2 d1 d2 b1 b2
  have p23 := le2 d2 d3 b2 b3
  have p34 := le2 d3 d4 b3 b4
  have p45 := le2 d4 d5 b4 b5
  have p56 := le2 d5 d6 b5 b6
  have p67 := le2 d6 d7 b6 b7
  rw [low_div2 (d0 + d1) (d1 + d2) (Y2 + Y3) y1 (lt_of16 _ p01) (lt_of16 _ p12) (by rw [s0, s1])] at h2
  have t4 := addu (Y4 + Y5) (Y6 + Y7) _ _ _ _ s4 s6
  have t3 := addu (Y3 + Y4) (Y5 + Y6) _ _ _ _ s3 s5
  have t2 := addu (Y2 + Y3) (Y4 + Y5) _ _ _ _ s2 s4
  have t1 := addu (Y1 + Y2) (Y3 + Y4) _ _ _ _ s1 s3
  have t0 := addu y1 (Y2 + Y3) _ _ _ _ s0 s2
  rw [← h2] at t0
  have q0 := le4 _ _ _ _ p01 p23
  have q1 := le4 _ _ _ _ p12 p34
  have q2 := le4 _ _ _ _ p23 p45
  have q3 := le4 _ _ _ _ p34 p56
  have q4 := le4 _ _ _ _ p45 p67
  have c7 : Y7 + 0 ≤ 8 := by rw [e7]; exact b7
  have c6 := up_le _ _ _ _ s6 (le_of16 _ p67) c7
  have c5 := up_le _ _ _ _ s5 (le_of16 _ p56) c6
  have c4 := up_le _ _ _ _ t4 (le_of32 _ q4) (Nat.add_le_add c5 c7)
  have c3 := up_le _ _ _ _ t3 (le_of32 _ q3) c4
  have c2 := up_le _ _ _ _ t2 (le_of32 _ q2) c3
  have c1 := up_le _ _ _ _ t1 (le_of32 _ q1) c2
  have c0 := up_le _ _ _ _ t0 (le_of32 _ q0) c1
  rw [low_div4 _ _ _ _ (Y4 + Y5 + (Y6 + Y7)) y2 (lt_of32 _ q0) (lt_of32 _ q1) (lt_of32 _ q2) (lt_of32 _ q3) (by rw [t0, t1, t2, t3])] at h3
  have r := addu y2 (Y4 + Y5 + (Y6 + Y7)) _ _ _ _ t0 t4
  rw [← h3] at r
  obtain ⟨x1, x2, x3⟩ := sums_bd y1 y2 y3 _ _ _ _ h2 h3 c0 c4 (by decide)
  exact ⟨x1, x2, x3, sums_end _ _ _ _ _ _ _ _ _ _ r q0 q4⟩
/-- All that Go's text does to a word ahead of the last three sums. -/
theorem first_steps (x : Nat) : ∃ a b, a = (x >>> 1 &&& 0x5555555555555555) + (x &&& 0x5555555555555555) ∧ b = (a >>> 2 &&& 0x3333333333333333) + (a &&& 0x3333333333333333) ∧ (b / 16 + b) &&& 0x0f0f0f0f0f0f0f0f = byt pop8 8 x ∧ a < 18446744073709551616 ∧ b / 16 + b < 18446744073709551616 := by
  refine ⟨_, _, rfl, rfl, ?_⟩
  have r1 : rep 0x55 8 = 0x5555555555555555 := by decide
  have r2 : rep 0x33 8 = 0x3333333333333333 := by decide
  have r3 : rep 15 8 = 0x0f0f0f0f0f0f0f0f := by decide
  rw [← r1, ← r2, ← r3]
  have z : ∀ y m, y &&& rep m 8 = (y >>> 0) &&& rep m 8 := fun y m => by simp
  have ea : (x >>> 1 &&& rep 0x55 8) + (x &&& rep 0x55 8) = byt g1 8 x := by
    rw [z x, mask_byt 1 _ (by omega) (by decide), mask_byt 0 _ (by omega) (by decide), byt_add]; rfl
  rw [ea]
  have eb : (byt g1 8 x >>> 2 &&& rep 0x33 8) + (byt g1 8 x &&& rep 0x33 8) = byt (fun b => g2 (g1 b)) 8 x := by
    rw [z (byt g1 8 x), mask_byt 2 _ (by omega) (by decide), mask_byt 0 _ (by omega) (by decide), byt_add]
    exact byt_comp g2 g1 g1_lt 8 x
  rw [eb, byt_third _ g2_nib, byt_congr _ pop8 g3_pop]
  refine ⟨rfl, ?_, ?_⟩
  · have := Nat.and_le_right (n := x >>> 1) (m := rep 0x55 8)
    have := Nat.and_le_right (n := x) (m := rep 0x55 8)
    omega
  · have := Nat.and_le_right (n := byt g1 8 x >>> 2) (m := rep 0x33 8)
    have := Nat.and_le_right (n := byt g1 8 x) (m := rep 0x33 8)
    omega
end Go.Proofs.YtkbimiimgcklaaaDoor.BitMath
