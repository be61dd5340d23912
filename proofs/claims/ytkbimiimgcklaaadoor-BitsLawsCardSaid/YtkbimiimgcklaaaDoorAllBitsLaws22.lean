/- Merged by a program of this session (wip/gprint/merge.py): what this claim needs of this session's texts, each part as it was. -/
import Derived.Test.YtkbimiimgcklaaaDoorAllBitsLaws8
import Derived.Test.YtkbimiimgcklaaaDoorAllBitsLaws14
import Derived.Test.YtkbimiimgcklaaaDoorAllBitsLaws13
import Derived.Test.YtkbimiimgcklaaaDoorAllBitsLaws5
import Derived.Test.YtkbimiimgcklaaaDoorAllBitsLaws6
import Derived.Test.YtkbimiimgcklaaaDoorAllBitsLaws7
import Derived.Test.YtkbimiimgcklaaaDoorAllBitsLaws11
import Derived.Test.YtkbimiimgcklaaaDoorAllBitsLaws20
import Derived.Test.YtkbimiimgcklaaaDoorAllBitsLaws16
import Derived.Test.YtkbimiimgcklaaaDoorAllBitsLaws15
import Derived.Test.YtkbimiimgcklaaaDoorAllBitsLaws10
import Derived.Test.YtkbimiimgcklaaaDoorAllBitsLaws18
namespace Go.Proofs.YtkbimiimgcklaaaDoor.BitMath
end Go.Proofs.YtkbimiimgcklaaaDoor.BitMath
namespace Go.Proofs.YtkbimiimgcklaaaDoor.Print
end Go.Proofs.YtkbimiimgcklaaaDoor.Print
namespace Go.Proofs.YtkbimiimgcklaaaDoor.SetMath
end Go.Proofs.YtkbimiimgcklaaaDoor.SetMath

-- of YtkbimiimgcklaaaDoorSetMathEight
/- The last square of a set, and how many it has. -/
namespace Go.Proofs.YtkbimiimgcklaaaDoor.SetMath
open Go.RowKit Go.Proofs.YtkbimiimgcklaaaDoor.Print Go.Proofs.YtkbimiimgcklaaaDoor.BitMath Go.Proofs.YtkbimiimgcklaaaDoorW.PrintWords Go.Proofs.YtkbimiimgcklaaaDoorW.PrintLast Go.Proofs.YtkbimiimgcklaaaDoorW.PrintMore
/-! How many. -/
theorem sums_bd2 (y1 y2 y3 Z2 V4 K M : Nat) (h2 : y2 = y1 + Z2) (h3 : y3 = y2 + V4) (c0 : y2 ≤ K) (c4 : V4 ≤ M) (hK : K + M < 9223372036854775808) : y1 < 18446744073709551616 ∧ y2 < 18446744073709551616 ∧ y3 < 9223372036854775808 := by omega
theorem sums2 (d0 d1 d2 d3 d4 d5 d6 d7 : Nat) (b0 : d0 ≤ 8) (b1 : d1 ≤ 8) (b2 : d2 ≤ 8) (b3 : d3 ≤ 8) (b4 : d4 ≤ 8) (b5 : d5 ≤ 8) (b6 : d6 ≤ 8) (b7 : d7 ≤ 8)
    (y y1 y2 y3 : Nat) (hy : y = d0 + 256 * (d1 + 256 * (d2 + 256 * (d3 + 256 * (d4 + 256 * (d5 + 256 * (d6 + 256 * d7))))))) (h1 : y1 = y + y / 256) (h2 : y2 = y1 + y1 / 65536) (h3 : y3 = y2 + y2 / 4294967296) :
    y1 < 18446744073709551616 ∧ y2 < 18446744073709551616 ∧ y3 < 9223372036854775808 ∧ y3 % 128 = d0 + (d1 + (d2 + (d3 + (d4 + (d5 + (d6 + d7)))))) := by
  obtain ⟨Y7, e7⟩ : ∃ Y, Y = d7 := ⟨_, rfl⟩
  obtain ⟨Y6, e6⟩ : ∃ Y, Y = d6 + 256 * Y7 := ⟨_, rfl⟩
  obtain ⟨Y5, e5⟩ : ∃ Y, Y = d5 + 256 * Y6 := ⟨_, rfl⟩
  obtain ⟨Y4, e4⟩ : ∃ Y, Y = d4 + 256 * Y5 := ⟨_, rfl⟩
  obtain ⟨Y3, e3⟩ : ∃ Y, Y = d3 + 256 * Y4 := ⟨_, rfl⟩
  obtain ⟨Y2, e2⟩ : ∃ Y, Y = d2 + 256 * Y3 := ⟨_, rfl⟩
  obtain ⟨Y1, e1⟩ : ∃ Y, Y = d1 + 256 * Y2 := ⟨_, rfl⟩
  have e0 : y = d0 + 256 * Y1 := by rw [hy, e1, e2, e3, e4, e5, e6, e7]
  rw [low_div d0 Y1 y (lt_of16 _ (Nat.le_trans b0 (by decide))) e0] at h1
  have s6 := addu Y6 Y7 _ _ _ 0 e6 (by rw [e7]; rfl : Y7 = d7 + 256 * 0)
  have s5 := addu Y5 Y6 _ _ _ _ e5 e6
  have s4 := addu Y4 Y5 _ _ _ _ e4 e5
  have s3 := addu Y3 Y4 _ _ _ _ e3 e4
  have s2 := addu Y2 Y3 _ _ _ _ e2 e3
  have s1 := addu Y1 Y2 _ _ _ _ e1 e2
  have s0 := addu y Y1 _ _ _ _ e0 e1
  rw [← h1] at s0
  have p01 := le2 d0 d1 b0 b1
  have p12 := le2 d1 d2 b1 b2
  have p23 := le2 d2 d3 b2 b3
  have p34 := le2 d3 d4 b3 b4
  have p45 := le2 d4 d5 b4 b5
  have p56 := le2 d5 d6 b5 b6
  have p67 := le2 d6 d7 b6 b7
  rw [low_div2 (d0 + d1) (d1 + d2) (Y2 + Y3) y1 (lt_of16 _ p01) (lt_of16 _ p12) (by rw [s0, s1])] at h2
  have t4 := addu (Y4 + Y5) (Y6 + Y7) _ _ _ _ s4 s6
  have t3 := addu (Y3 + Y4) (Y5 + Y6) _ _ _ _ s3 s5
  have t2 := addu (Y2 + Y3) (Y4 + Y5) _ _ _ _ s2 s4
  have t1 := addu (Y1 + Y2) (Y3 + Y4) _ _ _ _ s1 s3
  have t0 := addu y1 (Y2 + Y3) _ _ _ _ s0 s2
  rw [← h2] at t0
  have q0 := le4 _ _ _ _ p01 p23
  have q1 := le4 _ _ _ _ p12 p34
  have q2 := le4 _ _ _ _ p23 p45
  have q3 := le4 _ _ _ _ p34 p56
  have q4 := le4 _ _ _ _ p45 p67
  have c7 : Y7 + 0 ≤ 8 := by rw [e7]; exact b7
  have c6 := up_le _ _ _ _ s6 (le_of16 _ p67) c7
  have c5 := up_le _ _ _ _ s5 (le_of16 _ p56) c6
  have c4 := up_le _ _ _ _ t4 (le_of32 _ q4) (Nat.add_le_add c5 c7)
  have c3 := up_le _ _ _ _ t3 (le_of32 _ q3) c4
  have c2 := up_le _ _ _ _ t2 (le_of32 _ q2) c3
  have c1 := up_le _ _ _ _ t1 (le_of32 _ q1) c2
  have c0 := up_le _ _ _ _ t0 (le_of32 _ q0) c1
  rw [low_div4 _ _ _ _ (Y4 + Y5 + (Y6 + Y7)) y2 (lt_of32 _ q0) (lt_of32 _ q1) (lt_of32 _ q2) (lt_of32 _ q3) (by rw [t0, t1, t2, t3])] at h3
  have r := addu y2 (Y4 + Y5 + (Y6 + Y7)) _ _ _ _ t0 t4
  rw [← h3] at r
  obtain ⟨x1, x2, x3⟩ := sums_bd2 y1 y2 y3 _ _ _ _ h2 h3 c0 c4 (by decide)
  exact ⟨x1, x2, x3, sums_end _ _ _ _ _ _ _ _ _ _ r q0 q4⟩
theorem last_steps2 (x y1 y2 y3 : Nat) (h1 : y1 = byt pop8 8 x + byt pop8 8 x / 256) (h2 : y2 = y1 + y1 / 65536) (h3 : y3 = y2 + y2 / 4294967296) :
    y1 < 18446744073709551616 ∧ y2 < 18446744073709551616 ∧ y3 < 9223372036854775808 ∧ y3 % 128 = sumB pop8 8 x :=
  sums2 _ _ _ _ _ _ _ _ (pop8_le _ (Nat.mod_lt _ (by decide))) (pop8_le _ (Nat.mod_lt _ (by decide))) (pop8_le _ (Nat.mod_lt _ (by decide))) (pop8_le _ (Nat.mod_lt _ (by decide)))
    (pop8_le _ (Nat.mod_lt _ (by decide))) (pop8_le _ (Nat.mod_lt _ (by decide))) (pop8_le _ (Nat.mod_lt _ (by decide))) (pop8_le _ (Nat.mod_lt _ (by decide))) _ y1 y2 y3 rfl h1 h2 h3

def cnt (p : Nat → Bool) (n : Nat) : Nat := ((List.range n).filter p).length
theorem cnt_succ (p : Nat → Bool) (n : Nat) : cnt p (n + 1) = cnt p n + if p n = true then 1 else 0 := by
  unfold cnt
  rw [List.range_succ, List.filter_append, List.length_append]
  by_cases c : p n = true <;> simp [c]
theorem cnt_add (p : Nat → Bool) (m : Nat) : ∀ n, cnt p (m + n) = cnt p m + cnt (fun i => p (m + i)) n := by
  intro n
  induction n with
  | zero => simp [cnt]
  | succ n ih => rw [← Nat.add_assoc, cnt_succ, cnt_succ, ih]; omega
theorem cnt_congr {p q : Nat → Bool} (n : Nat) (h : ∀ i, i < n → p i = q i) : cnt p n = cnt q n := by
  unfold cnt; rw [List.filter_congr (fun i hi => h i (List.mem_range.1 hi))]
theorem popAux_cnt : ∀ (f x : Nat), Lib.popAux f x = cnt (fun i => x.testBit i) f := by
  intro f
  induction f with
  | zero => intro x; rfl
  | succ f ih =>
    intro x
    have e : Lib.popAux (f + 1) x = x % 2 + Lib.popAux f (x / 2) := rfl
    rw [e, ih, Nat.add_comm f 1, cnt_add]
    have h1 : cnt (fun i => x.testBit i) 1 = x % 2 := by
      rw [cnt_succ]
      have : x.testBit 0 = decide (x % 2 = 1) := by simp
      simp only [this, cnt]
      by_cases c : x % 2 = 1
      · simp [c]
      · simp [c]; omega
    rw [h1]
    congr 1
    refine cnt_congr f fun i _ => ?_
    rw [Nat.add_comm 1 i]
    exact (Nat.testBit_succ x i).symm
theorem sumB_cnt : ∀ (n x : Nat), sumB pop8 n x = cnt (fun i => x.testBit i) (8 * n) := by
  intro n
  induction n with
  | zero => intro x; rfl
  | succ n ih =>
    intro x
    have e : sumB pop8 (n + 1) x = pop8 (x % 256) + sumB pop8 n (x / 256) := rfl
    rw [e, ih, show 8 * (n + 1) = 8 + 8 * n by omega, cnt_add]
    unfold pop8
    rw [popAux_cnt]
    congr 1
    · refine cnt_congr 8 fun i hi => ?_
      rw [show (256 : Nat) = 2 ^ 8 by decide, Nat.testBit_mod_two_pow]; simp [hi]
    · refine cnt_congr _ fun i _ => ?_
      rw [show (256 : Nat) = 2 ^ 8 by decide, Nat.testBit_div_two_pow, Nat.add_comm]
theorem and127 (n : Nat) (h : n < 9223372036854775808) : Go.bits .and .i64 (wrap64 (n : Int)) 127 = ((n % 128 : Nat) : Int) := by
  have e : wrap64 (n : Int) = (n : Int) := by unfold wrap64; omega
  rw [e]
  have h1 : (BitVec.ofInt 64 (n : Int)).toNat = n := by
    rw [BitVec.ofInt_natCast, BitVec.toNat_ofNat]; exact Nat.mod_eq_of_lt (by omega)
  have h2 : (BitVec.ofInt 64 (127 : Int)).toNat = 127 := by decide
  show IntKind.i64.wrap ((BitVec.ofInt 64 (n : Int) &&& BitVec.ofInt 64 (127 : Int)).toNat : Int) = _
  rw [BitVec.toNat_and, h1, h2, show (127 : Nat) = 2 ^ 7 - 1 by decide, Nat.and_two_pow_sub_one_eq_mod, i64_w]
  unfold wrap64
  omega
theorem OnesCount_f (x : Nat) (hx : x < 18446744073709551616) : bits_OnesCount64.f (x : Int) = some ((cnt (fun i => x.testBit i) 64 : Nat) : Int) := by
  obtain ⟨a, b, ha, hb, hc, la, lb⟩ := first_steps x
  have sh : ∀ y n : Nat, y >>> n = y / 2 ^ n := fun y n => Nat.shiftRight_eq_div_pow y n
  rw [sh] at ha hb
  have dv : ∀ (y : Nat) (n : Nat), ((y : Int) / (n : Int)) = ((y / n : Nat) : Int) := fun y n => by simp
  have an : ∀ y m : Nat, y < 18446744073709551616 → m < 18446744073709551616 → Go.bits .and .u64 (y : Int) (m : Int) = ((y &&& m : Nat) : Int) := fun y m h1 h2 => bits_and_u64_nat y m h1 h2
  have wr : ∀ y : Nat, y < 18446744073709551616 → IntKind.u64.wrap (y : Int) = (y : Int) := fun y h => by rw [u64_wrap]; omega
  have h1 : IntKind.u64.wrap (Go.bits .and .u64 ((x : Int) / 2) 6148914691236517205 + Go.bits .and .u64 (x : Int) 6148914691236517205) = (a : Int) := by
    have := an (x / 2) 6148914691236517205 (by omega) (by decide)
    have t2 := an x 6148914691236517205 hx (by decide)
    have e : ((x : Int) / 2) = ((x / 2 : Nat) : Int) := dv x 2
    rw [e]
    rw [show (6148914691236517205 : Int) = ((6148914691236517205 : Nat) : Int) from rfl, this, t2, ← Int.natCast_add]
    rw [show x / 2 = x / 2 ^ 1 by simp, ← show (0x5555555555555555 : Nat) = 6148914691236517205 by decide, ← ha]
    exact wr a la
  have lb' : b < 18446744073709551616 := by omega
  have h2 : IntKind.u64.wrap (Go.bits .and .u64 ((a : Int) / 4) 3689348814741910323 + Go.bits .and .u64 (a : Int) 3689348814741910323) = (b : Int) := by
    have := an (a / 4) 3689348814741910323 (by omega) (by decide)
    have t2 := an a 3689348814741910323 la (by decide)
    have e : ((a : Int) / 4) = ((a / 4 : Nat) : Int) := dv a 4
    rw [e]
    rw [show (3689348814741910323 : Int) = ((3689348814741910323 : Nat) : Int) from rfl, this, t2, ← Int.natCast_add]
    rw [show a / 4 = a / 2 ^ 2 by simp, ← show (0x3333333333333333 : Nat) = 3689348814741910323 by decide, ← hb]
    exact wr b lb'
  obtain ⟨c, ec⟩ : ∃ c, c = byt pop8 8 x := ⟨_, rfl⟩
  rw [← ec] at hc
  have h3 : Go.bits .and .u64 (IntKind.u64.wrap ((b : Int) / 16 + (b : Int))) 1085102592571150095 = (c : Int) := by
    have e : ((b : Int) / 16) = ((b / 16 : Nat) : Int) := dv b 16
    rw [e, ← Int.natCast_add, wr _ lb, show (1085102592571150095 : Int) = ((1085102592571150095 : Nat) : Int) from rfl, an _ _ lb (by decide), ← show (0x0f0f0f0f0f0f0f0f : Nat) = 1085102592571150095 by decide, hc]
  obtain ⟨l1, l2, l3, l4⟩ := last_steps2 x _ _ _ rfl rfl rfl
  rw [← ec] at l1 l2 l3 l4
  obtain ⟨y1, e1⟩ : ∃ y, y = c + c / 256 := ⟨_, rfl⟩
  rw [← e1] at l1 l2 l3 l4
  obtain ⟨y2, e2⟩ : ∃ y, y = y1 + y1 / 65536 := ⟨_, rfl⟩
  rw [← e2] at l2 l3 l4
  obtain ⟨y3, e3⟩ : ∃ y, y = y2 + y2 / 4294967296 := ⟨_, rfl⟩
  rw [← e3] at l3 l4
  have h4 : IntKind.u64.wrap ((c : Int) + (c : Int) / 256) = (y1 : Int) := by
    have e : ((c : Int) / 256) = ((c / 256 : Nat) : Int) := dv c 256
    rw [e, ← Int.natCast_add, ← e1]; exact wr _ l1
  have h5 : IntKind.u64.wrap ((y1 : Int) + (y1 : Int) / 65536) = (y2 : Int) := by
    have e : ((y1 : Int) / 65536) = ((y1 / 65536 : Nat) : Int) := dv y1 65536
    rw [e, ← Int.natCast_add, ← e2]; exact wr _ l2
  have h6 : IntKind.u64.wrap ((y2 : Int) + (y2 : Int) / 4294967296) = (y3 : Int) := by
    have e : ((y2 : Int) / 4294967296) = ((y2 / 4294967296 : Nat) : Int) := dv y2 4294967296
    rw [e, ← Int.natCast_add, ← e3]; exact wr _ (by omega)
  simp only [bits_OnesCount64.f, h1, h2, h3, h4, h5, h6, and127 y3 l3, l4, sumB_cnt]
theorem cnt_small (x : Int) (h0 : 0 ≤ x) (h1 : x < 35184372088832) : cnt (fun i => x.toNat.testBit i) 64 = cnt (fun i => tb x i) 45 := by
  rw [show 64 = 45 + 19 by decide, cnt_add]
  have : cnt (fun i => x.toNat.testBit (45 + i)) 19 = 0 := by
    have e : cnt (fun i => x.toNat.testBit (45 + i)) 19 = cnt (fun _ => false) 19 := cnt_congr 19 fun i _ => tb_small h0 h1 (45 + i) (by omega)
    rw [e]; decide
  rw [this]; rfl
theorem setL_length (a b : Int) : (setL a b).length = cnt (mem a b) 90 := by unfold setL cnt; simp
theorem cnt_le (p : Nat → Bool) (n : Nat) : cnt p n ≤ n := by
  unfold cnt
  have := List.length_filter_le p (List.range n)
  simpa using this
theorem OnesCount_small (x : Int) (h0 : 0 ≤ x) (h1 : x < 35184372088832) : bits_OnesCount64.f x = some ((cnt (fun i => tb x i) 45 : Nat) : Int) := by
  have e := OnesCount_f x.toNat (by omega)
  rw [cnt_small x h0 h1] at e
  rw [← e]
  congr 1
  omega
theorem setL_cnt {a b : Int} (ha : U a) (hb : U b) : (setL a b).length = cnt (fun i => tb (pl a) i) 45 + cnt (fun i => tb (pl b) i) 45 := by
  rw [setL_length, show (90 : Nat) = 45 + 45 from rfl, cnt_add]
  congr 1
  · refine cnt_congr 45 fun i hi => ?_
    rw [← pl_mem ha hb i (by omega)]; unfold mem; rw [if_pos hi]
  · refine cnt_congr 45 fun i hi => ?_
    rw [← pl_mem ha hb (45 + i) (by omega)]; unfold mem; rw [if_neg (by omega), show 45 + i - 45 = i by omega]
theorem add_small (x y : Nat) (hx : x ≤ 45) (hy : y ≤ 45) : wrap64 ((x : Int) + (y : Int)) = ((x + y : Nat) : Int) := by unfold wrap64; omega
theorem Count_f {a b : Int} (ha : U a) (hb : U b) : bits_Set_Count.f a b = some ((setL a b).length : Int) := by
  have hc := pl_can ha hb
  unfold bits_Set_Count.f
  rw [plain_f, Option.bind_some, OnesCount_small _ hc.l0 hc.l1, Option.bind_some, OnesCount_small _ hc.h0 hc.h1, Option.bind_some, setL_cnt ha hb, add_small _ _ (cnt_le _ _) (cnt_le _ _)]
end Go.Proofs.YtkbimiimgcklaaaDoor.SetMath
