/- Merged by a program of this session (wip/gprint/merge.py): what this claim needs of this session's texts, each part as it was. -/
import Derived.Test.YtkbimiimgcklaaaDoorAllBitsMix7

-- of YtkbimiimgcklaaaDoorSetMathFour
/- The document's Mix of two sets, and the comparing of two lists. -/

namespace Go.Proofs.YtkbimiimgcklaaaDoor.SetMath
open Go.RowKit Go.Proofs.YtkbimiimgcklaaaDoor.Print Go.Proofs.YtkbimiimgcklaaaDoor.BitMath Go.Proofs.YtkbimiimgcklaaaDoorW.PrintWords Go.Proofs.YtkbimiimgcklaaaDoorW.PrintLast Go.Proofs.YtkbimiimgcklaaaDoorW.PrintMore
/-- What the document's Mix has. -/
def mixP (p q : Nat → Bool) (how : Int) (n : Nat) : Bool := if how = 0 then p n || q n else if how = 1 then p n && q n else p n && !q n
theorem Mix_step (p q : Nat → Bool) (how : Int) (i : Nat) (b : Bool) (hb : b = mixP p q how i) : (tl fun n => decide (n < i) && mixP p q how n).set i b = tl fun n => decide (n < i + 1) && mixP p q how n := by
  rw [tl_set]
  refine tl_congr fun n hn => ?_
  by_cases c : n = i
  · rw [if_pos c, hb, c]; simp
  · rw [if_neg c]; congr 1; exact decide_eq_decide.2 (by omega)
theorem Mix_l0 (p q : Nat → Bool) (how : Int) (d : Nat) : ∀ (k i : Nat), i + d = 90 → d < k →
    riverbankref01_Mix.l0 k (tl p) (tl q) how (tl fun n => decide (n < i) && mixP p q how n) (i : Int) = some (tl (mixP p q how)) := by
  induction d with
  | zero =>
    intro k i hi hk
    obtain ⟨k, rfl⟩ : ∃ m, k = m + 1 := ⟨k - 1, by omega⟩
    simp only [riverbankref01_Mix.l0]
    rw [if_neg (by omega)]
    exact congrArg some (tl_congr fun n hn => by simp; omega)
  | succ d ih =>
    intro k i hi hk
    obtain ⟨k, rfl⟩ : ∃ m, k = m + 1 := ⟨k - 1, by omega⟩
    have IH := ih k (i + 1) (by omega) (by omega)
    have hl : ∀ p : Nat → Bool, (i : Int) < ((tl p).length : Int) := fun p => by rw [tl_length]; omega
    have h0 : (0 : Int) ≤ (i : Int) := by omega
    have st := fun b hb => Mix_step p q how i b hb
    simp only [riverbankref01_Mix.l0]
    rw [if_pos (by omega)]
    by_cases c0 : how = 0
    · rw [if_pos c0, if_pos h0, if_pos (hl _), tl_rd p i (by omega)]
      by_cases b : p i = true
      · rw [if_pos b, if_pos (hl _), Int.toNat_natCast, st true (by unfold mixP; rw [if_pos c0, b]; rfl), wi i (by omega)]; exact IH
      · rw [if_neg b, if_pos (hl _), if_pos (hl _), tl_rd q i (by omega), Int.toNat_natCast, st (q i) (by unfold mixP; rw [if_pos c0]; simp [b]), wi i (by omega)]; exact IH
    · rw [if_neg c0]
      by_cases c1 : how = 1
      · rw [if_pos c1, if_pos h0, if_pos (hl _), tl_rd p i (by omega)]
        by_cases b : p i = true
        · rw [if_pos b, if_pos (hl _), if_pos (hl _), tl_rd q i (by omega), Int.toNat_natCast, st (q i) (by unfold mixP; rw [if_neg c0, if_pos c1, b]; rfl), wi i (by omega)]; exact IH
        · rw [if_neg b, if_pos (hl _), Int.toNat_natCast, st false (by unfold mixP; rw [if_neg c0, if_pos c1]; simp [b]), wi i (by omega)]; exact IH
      · rw [if_neg c1, if_pos h0, if_pos (hl _), tl_rd p i (by omega)]
        by_cases b : p i = true
        · rw [if_pos b, if_pos (hl _), if_pos (hl _), tl_rd q i (by omega), Int.toNat_natCast, st (!q i) (by unfold mixP; rw [if_neg c0, if_neg c1, b]; rfl), wi i (by omega)]; exact IH
        · rw [if_neg b, if_pos (hl _), Int.toNat_natCast, st false (by unfold mixP; rw [if_neg c0, if_neg c1]; simp [b]), wi i (by omega)]; exact IH
theorem Mix_f (k : Nat) (hk : 91 ≤ k) (p q : Nat → Bool) (how : Int) : riverbankref01_Mix.f k (tl p) (tl q) how = some (tl (mixP p q how)) := by
  unfold riverbankref01_Mix.f
  have e : List.replicate 90 false = tl (fun n => decide (n < 0) && mixP p q how n) := by rw [tl_replicate]; exact tl_congr (fun n _ => by simp)
  rw [if_pos (by decide), e]
  exact Mix_l0 p q how 90 k 0 (by omega) (by omega)
end Go.Proofs.YtkbimiimgcklaaaDoor.SetMath

-- of YtkbimiimgcklaaaDoorPureBitsMix
/- For any two sets of two words: what is in one, in both, in one alone, and what one is not, is what the document says; no condition. -/
namespace Go.Proofs.YtkbimiimgcklaaaDoor.Pure
open Go.RowKit Go.Proofs.YtkbimiimgcklaaaDoor.Print Go.Proofs.YtkbimiimgcklaaaDoor.BitMath Go.Proofs.YtkbimiimgcklaaaDoor.SetMath Go.Proofs.YtkbimiimgcklaaaDoorW.PrintWords Go.Proofs.YtkbimiimgcklaaaDoorW.PrintLast Go.Proofs.YtkbimiimgcklaaaDoorW.PrintMore
theorem u64_wf {x : Int} (h : (Lit.int .u64 x).wf = true) : U x := by
  simp [Lit.wf, IntKind.min, IntKind.max, IntKind.signed, IntKind.bits] at h
  exact ⟨by omega, by omega⟩
theorem mask_mem (n : Nat) (hn : n < 90) : mem 35184372088831 35184372088831 n = true := by
  unfold mem
  split
  · rw [tb_mask]; simp; omega
  · rw [tb_mask]; simp; omega
theorem live1 (k : Nat) (hk : 12 ≤ k) : riverbanklaw01_live.f k = some true := by
  have h : riverbanklaw01_live.f 12 = some true := by decide +kernel
  exact at_rounds riverbanklaw01_live.mono hk h
theorem BitsMix (a b c d : Int) (ha : (Lit.int .u64 a).wf = true) (hb : (Lit.int .u64 b).wf = true) (hc : (Lit.int .u64 c).wf = true) (hd : (Lit.int .u64 d).wf = true) : ∃ k, riverbanklaw01_BitsMix.f k a b c d = some true := by
  replace ha := u64_wf ha
  replace hb := u64_wf hb
  replace hc := u64_wf hc
  replace hd := u64_wf hd
  refine ⟨100, ?_⟩
  obtain ⟨o, ho, t_o⟩ := Or_f ha hb hc hd
  obtain ⟨n, hn, tn⟩ := And_f ha hb hc hd
  obtain ⟨m, hm, tm⟩ := Minus_f ha hb hc hd
  obtain ⟨t, ht, tt⟩ := Not_f ha hb
  have e1 : tl (mixP (mem a b) (mem c d) 0) = tl (fun n => mem a b n || mem c d n) := rfl
  have e2 : tl (mixP (mem a b) (mem c d) 1) = tl (fun n => mem a b n && mem c d n) := rfl
  have e3 : tl (mixP (mem a b) (mem c d) 2) = tl (fun n => mem a b n && !mem c d n) := rfl
  have e4 : tl (mixP (mem 35184372088831 35184372088831) (mem a b) 2) = tl (fun n => !mem a b n) := tl_congr fun n hn => by
    unfold mixP; rw [if_neg (by decide), if_neg (by decide), mask_mem n hn]; simp
  unfold riverbanklaw01_BitsMix.f
  rw [Truths_f 100 (by decide) ha hb, Truths_f 100 (by decide) hc hd, Truths_f 100 (by decide) U_mask U_mask]
  simp only [Option.bind_some, ho, hn, hm, ht, Mix_f 100 (by decide), e1, e2, e3, e4, is_f 100 (by decide) t_o, is_f 100 (by decide) tn, is_f 100 (by decide) tm, is_f 100 (by decide) tt, if_true, live1 100 (by decide)]
end Go.Proofs.YtkbimiimgcklaaaDoor.Pure
