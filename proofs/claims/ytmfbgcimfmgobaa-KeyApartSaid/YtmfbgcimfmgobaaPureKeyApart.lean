/- For all two pieces on two squares whose numbers are not 0: the numbers are one just where piece and square are one, and none is Turn; no condition. -/
import Derived.Test.YtmfbgcimfmgobaaKeyRefTwo
import Derived.Test.YtmfbgcimfmgobaaPrint11
namespace Go.Proofs.Ytmfbgcimfmgobaa.Pure
open Go.RowKit Go.Proofs.Ytmfbgcimfmgobaa.Print Go.Proofs.Ytmfbgcimfmgobaa.KeyMath Go.Proofs.Ytmfbgcimfmgobaa.KeyRef Go.Proofs.YtmfbgcimfmgobaaW.PrintWords Go.Proofs.YtmfbgcimfmgobaaW.PrintLast
theorem idx_inj : ∀ b c : UInt8, 0 ≤ Lib.indexByte [75, 65, 66, 78, 82, 67, 80, 107, 97, 98, 110, 114, 99, 112] b → Lib.indexByte [75, 65, 66, 78, 82, 67, 80, 107, 97, 98, 110, 114, 99, 112] b = Lib.indexByte [75, 65, 66, 78, 82, 67, 80, 107, 97, 98, 110, 114, 99, 112] c → b = c := by
  have key : ∀ b : UInt8, 0 ≤ Lib.indexByte [75, 65, 66, 78, 82, 67, 80, 107, 97, 98, 110, 114, 99, 112] b → ([75, 65, 66, 78, 82, 67, 80, 107, 97, 98, 110, 114, 99, 112] : List UInt8).getD (Lib.indexByte [75, 65, 66, 78, 82, 67, 80, 107, 97, 98, 110, 114, 99, 112] b).toNat 0 = b := by
    intro b h
    have := u8_all (fun b => !decide (0 ≤ Lib.indexByte [75, 65, 66, 78, 82, 67, 80, 107, 97, 98, 110, 114, 99, 112] b) || (([75, 65, 66, 78, 82, 67, 80, 107, 97, 98, 110, 114, 99, 112] : List UInt8).getD (Lib.indexByte [75, 65, 66, 78, 82, 67, 80, 107, 97, 98, 110, 114, 99, 112] b).toNat 0 == b)) (by decide +kernel) b
    rw [decide_eq_true h] at this
    simpa using this
  intro b c h e
  rw [← key b h, ← key c (by omega), e]
theorem KeyApart (c n d m : Int) (h0 : (Lit.int .u8 c).wf = true) (_ : (Lit.int .i64 n).wf = true) (h2 : (Lit.int .u8 d).wf = true) (_ : (Lit.int .i64 m).wf = true) : ∃ k, riverbanklaw10_KeyApart.f k c n d m = some true := by
  refine ⟨1, ?_⟩
  obtain ⟨c, rfl⟩ := u8_of c h0
  obtain ⟨d, rfl⟩ := u8_of d h2
  obtain ⟨v, _, hv, _, hcv⟩ := cell_both c n
  obtain ⟨u, _, hu, _, hcu⟩ := cell_both d m
  unfold riverbanklaw10_KeyApart.f
  rw [hv, hu]
  simp only [Option.bind_some, riverbanklaw10_KeyApart.j0, riverbanklaw10_live.f, turn_f]
  rcases hcv with ⟨rfl, _⟩ | ⟨p, hp0, hp1, rfl, hn0, hn1, _, hp⟩
  · simp
  · have hpz : (rowNat p : Int) ≠ 0 := by have := row_nz (i := p) (by omega); omega
    have hpt : (rowNat p : Int) ≠ (rowNat 1261 : Int) := fun e => by have := row_apart (i := p) (j := 1261) (by omega) (by omega) (by omega); omega
    rw [if_neg hpz]
    rcases hcu with ⟨rfl, _⟩ | ⟨q, hq0, hq1, rfl, hm0, hm1, _, hq⟩
    · simp
    · have hqz : (rowNat q : Int) ≠ 0 := by have := row_nz (i := q) (by omega); omega
      have e1 : ((rowNat q : Int) == 0) = false := by simpa using hqz
      have hidx := idx_lt [75, 65, 66, 78, 82, 67, 80, 107, 97, 98, 110, 114, 99, 112] c
      have hidx2 := Lib.indexByte_ge [75, 65, 66, 78, 82, 67, 80, 107, 97, 98, 110, 114, 99, 112] c
      have hidx3 := Lib.indexByte_ge [75, 65, 66, 78, 82, 67, 80, 107, 97, 98, 110, 114, 99, 112] d
      rw [e1]
      simp only [if_neg hpt]
      by_cases e : c = d
      · subst e
        have e2 : ((rowNat p : Int) == (rowNat q : Int)) = (n == m) := by
          rw [Bool.eq_iff_iff]; simp only [beq_iff_eq]
          constructor
          · intro h; have := row_apart (i := p) (j := q) (by omega) (by omega) (by omega); omega
          · intro h
            have : p = q := by omega
            rw [this]
        rw [e2]; simp
      · have e3 : ¬ ((c.toNat : Int) = (d.toNat : Int)) := fun h => e (UInt8.toNat_inj.mp (by omega))
        have e2 : ((rowNat p : Int) == (rowNat q : Int)) = false := by
          simp only [beq_eq_false_iff_ne]
          intro h
          have hpq := row_apart (i := p) (j := q) (by omega) (by omega) (by omega)
          refine e (idx_inj c d (by omega) (by omega))
        rw [e2, if_neg e3]; simp
end Go.Proofs.Ytmfbgcimfmgobaa.Pure
