/- Merged by a program of this session (wip/gprint/merge.py): what this claim needs of this session's texts, each part as it was. -/
import Derived.Test.YtmfbgcimfmgobaaAllValueAdds2

-- of YtmfbgcimfmgobaaPureValueAdds
/- For every board with side 0 or 1, every empty square of it and every byte: with that put there it is worth what it was and what that is worth there, less for the other side's; at other inputs the examples of live() hold; no condition. -/
namespace Go.Proofs.Ytmfbgcimfmgobaa.Pure
open Go.RowKit Go.Proofs.Ytmfbgcimfmgobaa.Print Go.Proofs.Ytmfbgcimfmgobaa.KeyRef Go.Proofs.Ytmfbgcimfmgobaa.ValueMath Go.Proofs.YtmfbgcimfmgobaaW.PrintWords Go.Proofs.YtmfbgcimfmgobaaW.PrintLast
theorem putB_setL (s : ByteArray) (n : Nat) (c : UInt8) : putB s n (c.toNat : Int) = setL s n c := by
  unfold putB setL; simp
theorem ValueAdds (s : ByteArray) (a b c : Int) (n d : Int) (_ : (Lit.int .i64 a).wf = true) (_ : (Lit.int .i64 b).wf = true) (_ : (Lit.int .i64 c).wf = true) (_ : (Lit.int .i64 n).wf = true) (hd : (Lit.int .u8 d).wf = true) : ∃ k, riverbanklaw14_ValueAdds.f k s a b c n d = some true := by
  refine ⟨301, ?_⟩
  obtain ⟨d, rfl⟩ := u8_of d hd
  have live : ∀ x1 x2 s a b c, riverbanklaw14_ValueAdds.j0 301 x1 x2 true s a b c = some true := by
    intro x1 x2 s a b c; simp [riverbanklaw14_ValueAdds.j0, riverbanklaw14_live.f]
  unfold riverbanklaw14_ValueAdds.f
  by_cases h : (s.size : Int) > 200
  · rw [if_pos h]; exact live _ _ _ _ _ _
  · rw [if_neg h]
    rcases board_tf s with hb | hb
    · rw [hb]
      simp only [Option.bind_some, if_true]
      by_cases n0 : n < 0
      · rw [if_pos n0]; exact live _ _ _ _ _ _
      · rw [if_neg n0]
        by_cases n1 : n > 89
        · rw [if_pos n1]; exact live _ _ _ _ _ _
        · rw [if_neg n1]
          obtain ⟨n, rfl⟩ : ∃ m : Nat, n = m := ⟨n.toNat, by omega⟩
          have hs := board_size hb
          have hq : board_isSquare.f (n : Int) = some true := by
            unfold board_isSquare.f
            rw [if_pos (by omega), decide_eq_true (by omega)]
          have hat : board_At.f s n = some (((s.get! n).toNat : Nat) : Int) := by
            unfold board_At.f
            rw [hq, hb]
            simp only [Option.bind_some, if_true]
            rw [if_pos (by omega), if_pos (by omega), bt_get s n (by omega)]
          rw [hat]
          simp only [Option.bind_some]
          by_cases h46 : ((s.get! n).toNat : Int) = 46
          · rw [if_pos h46]
            rw [eq46] at h46
            by_cases ha : a < 0
            · rw [if_pos ha]; exact live _ _ _ _ _ _
            · rw [if_neg ha]
              by_cases ha1 : a > 1
              · rw [decide_eq_true ha1]; exact live _ _ _ _ _ _
              · rw [decide_eq_false ha1]
                have hc : board_isCell.f (d.toNat : Int) = some (okCell d) := isCell_eq d
                have hput : ∃ q, board_Put.f s n d.toNat = some q ∧ board_Is.f q = some true ∧ ofV q a = ofV s a + (if sideU d = a then pv d n else - pv d n) := by
                  unfold board_Put.f
                  rw [if_pos (by have := d.toNat_lt; omega), hq, hc, hb]
                  simp only [Option.bind_some, if_true]
                  by_cases ho : okCell d = true
                  · rw [if_pos ho]
                    simp only [Int.toNat_natCast]
                    rw [putB_setL]
                    refine ⟨_, rfl, setL_board s n d hb ho, ?_⟩
                    have e0 := sSum_set s hs 0 n (by omega) d 90 (by omega) (by omega)
                    have e1 := sSum_set s hs 1 n (by omega) d 90 (by omega) (by omega)
                    have z : sideU (s.get! n) = -1 := by rw [h46]; decide +kernel
                    rw [z, if_neg (by decide)] at e0 e1
                    unfold ofV
                    rw [e0, e1]
                    rcases side_range d with hx | hx | hx
                    · rw [hx, pv_none d n hx]; simp
                    · rw [hx]
                      rcases (by omega : a = 0 ∨ a = 1) with rfl | rfl
                      · simp; omega
                      · simp; omega
                    · rw [hx]
                      rcases (by omega : a = 0 ∨ a = 1) with rfl | rfl
                      · simp; omega
                      · simp; omega
                  · rw [if_neg ho]
                    refine ⟨_, rfl, hb, ?_⟩
                    have hx : sideU d = -1 := by
                      rw [side_cell] at ho
                      have := side_range d
                      simp at ho; omega
                    rw [pv_none d n hx]; simp
                obtain ⟨q, hq1, hq2, hq3⟩ := hput
                simp only [riverbanklaw14_ValueAdds.j0]
                rw [if_neg (by decide), hq1]
                simp only [Option.bind_some]
                rw [piece_k 300 (by omega), side_f]
                simp only [Option.bind_some]
                rw [of_board q a b c hq2, of_board s a b c hb]
                simp only [Option.bind_some]
                have hr := ofV_range s a
                have hp := pv_range d n
                by_cases hx : sideU d = a
                · rw [if_pos hx] at hq3 ⊢
                  rw [wrap_mid (by omega) (by omega), hq3, if_pos rfl]; rfl
                · rw [if_neg hx] at hq3 ⊢
                  rw [wrap_mid (x := - pv d n) (by omega) (by omega), wrap_mid (by omega) (by omega), hq3, if_pos rfl]; rfl
          · rw [if_neg h46]; exact live _ _ _ _ _ _
    · rw [hb]
      simp only [Option.bind_some]
      rw [if_neg (by decide)]; exact live _ _ _ _ _ _
end Go.Proofs.Ytmfbgcimfmgobaa.Pure
