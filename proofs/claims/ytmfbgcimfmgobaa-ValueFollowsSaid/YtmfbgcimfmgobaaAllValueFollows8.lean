/- Merged by a program of this session (wip/gprint/merge.py): what this claim needs of this session's texts, each part as it was. -/
import Derived.Test.YtmfbgcimfmgobaaAllValueFollows7

-- of YtmfbgcimfmgobaaTotMath
/- The document's moves are told for every board: each function comes to an end. -/
namespace Go.Proofs.Ytmfbgcimfmgobaa.TotMath
open Go.RowKit Go.Proofs.Ytmfbgcimfmgobaa.Print Go.Proofs.Ytmfbgcimfmgobaa.KeyMath Go.Proofs.Ytmfbgcimfmgobaa.KeyRef Go.Proofs.YtmfbgcimfmgobaaW.PrintWords Go.Proofs.YtmfbgcimfmgobaaW.PrintLast
theorem t_May (s : ByteArray) (i n : Int) : Tot (fun k => riverbankref03_May.f k (bt s i) n) (fun _ => True) := by
  unfold riverbankref03_May.f
  have h : ∀ a c, Tot (fun k => riverbankref03_May.j0 k (bt s i) n a c) (fun _ => True) := by
    intro a c
    refine Tot.succ ?_
    simp only [riverbankref03_May.j0]
    (repeat' (first | exact Tot.ret trivial | exact Tot.c (c_real _ _) | exact Tot.c (c_File _) | exact Tot.c (c_own _ _) | exact Tot.c (c_Palace _ _) | exact Tot.c (c_Over _ _) | exact Tot.c (c_advisor _ _) | exact Tot.c (c_away _ _) | exact t_Side _ _ | exact t_Kind _ _ | refine Tot.ite (fun _ => ?_) (fun _ => ?_) | refine Tot.bind (Tot.c (c_real _ _)) (fun _ _ _ => ?_) | refine Tot.bind (Tot.c (c_File _)) (fun _ _ _ => ?_) | refine Tot.bind (Tot.c (c_own _ _)) (fun _ _ _ => ?_) | refine Tot.bind (Tot.c (c_Palace _ _)) (fun _ _ _ => ?_) | refine Tot.bind (Tot.c (c_Over _ _)) (fun _ _ _ => ?_) | refine Tot.bind (Tot.c (c_advisor _ _)) (fun _ _ _ => ?_) | refine Tot.bind (Tot.c (c_away _ _)) (fun _ _ _ => ?_) | refine Tot.bind (t_Side _ _) (fun _ _ _ => ?_) | refine Tot.bind (t_Kind _ _) (fun _ _ _ => ?_)))
    all_goals (first | (refine Tot.bind (t_elephant _ _) (fun _ _ _ => ?_)) | skip)
    all_goals (repeat' (first | exact Tot.ret trivial | exact Tot.c (c_real _ _) | exact Tot.c (c_File _) | exact Tot.c (c_own _ _) | exact Tot.c (c_Palace _ _) | exact Tot.c (c_Over _ _) | exact Tot.c (c_advisor _ _) | exact Tot.c (c_away _ _) | exact t_Side _ _ | exact t_Kind _ _ | refine Tot.ite (fun _ => ?_) (fun _ => ?_) | refine Tot.bind (Tot.c (c_real _ _)) (fun _ _ _ => ?_) | refine Tot.bind (Tot.c (c_File _)) (fun _ _ _ => ?_) | refine Tot.bind (Tot.c (c_own _ _)) (fun _ _ _ => ?_) | refine Tot.bind (Tot.c (c_Palace _ _)) (fun _ _ _ => ?_) | refine Tot.bind (Tot.c (c_Over _ _)) (fun _ _ _ => ?_) | refine Tot.bind (Tot.c (c_advisor _ _)) (fun _ _ _ => ?_) | refine Tot.bind (Tot.c (c_away _ _)) (fun _ _ _ => ?_) | refine Tot.bind (t_Side _ _) (fun _ _ _ => ?_) | refine Tot.bind (t_Kind _ _) (fun _ _ _ => ?_)))
  refine Tot.bind (t_Side s i) (fun v _ _ => Tot.ite (fun _ => h _ _) (fun _ => Tot.bind (Tot.c (c_real _ _)) (fun _ _ _ => h _ _)))
/-! ### lists of squares -/
theorem t_Find (s : ByteArray) (hs : s.size = 90) (c : Int) : Tot (fun k => riverbankref02_Find.f k s c) (fun _ => True) := by
  have h : ∀ (d i : Nat) (l : List Int), i + d = 90 → l.length ≤ i → Tot (fun k => riverbankref02_Find.l0 k s c l (i : Int)) (fun _ => True) := by
    intro d
    induction d with
    | zero =>
      intro i l hi hl
      refine Tot.succ ?_
      simp only [riverbankref02_Find.l0]
      refine Tot.ite (fun h => absurd h (by omega)) (fun _ => Tot.ret trivial)
    | succ d ih =>
      intro i l hi hl
      refine Tot.succ ?_
      simp only [riverbankref02_Find.l0]
      have hi1 : wrap64 ((i : Int) + 1) = ((i + 1 : Nat) : Int) := by rw [wi (by omega) (by omega)]; omega
      rw [hi1]
      refine Tot.ite (fun _ => Tot.ite (fun _ => Tot.ite (fun _ => Tot.ite (fun _ => ih (i + 1) _ (by omega) (by simp; omega)) (fun h => absurd h (by omega))) (fun _ => ih (i + 1) _ (by omega) (by omega))) (fun h => absurd h (by omega))) (fun _ => Tot.ret trivial)
  unfold riverbankref02_Find.f
  rcases board_tf s with hb | hb
  · exact Tot.bind (Tot.is (e_Is s _ hb)) (fun v _ _ => Tot.ite (fun _ => h 90 0 [] (by omega) (by simp)) (fun _ => Tot.ret trivial))
  · exact Tot.bind (Tot.is (e_Is s _ hb)) (fun v _ _ => Tot.ite (fun _ => h 90 0 [] (by omega) (by simp)) (fun _ => Tot.ret trivial))
theorem t_Most (s : ByteArray) (i : Int) : Tot (fun k => riverbankref03_Most.f k (bt s i)) (fun _ => True) := by
  unfold riverbankref03_Most.f; (repeat' (first | exact Tot.ret trivial | exact Tot.c (c_real _ _) | exact Tot.c (c_File _) | exact Tot.c (c_own _ _) | exact Tot.c (c_Palace _ _) | exact Tot.c (c_Over _ _) | exact Tot.c (c_advisor _ _) | exact Tot.c (c_away _ _) | exact t_Side _ _ | exact t_Kind _ _ | refine Tot.ite (fun _ => ?_) (fun _ => ?_) | refine Tot.bind (Tot.c (c_real _ _)) (fun _ _ _ => ?_) | refine Tot.bind (Tot.c (c_File _)) (fun _ _ _ => ?_) | refine Tot.bind (Tot.c (c_own _ _)) (fun _ _ _ => ?_) | refine Tot.bind (Tot.c (c_Palace _ _)) (fun _ _ _ => ?_) | refine Tot.bind (Tot.c (c_Over _ _)) (fun _ _ _ => ?_) | refine Tot.bind (Tot.c (c_advisor _ _)) (fun _ _ _ => ?_) | refine Tot.bind (Tot.c (c_away _ _)) (fun _ _ _ => ?_) | refine Tot.bind (t_Side _ _) (fun _ _ _ => ?_) | refine Tot.bind (t_Kind _ _) (fun _ _ _ => ?_)))
theorem t_Check (s : ByteArray) (a b c : Int) : Tot (fun k => riverbankref03_Check.f k s a b c) (fun v => v = 0 → (a = 0 ∨ a = 1) ∧ board_Is.f s = some true) := by
  unfold riverbankref03_Check.f
  have hj : Tot (fun k => riverbankref03_Check.j0 k true s a b c) (fun v => v = 0 → (a = 0 ∨ a = 1) ∧ board_Is.f s = some true) := by
    refine Tot.succ ?_
    simp only [riverbankref03_Check.j0]
    refine Tot.ite (fun _ => Tot.ret (fun h => absurd h (by decide))) (fun h => absurd trivial h)
  rcases board_tf s with hb | hb
  · have hs := board_size hb
    have h1 : ∀ (d i : Nat), i + d = 90 → Tot (fun k => riverbankref03_Check.l1 k (i : Int) s a b c) (fun _ => True) := by
      intro d
      induction d with
      | zero =>
        intro i hi
        refine Tot.succ ?_
        simp only [riverbankref03_Check.l1]
        refine Tot.ite (fun h => absurd h (by omega)) (fun _ => Tot.ret trivial)
      | succ d ih =>
        intro i hi
        refine Tot.succ ?_
        simp only [riverbankref03_Check.l1]
        have hi1 : wrap64 ((i : Int) + 1) = ((i + 1 : Nat) : Int) := by rw [wi (by omega) (by omega)]; omega
        rw [hi1]
        refine Tot.ite (fun _ => Tot.ite (fun _ => Tot.ite (fun _ => Tot.ite (fun _ => ih (i + 1) (by omega)) (fun _ => Tot.bind (t_May s _ _) (fun _ _ _ => Tot.ite (fun _ => ih (i + 1) (by omega)) (fun _ => Tot.ret trivial)))) (fun h => absurd h (by omega))) (fun h => absurd h (by omega))) (fun _ => Tot.ret trivial)
    have h0 : ∀ (x : ByteArray), x.size = 14 → ∀ (d i : Nat), i + d = 14 → Tot (fun k => riverbankref03_Check.l0 k x (i : Int) s a b c) (fun _ => True) := by
      intro x hx d
      induction d with
      | zero =>
        intro i hi
        refine Tot.succ ?_
        simp only [riverbankref03_Check.l0]
        refine Tot.ite (fun h => absurd h (by omega)) (fun _ => h1 90 0 (by omega))
      | succ d ih =>
        intro i hi
        refine Tot.succ ?_
        simp only [riverbankref03_Check.l0]
        have hi1 : wrap64 ((i : Int) + 1) = ((i + 1 : Nat) : Int) := by rw [wi (by omega) (by omega)]; omega
        rw [hi1]
        refine Tot.ite (fun _ => Tot.ite (fun _ => Tot.bind (t_Find s hs _) (fun _ _ _ => Tot.bind (t_Most x _) (fun _ _ _ => Tot.ite (fun _ => Tot.ret trivial) (fun _ => Tot.bind (t_Kind x _) (fun _ _ _ => Tot.ite (fun _ => Tot.ite (fun _ => ih (i + 1) (by omega)) (fun _ => Tot.ret trivial)) (fun _ => ih (i + 1) (by omega))))))) (fun h => absurd h (by omega))) (fun _ => h1 90 0 (by omega))
    refine Tot.bind (Tot.is (e_Is s _ hb)) (fun v _ _ => Tot.ite (fun _ => Tot.ite (fun _ => hj) (fun ha => Tot.ite (fun _ => hj) (fun ha2 => ?_))) (fun _ => hj))
    refine Tot.ite (fun _ => hj) (fun _ => Tot.ite (fun _ => hj) (fun _ => Tot.ite (fun _ => hj) (fun _ => ?_)))
    refine Tot.succ ?_
    simp only [riverbankref03_Check.j0]
    refine Tot.ite (fun _ => Tot.ret (fun h => absurd h (by decide))) (fun _ => (h0 _ rfl 14 0 (by omega)).mono (fun _ _ _ _ => ⟨by omega, hb⟩))
  · refine Tot.bind (Tot.is (e_Is s _ hb)) (fun v hv _ => Tot.ite (fun h => by rw [hv] at h; cases h) (fun _ => hj))
theorem t_General (s : ByteArray) (a : Int) : Tot (fun k => riverbankref07_General.f k s a) (fun v => -1 ≤ v ∧ v < 90) := by
  unfold riverbankref07_General.f
  have hj : Tot (fun k => riverbankref07_General.j0 k s a true) (fun v => -1 ≤ v ∧ v < 90) := by
    refine Tot.succ ?_
    simp only [riverbankref07_General.j0]
    refine Tot.ite (fun _ => Tot.ret ⟨by omega, by omega⟩) (fun h => absurd trivial h)
  rcases board_tf s with hb | hb
  · have hs := board_size hb
    have h1 : ∀ (d i : Nat), i + d = 90 → Tot (fun k => riverbankref07_General.l0 k s a (i : Int)) (fun v => -1 ≤ v ∧ v < 90) := by
      intro d
      induction d with
      | zero =>
        intro i hi
        refine Tot.succ ?_
        simp only [riverbankref07_General.l0]
        refine Tot.ite (fun h => absurd h (by omega)) (fun _ => Tot.ret ⟨by omega, by omega⟩)
      | succ d ih =>
        intro i hi
        refine Tot.succ ?_
        simp only [riverbankref07_General.l0]
        have hi1 : wrap64 ((i : Int) + 1) = ((i + 1 : Nat) : Int) := by rw [wi (by omega) (by omega)]; omega
        rw [hi1]
        have hof : ∃ v, riverbankref02_Of.f 75 a = some v := by unfold riverbankref02_Of.f; split <;> exact ⟨_, rfl⟩
        refine Tot.ite (fun _ => Tot.ite (fun _ => Tot.ite (fun _ => Tot.bind (Tot.c hof) (fun _ _ _ => Tot.ite (fun _ => Tot.ret ⟨by omega, by omega⟩) (fun _ => ih (i + 1) (by omega)))) (fun h => absurd h (by omega))) (fun h => absurd h (by omega))) (fun _ => Tot.ret ⟨by omega, by omega⟩)
    refine Tot.bind (Tot.is (e_Is s _ hb)) (fun v _ _ => Tot.ite (fun _ => Tot.ite (fun _ => hj) (fun _ => ?_)) (fun _ => hj))
    refine Tot.succ ?_
    simp only [riverbankref07_General.j0]
    refine Tot.ite (fun _ => Tot.ret ⟨by omega, by omega⟩) (fun _ => h1 90 0 (by omega))
  · refine Tot.bind (Tot.is (e_Is s _ hb)) (fun v hv _ => Tot.ite (fun h => by rw [hv] at h; cases h) (fun _ => hj))
theorem mx_le {a b c : Int} (h : a ≤ c) (g : b ≤ c) : mx a b ≤ c := by unfold mx; split <;> assumption
theorem mn_ge {a b c : Int} (h : c ≤ a) (g : c ≤ b) : c ≤ mn a b := by unfold mn; split <;> assumption
theorem mn_le {a b c : Int} (h : a ≤ c) (g : b ≤ c) : mn a b ≤ c := by unfold mn; split <;> assumption
theorem t_between (s : ByteArray) (hs : s.size = 90) (a b : Int) (a0 : 0 ≤ a) (a1 : a < 90) (b0 : 0 ≤ b) (b1 : b < 90) : Tot (fun k => riverbankref05_between.f k s a b) (fun _ => True) := by
  have h1 : ∀ (st : Int), 1 ≤ st → st ≤ 9 → ∀ (d : Nat) (n x : Int), 0 ≤ x → 90 - x ≤ d → x ≤ 200 → Tot (fun k => riverbankref05_between.l0 k s a b st n x) (fun _ => True) := by
    intro st s1 s2 d
    induction d with
    | zero =>
      intro n x x0 hd hx
      refine Tot.succ ?_
      simp only [riverbankref05_between.l0]
      refine Tot.ite (fun h => absurd h (by have := mx_le (a := a) (b := b) (c := 89) (by omega) (by omega); omega)) (fun _ => Tot.ret trivial)
    | succ d ih =>
      intro n x x0 hd hx
      refine Tot.succ ?_
      simp only [riverbankref05_between.l0]
      have hm := mx_le (a := a) (b := b) (c := 89) (by omega) (by omega)
      have hx1 : wrap64 (x + st) = x + st := wi (by omega) (by omega)
      rw [hx1]
      refine Tot.ite (fun h => Tot.ite (fun _ => Tot.ite (fun _ => Tot.ite (fun _ => ih _ _ (by omega) (by omega) (by omega)) (fun _ => ih _ _ (by omega) (by omega) (by omega))) (fun h => absurd h (by omega))) (fun h => absurd h (by omega))) (fun _ => Tot.ret trivial)
  have h2 : ∀ (st : Int), 1 ≤ st → st ≤ 9 → Tot (fun k => riverbankref05_between.j0 k s a b st) (fun _ => True) := by
    intro st s1 s2
    refine Tot.succ ?_
    simp only [riverbankref05_between.j0]
    have m0 := mn_ge (a := a) (b := b) (c := 0) (by omega) (by omega)
    have m1 := mn_le (a := a) (b := b) (c := 89) (by omega) (by omega)
    rw [wi (by omega) (by omega)]
    exact h1 st s1 s2 90 0 _ (by omega) (by omega) (by omega)
  unfold riverbankref05_between.f
  refine Tot.ite (fun _ => Tot.ret trivial) (fun _ => Tot.ite (fun _ => h2 1 (by omega) (by omega)) (fun _ => Tot.ite (fun _ => h2 9 (by omega) (by omega)) (fun _ => Tot.ret trivial)))
theorem t_Facing (s : ByteArray) : Tot (fun k => riverbankref07_Facing.f k s) (fun _ => True) := by
  unfold riverbankref07_Facing.f
  refine Tot.bind (t_General s 0) (fun u hu _ => Tot.bind (t_General s 1) (fun v hv _ => Tot.ite (fun _ => Tot.ite (fun _ => Tot.ite (fun _ => Tot.bind (P := fun _ => True) ?_ (fun _ _ _ => Tot.ret trivial)) (fun _ => Tot.ret trivial)) (fun _ => Tot.ret trivial)) (fun _ => Tot.ret trivial)))
  unfold riverbankref05_Between.f
  have hr : ∀ a, ∃ v, riverbankref05_real.f a = some v := by intro a; unfold riverbankref05_real.f; split <;> exact ⟨_, rfl⟩
  rcases board_tf s with hb | hb
  · have hs := board_size hb
    exact Tot.bind (Tot.is (e_Is s _ hb)) (fun _ _ _ => Tot.ite (fun _ => Tot.bind (Tot.c (hr _)) (fun _ _ _ => Tot.ite (fun _ => Tot.bind (Tot.c (hr _)) (fun _ _ _ => Tot.ite (fun _ => Tot.bind (t_between s hs _ _ (by omega) (by omega) (by omega) (by omega)) (fun _ _ _ => Tot.ret trivial)) (fun _ => Tot.ret trivial))) (fun _ => Tot.ret trivial))) (fun _ => Tot.ret trivial))
  · exact Tot.bind (Tot.is (e_Is s _ hb)) (fun v hv _ => Tot.ite (fun h => by rw [hv] at h; cases h) (fun _ => Tot.ret trivial))
/-! ### the document's moves -/
theorem t_half (s : ByteArray) (hs : s.size = 90) (a b n st : Int) (h1 : b > a → 0 ≤ n + st ∧ n + st < 90) (h2 : ¬ b > a → 0 ≤ n - st ∧ n - st < 90) : Tot (fun _ => riverbankref05_half.f a b n s st) (fun _ => True) := by
  unfold riverbankref05_half.f
  refine Tot.ite (fun h => ?_) (fun h => ?_)
  · have := h1 h
    rw [wi (by omega) (by omega)]
    exact Tot.ite (fun _ => Tot.ite (fun _ => Tot.ret trivial) (fun h => absurd h (by omega))) (fun h => absurd h (by omega))
  · have := h2 h
    rw [wi (by omega) (by omega)]
    exact Tot.ite (fun _ => Tot.ite (fun _ => Tot.ret trivial) (fun h => absurd h (by omega))) (fun h => absurd h (by omega))
theorem mxmn (a b : Int) (h : mx a b - mn a b = 2) (h0 : 0 ≤ a) (h1 : 0 ≤ b) : (b > a → b = a + 2) ∧ (¬ b > a → a = b + 2) := by
  unfold mx mn at h
  split at h <;> split at h <;> constructor <;> intro <;> omega
theorem t_horse (s : ByteArray) (hs : s.size = 90) (a b : Int) (a0 : 0 ≤ a) (a1 : a < 90) (b0 : 0 ≤ b) (b1 : b < 90) : Tot (fun k => riverbankref05_horse.f k s a b) (fun _ => True) := by
  unfold riverbankref05_horse.f
  have da : wrap64 (Int.tdiv a 9) = a / 9 := by rw [Int.tdiv_eq_ediv_of_nonneg a0, wi (by omega) (by omega)]
  have db : wrap64 (Int.tdiv b 9) = b / 9 := by rw [Int.tdiv_eq_ediv_of_nonneg b0, wi (by omega) (by omega)]
  have ma : Int.tmod a 9 = a % 9 := Int.tmod_eq_emod_of_nonneg a0
  have mb : Int.tmod b 9 = b % 9 := Int.tmod_eq_emod_of_nonneg b0
  have hw : ∀ x y : Int, 0 ≤ x → x < 90 → 0 ≤ y → y < 90 → riverbankref05_away.f x y = some (mx x y - mn x y) := by
    intro x y x0 x1 y0 y1
    unfold riverbankref05_away.f
    have p := mx_le (a := x) (b := y) (c := 89) (by omega) (by omega)
    have q := mn_ge (a := x) (b := y) (c := 0) (by omega) (by omega)
    have p' : 0 ≤ mx x y := by unfold mx; split <;> omega
    have q' := mn_le (a := x) (b := y) (c := 89) (by omega) (by omega)
    rw [wi (by omega) (by omega)]
  have hj : ∀ (u v : Int) (c : Bool), v = mx (a / 9) (b / 9) - mn (a / 9) (b / 9) → u = mx (a % 9) (b % 9) - mn (a % 9) (b % 9) → (c = true → v = 2) → Tot (fun k => riverbankref05_horse.j0 k s a b u v c) (fun _ => True) := by
    intro u v c hv hu hc
    refine Tot.succ ?_
    simp only [riverbankref05_horse.j0]
    rw [da, db, ma, mb]
    refine Tot.ite (fun h => Tot.bind (t_half s hs _ _ _ _ ?_ ?_) (fun _ _ _ => Tot.ret trivial)) (fun _ => Tot.ite (fun h => Tot.ite (fun _ => Tot.bind (t_half s hs _ _ _ _ ?_ ?_) (fun _ _ _ => Tot.ret trivial)) (fun _ => Tot.ret trivial)) (fun _ => Tot.ret trivial))
    · have := mxmn (a / 9) (b / 9) (by rw [← hv]; exact hc h) (by omega) (by omega)
      intro g; have := this.1 g; omega
    · have := mxmn (a / 9) (b / 9) (by rw [← hv]; exact hc h) (by omega) (by omega)
      intro g; have := this.2 g; omega
    · have := mxmn (a % 9) (b % 9) (by rw [← hu]; exact h) (by omega) (by omega)
      intro g; have := this.1 g; omega
    · have := mxmn (a % 9) (b % 9) (by rw [← hu]; exact h) (by omega) (by omega)
      intro g; have := this.2 g; omega
  rw [ma, mb, da, db, hw _ _ (by omega) (by omega) (by omega) (by omega), hw _ _ (by omega) (by omega) (by omega) (by omega)]
  simp only [Option.bind_some]
  exact Tot.ite (fun _ => hj _ _ _ rfl rfl (fun h => by simpa using h)) (fun _ => hj _ _ _ rfl rfl (fun h => by cases h))
theorem t_pawn (x a b : Int) : Tot (fun k => riverbankref05_pawn.f k x a b) (fun _ => True) := by
  unfold riverbankref05_pawn.f
  have hj : ∀ c, Tot (fun k => riverbankref05_pawn.j0 k x a b c) (fun _ => True) := by
    intro c
    refine Tot.succ ?_
    simp only [riverbankref05_pawn.j0]
    (repeat' (first | exact Tot.ret trivial | exact Tot.c (c_real _ _) | exact Tot.c (c_File _) | exact Tot.c (c_own _ _) | exact Tot.c (c_Palace _ _) | exact Tot.c (c_Over _ _) | exact Tot.c (c_advisor _ _) | exact Tot.c (c_away _ _) | exact t_Side _ _ | exact t_Kind _ _ | refine Tot.ite (fun _ => ?_) (fun _ => ?_) | refine Tot.bind (Tot.c (c_real _ _)) (fun _ _ _ => ?_) | refine Tot.bind (Tot.c (c_File _)) (fun _ _ _ => ?_) | refine Tot.bind (Tot.c (c_own _ _)) (fun _ _ _ => ?_) | refine Tot.bind (Tot.c (c_Palace _ _)) (fun _ _ _ => ?_) | refine Tot.bind (Tot.c (c_Over _ _)) (fun _ _ _ => ?_) | refine Tot.bind (Tot.c (c_advisor _ _)) (fun _ _ _ => ?_) | refine Tot.bind (Tot.c (c_away _ _)) (fun _ _ _ => ?_) | refine Tot.bind (t_Side _ _) (fun _ _ _ => ?_) | refine Tot.bind (t_Kind _ _) (fun _ _ _ => ?_)))
  exact Tot.ite (fun _ => hj _) (fun _ => hj _)
theorem t_can (s : ByteArray) (hs : s.size = 90) (a b : Int) (a0 : 0 ≤ a) (a1 : a < 90) (b0 : 0 ≤ b) (b1 : b < 90) : Tot (fun k => riverbankref05_can.f k s a b) (fun _ => True) := by
  have hm : wrap64 (Int.tdiv (wrap64 (a + b)) 2) = (a + b) / 2 := by
    rw [wi (x := a + b) (by omega) (by omega), Int.tdiv_eq_ediv_of_nonneg (by omega), wi (by omega) (by omega)]
  unfold riverbankref05_can.f
  rw [hm]
  have hi : (0 ≤ a) ∧ a < (s.size : Int) := ⟨a0, by omega⟩
  have hq : (0 ≤ (a + b) / 2) ∧ (a + b) / 2 < (s.size : Int) := ⟨by omega, by omega⟩
  have hb : (0 ≤ b) ∧ b < (s.size : Int) := ⟨b0, by omega⟩
  refine Tot.ite (fun _ => ?_) (fun h => absurd hi.1 h)
  refine Tot.ite (fun _ => ?_) (fun h => absurd hi.2 h)
  refine Tot.bind (Tot.c (c_away _ _)) (fun u _ _ => Tot.bind (Tot.c (c_away _ _)) (fun v _ _ => Tot.bind (t_Kind s a) (fun kd _ _ => ?_)))
  refine Tot.ite (fun _ => Tot.ite (fun _ => Tot.bind (t_May s a b) (fun _ _ _ => Tot.ret trivial)) (fun _ => Tot.ret trivial)) (fun _ => ?_)
  refine Tot.ite (fun _ => Tot.ite (fun _ => Tot.ite (fun _ => Tot.bind (t_May s a b) (fun _ _ _ => Tot.ret trivial)) (fun _ => Tot.ret trivial)) (fun _ => Tot.ret trivial)) (fun _ => ?_)
  refine Tot.ite (fun _ => Tot.ite (fun _ => Tot.ite (fun _ => Tot.bind (t_May s a b) (fun _ _ _ => Tot.ite (fun _ => Tot.ite (fun _ => Tot.ite (fun _ => Tot.ret trivial) (fun h => absurd hq.2 h)) (fun h => absurd hq.1 h)) (fun _ => Tot.ret trivial))) (fun _ => Tot.ret trivial)) (fun _ => Tot.ret trivial)) (fun _ => ?_)
  refine Tot.ite (fun _ => Tot.bind (t_horse s hs a b a0 a1 b0 b1) (fun _ _ _ => Tot.ret trivial)) (fun _ => ?_)
  refine Tot.ite (fun _ => Tot.bind (t_between s hs a b a0 a1 b0 b1) (fun _ _ _ => Tot.ret trivial)) (fun _ => ?_)
  refine Tot.ite (fun _ => Tot.bind (t_between s hs a b a0 a1 b0 b1) (fun _ _ _ => ?_)) (fun _ => ?_)
  · refine Tot.ite (fun _ => Tot.ite (fun _ => Tot.ite (fun _ => Tot.ite (fun _ => Tot.ret trivial) (fun _ => Tot.ite (fun _ => Tot.ret trivial) (fun _ => Tot.ret trivial))) (fun h => absurd hb.2 h)) (fun h => absurd hb.1 h)) (fun _ => ?_)
    exact Tot.ite (fun _ => Tot.ite (fun _ => Tot.ite (fun _ => Tot.ret trivial) (fun h => absurd hb.2 h)) (fun h => absurd hb.1 h)) (fun _ => Tot.ret trivial)
  · exact Tot.bind (t_Side s a) (fun _ _ _ => Tot.bind (t_pawn _ _ _) (fun _ _ _ => Tot.ret trivial))
theorem t_Fast (s : ByteArray) (hs : s.size = 90) (a b : Int) (a0 : 0 ≤ a) (a1 : a < 90) (b0 : 0 ≤ b) (b1 : b < 90) : Tot (fun k => riverbankref05_Fast.f k s a b) (fun v => v = true → ∀ x, Ev (fun k => riverbankref02_Side.f k (bt s a)) x → ¬ Ev (fun k => riverbankref02_Side.f k (bt s b)) x) := by
  unfold riverbankref05_Fast.f
  refine Tot.ite (fun _ => ?_) (fun h => absurd a0 h)
  refine Tot.ite (fun _ => ?_) (fun h => absurd h (by omega))
  refine Tot.bind (t_Side s a) (fun u hu eu => Tot.ite (fun _ => Tot.ret (fun h => by cases h)) (fun _ => ?_))
  refine Tot.ite (fun _ => ?_) (fun h => absurd b0 h)
  refine Tot.ite (fun _ => ?_) (fun h => absurd h (by omega))
  refine Tot.bind (t_Side s b) (fun v hv ev => Tot.ite (fun _ => Tot.ret (fun h => by cases h)) (fun hne => ?_))
  exact Tot.bind (t_can s hs a b a0 a1 b0 b1) (fun x _ _ => Tot.ret (fun _ y ya yb => hne (by rw [ev.uniq yb, ya.uniq eu])))
theorem setB_size (s : ByteArray) (n : Nat) (c : UInt8) (h : n < s.size) : (setB s n c).size = s.size := by rw [setB_setL s n c h, setL_size]
theorem t_Attackers (s : ByteArray) (a b : Int) : Tot (fun k => riverbankref07_Attackers.f k s a b) (fun _ => True) := by
  unfold riverbankref07_Attackers.f
  have hj : Tot (fun k => riverbankref07_Attackers.j0 k s a b true) (fun _ => True) := by
    refine Tot.succ ?_
    simp only [riverbankref07_Attackers.j0]
    exact Tot.ite (fun _ => Tot.ret trivial) (fun h => absurd trivial h)
  rcases board_tf s with hb | hb
  · have hs := board_size hb
    refine Tot.bind (Tot.is (e_Is s _ hb)) (fun v _ _ => Tot.ite (fun _ => Tot.ite (fun _ => hj) (fun h0 => Tot.ite (fun _ => hj) (fun h1 => Tot.ite (fun _ => hj) (fun h2 => ?_)))) (fun _ => hj))
    refine Tot.succ ?_
    simp only [riverbankref07_Attackers.j0]
    refine Tot.ite (fun _ => Tot.ret trivial) (fun h3 => ?_)
    have h4 : b = 0 ∨ b = 1 := by simp at h3; omega
    have hput : ∃ q, riverbankref07_put.f s a b = some q ∧ q.size = 90 := by
      unfold riverbankref07_put.f riverbankref02_Of.f
      rw [if_pos ⟨by omega, by omega, by omega⟩]
      rcases h4 with rfl | rfl
      · rw [if_pos (by decide +kernel)]
        simp only [Option.bind_some]
        rw [if_pos (by decide)]
        exact ⟨_, rfl, by rw [setB_size s _ _ (by omega)]; exact hs⟩
      · rw [if_neg (by decide +kernel)]
        simp only [Option.bind_some]
        rw [if_pos (by decide)]
        exact ⟨_, rfl, by rw [setB_size s _ _ (by omega)]; exact hs⟩
    obtain ⟨q, hq, hqs⟩ := hput
    have hl : ∀ (d i : Nat) (l : List Int), i + d = 90 → l.length ≤ i → Tot (fun k => riverbankref07_Attackers.l0 k a b q l (i : Int)) (fun _ => True) := by
      intro d
      induction d with
      | zero =>
        intro i l hi hl
        refine Tot.succ ?_
        simp only [riverbankref07_Attackers.l0]
        refine Tot.ite (fun h => absurd h (by omega)) (fun _ => Tot.ret trivial)
      | succ d ih =>
        intro i l hi hl
        refine Tot.succ ?_
        simp only [riverbankref07_Attackers.l0]
        have hi1 : wrap64 ((i : Int) + 1) = ((i + 1 : Nat) : Int) := by rw [wi (by omega) (by omega)]; omega
        rw [hi1]
        refine Tot.ite (fun _ => Tot.ite (fun _ => Tot.ite (fun _ => ?_) (fun h => absurd h (by omega))) (fun h => absurd h (by omega))) (fun _ => Tot.ret trivial)
        refine Tot.bind (t_Side q _) (fun _ _ _ => Tot.ite (fun _ => ?_) (fun _ => ih (i + 1) _ (by omega) (by omega)))
        exact Tot.bind (t_Fast q hqs _ _ (by omega) (by omega) (by omega) (by omega)) (fun _ _ _ => Tot.ite (fun _ => Tot.ite (fun _ => ih (i + 1) _ (by omega) (by simp; omega)) (fun h => absurd h (by omega))) (fun _ => ih (i + 1) _ (by omega) (by omega)))
    rw [hq]
    simp only [Option.bind_some]
    exact hl 90 0 [] (by omega) (by simp)
  · exact Tot.bind (Tot.is (e_Is s _ hb)) (fun v hv _ => Tot.ite (fun h => by rw [hv] at h; cases h) (fun _ => hj))
theorem t_In (s : ByteArray) (a : Int) : Tot (fun k => riverbankref07_In.f k s a) (fun _ => True) := by
  unfold riverbankref07_In.f
  exact Tot.bind (t_General s a) (fun _ _ _ => Tot.ite (fun _ => Tot.bind (t_Attackers s _ _) (fun _ _ _ => Tot.ret trivial)) (fun _ => Tot.ret trivial))
theorem t_Safe (s : ByteArray) (a : Int) : Tot (fun k => riverbankref08_Safe.f k s a) (fun _ => True) := by
  unfold riverbankref08_Safe.f
  exact Tot.bind (t_Facing s) (fun _ _ _ => Tot.ite (fun _ => Tot.ret trivial) (fun _ => Tot.bind (t_In s a) (fun _ _ _ => Tot.ret trivial)))
theorem t_Well (s : ByteArray) (a b c : Int) : Tot (fun k => riverbankref07_Well.f k s a b c) (fun v => v = 0 → ((a = 0 ∨ a = 1) ∧ board_Is.f s = some true) ∧ Ev (fun k => riverbankref03_Check.f k s a b c) 0) := by
  unfold riverbankref07_Well.f
  refine Tot.bind (t_Check s a b c) (fun v hv ev => Tot.ite (fun hz => ?_) (fun hz => Tot.ret (fun h => absurd h hz)))
  refine Tot.bind (t_Facing s) (fun _ _ _ => Tot.ite (fun _ => Tot.ret (fun h => absurd h (by decide))) (fun _ => ?_))
  exact Tot.bind (t_In s _) (fun _ _ _ => Tot.ite (fun _ => Tot.ret (fun h => absurd h (by decide))) (fun _ => Tot.ret (fun _ => ⟨hv hz, by subst hz; exact ev⟩)))
/-! ### lists of moves -/
/-- A move of a side on a board, that Fast lets through. -/
def Good6 (s : ByteArray) (side : Int) (m : S41) : Prop := (0 ≤ m.f0 ∧ m.f0 < 90 ∧ 0 ≤ m.f1 ∧ m.f1 < 90 ∧ ¬ Ev (fun k => riverbankref02_Side.f k (bt s m.f1)) side) ∧ Ev (fun k => riverbankref02_Side.f k (bt s m.f0)) side ∧ Ev (fun k => riverbankref05_Fast.f k s m.f0 m.f1) true
theorem t_Of6 (s : ByteArray) (hs : s.size = 90) (side : Int) : Tot (fun k => riverbankref06_Of.f k s side) (fun l => l.length ≤ 8100 ∧ ∀ m ∈ l, Good6 s side m) := by
  unfold riverbankref06_Of.f
  have h0 : ∀ (d i : Nat) (l : List S41), i + d = 90 → l.length ≤ 90 * i → (∀ m ∈ l, Good6 s side m) → Tot (fun k => riverbankref06_Of.l0 k s side l (i : Int)) (fun l => l.length ≤ 8100 ∧ ∀ m ∈ l, Good6 s side m) := by
    intro d
    induction d with
    | zero =>
      intro i l hi hl hg
      refine Tot.succ ?_
      simp only [riverbankref06_Of.l0]
      exact Tot.ite (fun h => absurd h (by omega)) (fun _ => Tot.ret ⟨by omega, hg⟩)
    | succ d ih =>
      intro i l hi hl hg
      have hi1 : wrap64 ((i : Int) + 1) = ((i + 1 : Nat) : Int) := by rw [wi (by omega) (by omega)]; omega
      have h1 : Ev (fun k => riverbankref02_Side.f k (bt s (i : Int))) side → ∀ (e j : Nat) (l : List S41), j + e = 90 → l.length ≤ 90 * i + j → (∀ m ∈ l, Good6 s side m) → Tot (fun k => riverbankref06_Of.l1 k s side l (i : Int) (j : Int)) (fun l => l.length ≤ 8100 ∧ ∀ m ∈ l, Good6 s side m) := by
        intro hsd e
        induction e with
        | zero =>
          intro j l hj hl hg
          refine Tot.succ ?_
          simp only [riverbankref06_Of.l1]
          rw [hi1]
          exact Tot.ite (fun h => absurd h (by omega)) (fun _ => ih (i + 1) l (by omega) (by omega) hg)
        | succ e ihe =>
          intro j l hj hl hg
          refine Tot.succ ?_
          simp only [riverbankref06_Of.l1]
          have hj1 : wrap64 ((j : Int) + 1) = ((j + 1 : Nat) : Int) := by rw [wi (by omega) (by omega)]; omega
          rw [hi1, hj1]
          refine Tot.ite (fun _ => ?_) (fun h => absurd h (by omega))
          refine Tot.bind (t_Fast s hs _ _ (by omega) (by omega) (by omega) (by omega)) (fun v hv ev => Tot.ite (fun ht => Tot.ite (fun _ => ?_) (fun h => absurd h (by omega))) (fun _ => ihe (j + 1) l (by omega) (by omega) hg))
          refine ihe (j + 1) _ (by omega) (by simp; omega) ?_
          intro m hm
          rcases List.mem_append.mp hm with hm | hm
          · exact hg m hm
          · obtain rfl := List.mem_singleton.mp hm
            exact ⟨⟨by simp, by simp; omega, by simp, by simp; omega, hv ht _ hsd⟩, hsd, by subst ht; exact ev⟩
      refine Tot.succ ?_
      simp only [riverbankref06_Of.l0]
      rw [hi1]
      refine Tot.ite (fun _ => Tot.ite (fun _ => Tot.ite (fun _ => ?_) (fun h => absurd h (by omega))) (fun h => absurd h (by omega))) (fun h => absurd h (by omega))
      exact Tot.bind (t_Side s _) (fun v _ ev => Tot.ite (fun hv => h1 (by subst hv; exact ev) 90 0 l (by omega) (by omega) hg) (fun _ => ih (i + 1) l (by omega) (by omega) hg))
  exact h0 90 0 [] (by omega) (by simp) (by simp)
theorem movedB_setL (s : ByteArray) (i j : Nat) (h : i < s.size) : movedB s i j = setL (setL s j (s.get! i)) i 46 := by
  have e : s.data.toList.getD i 0 = s.get! i := by
    rw [get_list s i h]
    simp [List.getD, List.getElem?_eq_getElem (show i < s.data.toList.length by simpa using h)]
  unfold movedB setL
  rw [e]
/-- A move that may be made. -/
def Good8 (s : ByteArray) (side : Int) (m : S41) : Prop := Good6 s side m ∧ (∃ v, v ≠ 75 ∧ Ev (fun k => riverbankref02_Kind.f k (bt s m.f1)) v) ∧ Ev (fun k => riverbankref08_Safe.f k (movedB s m.f0.toNat m.f1.toNat) side) true
theorem moved_f (s : ByteArray) (hs : s.size = 90) (a b : Int) (a0 : 0 ≤ a) (a1 : a < 90) (b0 : 0 ≤ b) (b1 : b < 90) : riverbankref06_Moved.f s a b = some (movedB s a.toNat b.toNat) := by
  unfold riverbankref06_Moved.f
  rw [if_pos ⟨a0, by omega, b0, by omega, by omega⟩]
theorem rd_mem (l : List S41) (i : Nat) (h : i < l.length) : rd_T41 l (i : Int) ∈ l := by
  have e : rd_T41 l (i : Int) = l[i]'h := by simp [rd_T41, List.getD, List.getElem?_eq_getElem h]
  rw [e]; exact List.getElem_mem h
theorem t_Of8 (s : ByteArray) (hs : s.size = 90) (side : Int) : Tot (fun k => riverbankref08_Of.f k s side) (fun l => l.length ≤ 8100 ∧ ∀ m ∈ l, Good8 s side m) := by
  unfold riverbankref08_Of.f
  refine Tot.bind (t_Of6 s hs side) (fun x hx _ => ?_)
  obtain ⟨hxl, hxg⟩ := hx
  have h0 : ∀ (d i : Nat) (l : List S41), i + d = x.length → l.length ≤ i → (∀ m ∈ l, Good8 s side m) → Tot (fun k => riverbankref08_Of.l0 k s side x l (i : Int)) (fun l => l.length ≤ 8100 ∧ ∀ m ∈ l, Good8 s side m) := by
    intro d
    induction d with
    | zero =>
      intro i l hi hl hg
      refine Tot.succ ?_
      simp only [riverbankref08_Of.l0]
      exact Tot.ite (fun h => absurd h (by omega)) (fun _ => Tot.ret ⟨by omega, hg⟩)
    | succ d ih =>
      intro i l hi hl hg
      have hi1 : wrap64 ((i : Int) + 1) = ((i + 1 : Nat) : Int) := by rw [wi (by omega) (by omega)]; omega
      have hm := hxg _ (rd_mem x i (by omega))
      obtain ⟨⟨m0, m1, m2, m3, m4⟩, hm5, hm6⟩ := id hm
      refine Tot.succ ?_
      simp only [riverbankref08_Of.l0]
      rw [hi1, moved_f s hs _ _ m0 m1 m2 m3]
      simp only [Option.bind_some]
      refine Tot.ite (fun _ => Tot.ite (fun _ => Tot.ite (fun _ => Tot.ite (fun _ => ?_) (fun h => absurd h (by omega))) (fun h => absurd m2 h)) (fun h => absurd h (by omega))) (fun h => absurd h (by omega))
      refine Tot.bind (t_Kind s _) (fun kd _ ek => Tot.ite (fun _ => ih (i + 1) l (by omega) (by omega) hg) (fun hk => ?_))
      refine Tot.bind (t_Safe _ side) (fun sf _ es => Tot.ite (fun hsf => Tot.ite (fun _ => ?_) (fun h => absurd h (by omega))) (fun _ => ih (i + 1) l (by omega) (by omega) hg))
      refine ih (i + 1) _ (by omega) (by simp; omega) ?_
      intro m hm'
      rcases List.mem_append.mp hm' with hm' | hm'
      · exact hg m hm'
      · obtain rfl := List.mem_singleton.mp hm'
        exact ⟨hm, ⟨kd, hk, ek⟩, by subst hsf; exact es⟩
  exact h0 x.length 0 [] (by omega) (by simp) (by simp)
theorem t_Moves (s : ByteArray) (a b c : Int) : Tot (fun k => riverbankref08_Moves.f k s a b c) (fun l => l.length ≤ 8100 ∧ ∀ m ∈ l, (Good8 s a m ∧ Ev (fun k => riverbankref07_Well.f k s a b c) 0 ∧ Ev (fun k => riverbankref03_Check.f k s a b c) 0) ∧ (a = 0 ∨ a = 1) ∧ board_Is.f s = some true) := by
  unfold riverbankref08_Moves.f
  refine Tot.bind (t_Well s a b c) (fun v hv ev => Tot.ite (fun hz => ?_) (fun _ => Tot.ret ⟨by simp, by simp⟩))
  obtain ⟨⟨h1, h2⟩, h3⟩ := hv hz
  subst hz
  exact Tot.bind (t_Of8 s (board_size h2) a) (fun l hl _ => Tot.ret ⟨hl.1, fun m hm => ⟨⟨hl.2 m hm, ev, h3⟩, h1, h2⟩⟩)
end Go.Proofs.Ytmfbgcimfmgobaa.TotMath

-- of YtmfbgcimfmgobaaTotTwo
/- A move that is made: what it leaves, its key and its worth. -/
namespace Go.Proofs.Ytmfbgcimfmgobaa.TotMath
open Go.RowKit Go.Proofs.Ytmfbgcimfmgobaa.Print Go.Proofs.Ytmfbgcimfmgobaa.KeyMath Go.Proofs.Ytmfbgcimfmgobaa.KeyRef Go.Proofs.YtmfbgcimfmgobaaW.PrintWords Go.Proofs.YtmfbgcimfmgobaaW.PrintLast
/-- What is taken: nothing off an empty square. -/
def takenU (s : ByteArray) (j : Int) : Int := if bt s j = 46 then 0 else bt s j
theorem t_Apply (s : ByteArray) (hs : s.size = 90) (a b c : Int) (m : S41) (hg : Good8 s a m) (hc : Ev (fun k => riverbankref03_Check.f k s a b c) 0) :
    Tot (fun k => riverbankref06_Apply.f k s a b c m.f0 m.f1) (fun r => r.1 = movedB s m.f0.toNat m.f1.toNat ∧ r.2.1 = wrap64 (1 - a) ∧ r.2.2.2.2.1 = takenU s m.f1 ∧ r.2.2.2.2.2 = 0) := by
  obtain ⟨⟨⟨m0, m1, m2, m3, m4⟩, hsd, hf⟩, ⟨kd, hk, ek⟩, _⟩ := hg
  unfold riverbankref06_Apply.f
  refine Tot.bind (Tot.is hc) (fun e he _ => ?_)
  subst he
  refine Tot.ite (fun _ => ?_) (fun h => absurd rfl h)
  refine Tot.ite (fun h => absurd h (by omega)) (fun _ => Tot.ite (fun h => absurd h (by omega)) (fun _ => Tot.ite (fun h => absurd h (by omega)) (fun _ => Tot.ite (fun h => absurd h (by omega)) (fun _ => ?_))))
  refine Tot.ite (fun _ => ?_) (fun h => absurd m0 h)
  refine Tot.ite (fun _ => ?_) (fun h => absurd h (by omega))
  refine Tot.bind (Tot.is hsd) (fun u hu _ => ?_)
  subst hu
  refine Tot.ite (fun _ => ?_) (fun h => absurd rfl h)
  refine Tot.bind (Tot.is hf) (fun f hf _ => ?_)
  subst hf
  refine Tot.ite (fun _ => ?_) (fun h => absurd rfl h)
  refine Tot.ite (fun _ => ?_) (fun h => absurd m2 h)
  refine Tot.ite (fun _ => ?_) (fun h => absurd h (by omega))
  refine Tot.bind (Tot.is ek) (fun u hu _ => ?_)
  subst hu
  have e75 : (u == 75) = false := by simp [hk]
  rw [e75]
  refine Tot.succ ?_
  simp only [riverbankref06_Apply.j0]
  rw [moved_f s hs _ _ m0 m1 m2 m3]
  simp only [Option.bind_some]
  refine Tot.ite (fun h => by cases h) (fun _ => ?_)
  refine Tot.ite (fun _ => ?_) (fun h => absurd m2 h)
  refine Tot.ite (fun _ => ?_) (fun h => absurd h (by omega))
  unfold takenU
  refine Tot.ite (fun h => Tot.ite (fun _ => Tot.ret ⟨rfl, rfl, by rw [if_pos h], rfl⟩) (fun _ => Tot.ret ⟨rfl, rfl, by rw [if_pos h], rfl⟩)) (fun h => Tot.ite (fun _ => Tot.ret ⟨rfl, rfl, by rw [if_neg h], rfl⟩) (fun _ => Tot.ret ⟨rfl, rfl, by rw [if_neg h], rfl⟩))
theorem t_Make (s : ByteArray) (hs : s.size = 90) (a b c : Int) (m : S41) (hg : Good8 s a m) (hw : Ev (fun k => riverbankref07_Well.f k s a b c) 0) (hc : Ev (fun k => riverbankref03_Check.f k s a b c) 0) :
    Tot (fun k => riverbankref08_Make.f k s a b c m.f0 m.f1) (fun r => r.1 = movedB s m.f0.toNat m.f1.toNat ∧ r.2.1 = wrap64 (1 - a) ∧ r.2.2.2.2.1 = takenU s m.f1 ∧ r.2.2.2.2.2 = 0) := by
  unfold riverbankref08_Make.f
  refine Tot.bind (Tot.is hw) (fun e he _ => ?_)
  subst he
  refine Tot.ite (fun _ => ?_) (fun h => absurd rfl h)
  refine Tot.bind (t_Apply s hs a b c m hg hc) (fun r hr _ => ?_)
  obtain ⟨h1, h2, h3, h4⟩ := hr
  refine Tot.ite (fun _ => ?_) (fun h => absurd h4 h)
  refine Tot.bind (Tot.is (F := fun k => riverbankref08_Safe.f k r.1 a) (v := true) (by rw [h1]; exact hg.2.2)) (fun e he _ => ?_)
  subst he
  exact Tot.ite (fun _ => Tot.ret ⟨h1, h2, h3, rfl⟩) (fun h => absurd rfl h)
/-- The board behind a move, off the squares. -/
theorem moved_board (s : ByteArray) (hb : board_Is.f s = some true) (i j : Nat) (hi : i < 90) (hj : j < 90) : board_Is.f (movedB s i j) = some true := by
  have hs := board_size hb
  rw [movedB_setL s i j (by omega)]
  exact setL_board _ _ _ (setL_board s j _ hb (board_cell hb i (by omega))) (by decide)
theorem other_side (a : Int) (h : a = 0 ∨ a = 1) : wrap64 (1 - a) = 1 - a := wi (by omega) (by omega)
theorem takenU_byte (s : ByteArray) (hs : s.size = 90) (j : Nat) (hj : j < 90) : ∃ t : UInt8, takenU s (j : Int) = (t.toNat : Int) ∧ (s.get! j ≠ 46 → t = s.get! j) ∧ (s.get! j = 46 → t = 0) := by
  unfold takenU
  rw [bt_get s j (by omega)]
  by_cases h : s.get! j = 46
  · rw [if_pos (by rw [eq46]; exact h)]; exact ⟨0, rfl, fun x => absurd h x, fun _ => rfl⟩
  · rw [if_neg (by rw [eq46]; exact h)]; exact ⟨_, rfl, fun _ => rfl, fun x => absurd x h⟩
end Go.Proofs.Ytmfbgcimfmgobaa.TotMath

-- of YtmfbgcimfmgobaaValueMath
/- What pieces are worth, read off all bytes and squares at once; sums over a board. -/
namespace Go.Proofs.Ytmfbgcimfmgobaa.ValueMath
open Go.RowKit Go.Proofs.Ytmfbgcimfmgobaa.Print Go.Proofs.Ytmfbgcimfmgobaa.KeyMath Go.Proofs.Ytmfbgcimfmgobaa.KeyRef Go.Proofs.YtmfbgcimfmgobaaW.PrintWords Go.Proofs.YtmfbgcimfmgobaaW.PrintLast
/-- The piece's worth on a square is the document's, lies between its kind's worth and 50 more, and is nothing for a general and for what is no piece. -/
def pieceOk (c n : Nat) : Bool :=
  match value_Piece.f 200 (c : Int) (n : Int), riverbankref14_Piece.f 200 (c : Int) (n : Int), value_Kind.f (c : Int), board_Kind.f (c : Int) with
  | some a, some b, some k, some d => decide (a = b ∧ 0 ≤ a ∧ a ≤ 250 ∧ (board_Side.f (c : Int) = some (-1) → a = 0) ∧ (board_Side.f (c : Int) ≠ some (-1) → k ≤ a ∧ a ≤ k + 50 ∧ (d = 75 → a = 0)))
  | _, _, _, _ => false
set_option maxRecDepth 100000 in
theorem piece_dec : ((List.range 256).all fun c => (List.range 90).all fun n => pieceOk c n) = true := by decide +kernel
theorem piece_ok (b : UInt8) (n : Nat) (hn : n < 90) : pieceOk b.toNat n = true := by
  have h := List.all_eq_true.mp (List.all_eq_true.mp piece_dec b.toNat (List.mem_range.mpr b.toNat_lt)) n (List.mem_range.mpr hn)
  exact h
def pv (b : UInt8) (n : Int) : Int := (value_Piece.f 200 (b.toNat : Int) n).getD 0
theorem piece_in (b : UInt8) (n : Nat) (hn : n < 90) : value_Piece.f 200 (b.toNat : Int) n = some (pv b n) ∧ riverbankref14_Piece.f 200 (b.toNat : Int) n = some (pv b n) ∧ 0 ≤ pv b n ∧ pv b n ≤ 250 ∧ (sideU b = -1 → pv b n = 0) ∧
    ∃ k d, value_Kind.f (b.toNat : Int) = some k ∧ board_Kind.f (b.toNat : Int) = some d ∧ (sideU b ≠ -1 → k ≤ pv b n ∧ pv b n ≤ k + 50 ∧ (d = 75 → pv b n = 0)) := by
  have h := piece_ok b n hn
  unfold pieceOk at h
  rw [side_f b] at h
  split at h
  · rename_i a c k d h1 h2 h3 h4
    have h := of_decide_eq_true h
    obtain ⟨rfl, h5, h6, h7, h8⟩ := h
    have e : pv b n = a := by unfold pv; rw [h1]; rfl
    rw [e]
    refine ⟨h1, h2, h5, h6, fun hs => h7 (by rw [hs]), k, d, h3, h4, fun hs => h8 (by simpa using hs)⟩
  · cases h
theorem piece_out (k : Nat) (b : UInt8) (n : Int) (hn : n < 0 ∨ 89 < n) : value_Piece.f (k + 1) (b.toNat : Int) n = some 0 ∧ riverbankref14_Piece.f (k + 1) (b.toNat : Int) n = some 0 := by
  have hq : board_isSquare.f n = some false := by
    unfold board_isSquare.f
    split
    · rw [decide_eq_false (by omega)]
    · rfl
  obtain ⟨r, hr⟩ := brank_some n
  have hf : board_File.f n = some (-1) := by unfold board_File.f; rw [hq]; rfl
  constructor
  · unfold value_Piece.f
    rw [side_f, hf, hr]
    simp only [Option.bind_some]
    split <;> simp [value_Piece.j0]
  · unfold riverbankref14_Piece.f
    rw [rside_eq' (k + 1) (by omega)]
    simp only [Option.bind_some]
    split
    · simp [riverbankref14_Piece.j0]
    · split
      · simp [riverbankref14_Piece.j0]
      · rw [decide_eq_true (by omega)]; simp [riverbankref14_Piece.j0]
theorem piece_200 (b : UInt8) (n : Int) : value_Piece.f 200 (b.toNat : Int) n = some (pv b n) ∧ riverbankref14_Piece.f 200 (b.toNat : Int) n = some (pv b n) ∧ 0 ≤ pv b n ∧ pv b n ≤ 250 ∧ (sideU b = -1 → pv b n = 0) := by
  by_cases hn : n < 0 ∨ 89 < n
  · obtain ⟨h1, h2⟩ := piece_out 199 b n hn
    have e : pv b n = 0 := by unfold pv; rw [h1]; rfl
    rw [e]; exact ⟨h1, h2, by omega, by omega, fun _ => rfl⟩
  · obtain ⟨m, rfl⟩ : ∃ m : Nat, n = m := ⟨n.toNat, by omega⟩
    have h := piece_in b m (by omega)
    exact ⟨h.1, h.2.1, h.2.2.1, h.2.2.2.1, h.2.2.2.2.1⟩
theorem piece_k (k : Nat) (h : 200 ≤ k) (b : UInt8) (n : Int) : value_Piece.f k (b.toNat : Int) n = some (pv b n) := by
  obtain ⟨d, rfl⟩ : ∃ d, k = 200 + d := ⟨k - 200, by omega⟩
  induction d with
  | zero => exact (piece_200 b n).1
  | succ d ih => exact value_Piece.mono _ _ _ _ (ih (by omega))
theorem pv_range (b : UInt8) (n : Int) : 0 ≤ pv b n ∧ pv b n ≤ 250 := ⟨(piece_200 b n).2.2.1, (piece_200 b n).2.2.2.1⟩
theorem pv_none (b : UInt8) (n : Int) (h : sideU b = -1) : pv b n = 0 := (piece_200 b n).2.2.2.2 h

/-! ### sums -/
/-- What the first m squares are worth to a side, without wraps. -/
def sSum (s : ByteArray) (side : Int) : Nat → Int
  | 0 => 0
  | n + 1 => sSum s side n + (if sideU (s.get! n) = side then pv (s.get! n) n else 0)
theorem sSum_range (s : ByteArray) (side : Int) (n : Nat) : 0 ≤ sSum s side n ∧ sSum s side n ≤ 250 * n := by
  induction n with
  | zero => exact ⟨Int.le_refl _, Int.le_refl _⟩
  | succ n ih =>
    unfold sSum
    have := pv_range (s.get! n) n
    split <;> omega
theorem wrap_mid {x : Int} (h : -1000000 ≤ x) (h2 : x ≤ 1000000) : wrap64 x = x := by unfold wrap64; omega
theorem sideSum_eq (s : ByteArray) (hs : s.size = 90) (side : Int) (n : Nat) (hn : n ≤ 90) : sideSum s side n = sSum s side n := by
  induction n with
  | zero => rfl
  | succ n ih =>
    unfold sideSum sSum
    have hp : pieceN s n = pv (s.get! n) n := by unfold pieceN pv; rw [bt_get s n (by omega)]
    rw [ih (by omega), hp, bt_get s n (by omega), side_f]
    have := pv_range (s.get! n) n
    have := sSum_range s side n
    by_cases h : sideU (s.get! n) = side
    · rw [if_pos (by rw [h]), if_pos h]; exact wrap_mid (by omega) (by omega)
    · rw [if_neg (by intro e; exact h (Option.some.inj e)), if_neg h]; omega
/-- What a board is worth to the side whose move it is. -/
def ofV (s : ByteArray) (side : Int) : Int := if side = 0 then sSum s 0 90 - sSum s 1 90 else sSum s 1 90 - sSum s 0 90
theorem ofV_range (s : ByteArray) (side : Int) : -22500 ≤ ofV s side ∧ ofV s side ≤ 22500 := by
  have := sSum_range s 0 90
  have := sSum_range s 1 90
  unfold ofV; split <;> omega
theorem of_board (s : ByteArray) (a b c : Int) (h : board_Is.f s = some true) : value_Of.f s a b c = some (ofV s a) := by
  have hs := board_size h
  have := sSum_range s 0 90
  have := sSum_range s 1 90
  unfold value_Of.f
  rw [h, sideSum_eq s hs 0 90 (by omega), sideSum_eq s hs 1 90 (by omega)]
  simp only [Option.bind_some, if_true]
  unfold ofV
  split
  · rw [wrap_mid (by omega) (by omega)]
  · rw [wrap_mid (x := _ - _) (by omega) (by omega), wrap_mid (by omega) (by omega), Int.neg_sub]
theorem of_other (s : ByteArray) (a b c : Int) (h : board_Is.f s = some false) : value_Of.f s a b c = some 0 := by
  unfold value_Of.f; rw [h]; simp only [Option.bind_some]; rw [if_neg (by decide)]
theorem sSum_same {s t : ByteArray} (side : Int) (m : Nat) (h : ∀ j, j < m → s.get! j = t.get! j) : sSum s side m = sSum t side m := by
  induction m with
  | zero => rfl
  | succ m ih => unfold sSum; rw [ih (fun j hj => h j (by omega)), h m (by omega)]
theorem sSum_set (s : ByteArray) (hs : s.size = 90) (side : Int) (n : Nat) (hn : n < 90) (c : UInt8) (m : Nat) (hm : m ≤ 90) (hnm : n < m) :
    sSum (setL s n c) side m = sSum s side m - (if sideU (s.get! n) = side then pv (s.get! n) n else 0) + (if sideU c = side then pv c n else 0) := by
  induction m with
  | zero => omega
  | succ m ih =>
    unfold sSum
    rw [setL_get s n c m (by omega)]
    by_cases e : n = m
    · subst e
      rw [if_pos rfl, sSum_same (s := setL s n c) (t := s) side n (fun j hj => by rw [setL_get s n c j (by omega), if_neg (by omega)])]
      omega
    · rw [if_neg e, ih (by omega) (by omega)]; omega
end Go.Proofs.Ytmfbgcimfmgobaa.ValueMath

-- of YtmfbgcimfmgobaaPureValueFollows
/- For every position of at most 200 bytes: behind each of the document's moves what it is moved to is what the position is worth; where there are none, the examples of live() hold; no condition. -/
namespace Go.Proofs.Ytmfbgcimfmgobaa.Pure
open Go.RowKit Go.Proofs.Ytmfbgcimfmgobaa.Print Go.Proofs.Ytmfbgcimfmgobaa.KeyRef Go.Proofs.Ytmfbgcimfmgobaa.ValueMath Go.Proofs.Ytmfbgcimfmgobaa.TotMath Go.Proofs.YtmfbgcimfmgobaaW.PrintWords Go.Proofs.YtmfbgcimfmgobaaW.PrintLast
theorem ofV_moved (s : ByteArray) (hs : s.size = 90) (a : Int) (ha : a = 0 ∨ a = 1) (i j : Nat) (hi : i < 90) (hj : j < 90) (hne : i ≠ j) (hc : sideU (s.get! i) = a) (hd : sideU (s.get! j) ≠ a) :
    ofV (movedB s i j) (1 - a) = pv (s.get! i) i - pv (s.get! i) j - pv (s.get! j) j - ofV s a := by
  have h := fun side => sSum_set (setL s j (s.get! i)) (by rw [setL_size]; exact hs) side i hi 46 90 (by omega) (by omega)
  have g := fun side => sSum_set s hs side j hj (s.get! i) 90 (by omega) (by omega)
  have e : (setL s j (s.get! i)).get! i = s.get! i := by rw [setL_get s j _ i (by omega), if_neg (by omega)]
  have z : sideU 46 = -1 := by decide +kernel
  rw [movedB_setL s i j (by omega)]
  have h0 := h 0
  have h1 := h 1
  have g0 := g 0
  have g1 := g 1
  rw [e, z, if_neg (c := (-1 : Int) = 0) (by decide), hc] at h0
  rw [e, z, if_neg (c := (-1 : Int) = 1) (by decide), hc] at h1
  rw [hc] at g0 g1
  unfold ofV
  have hp := pv_none (s.get! j) j
  rcases ha with rfl | rfl
  · rw [if_neg (by decide), if_pos rfl, h0, h1, g0, g1]
    simp only [if_true]
    rw [if_neg hd]
    rcases side_range (s.get! j) with hx | hx | hx
    · rw [hx, hp hx]; simp; omega
    · exact absurd hx hd
    · rw [hx]; simp; omega
  · rw [if_pos (by decide), if_neg (by decide), h0, h1, g0, g1]
    simp only [if_true]
    rw [if_neg hd]
    rcases side_range (s.get! j) with hx | hx | hx
    · rw [hx, hp hx]; simp; omega
    · rw [hx]; simp; omega
    · exact absurd hx hd
theorem value_follow (s : ByteArray) (a b c : Int) (m : S41) (hg : Good8 s a m) (ha : a = 0 ∨ a = 1) (hb : board_Is.f s = some true) (r : ByteArray × Int × Int × Int × Int × Int) (hr : r.1 = movedB s m.f0.toNat m.f1.toNat ∧ r.2.1 = wrap64 (1 - a) ∧ r.2.2.2.2.1 = takenU s m.f1 ∧ r.2.2.2.2.2 = 0) :
    ∃ v, Go.Proofs.Ytmfbgcimfmgobaa.TotMath.Ev (fun k => value_Moved.f k (ofV s a) (bt s m.f0) m.f0 m.f1 r.2.2.2.2.1) v ∧ value_Of.f r.1 r.2.1 r.2.2.1 r.2.2.2.1 = some v := by
  obtain ⟨⟨⟨m0, m1, m2, m3, m4⟩, m5, _⟩, _, _⟩ := hg
  obtain ⟨h1, h2, h3, _⟩ := hr
  have hs := board_size hb
  obtain ⟨i, hi⟩ : ∃ i : Nat, m.f0 = i := ⟨m.f0.toNat, by omega⟩
  obtain ⟨j, hj⟩ : ∃ i : Nat, m.f1 = i := ⟨m.f1.toNat, by omega⟩
  rw [hi] at m0 m1 m5
  rw [hj] at m2 m3 m4
  rw [h1, h2, h3, hi, hj]
  simp only [Int.toNat_natCast]
  have hne : i ≠ j := by intro e; exact m4 (by rw [← e]; exact m5)
  obtain ⟨t, ht, t1, t2⟩ := takenU_byte s hs j (by omega)
  rw [bt_get s i (by omega)] at m5
  rw [bt_get s j (by omega)] at m4
  have hc : sideU (s.get! i) = a := (e_Side _).uniq m5
  have hd : sideU (s.get! j) ≠ a := fun e => m4 (by rw [← e]; exact e_Side _)
  refine ⟨_, ?_, of_board _ _ _ _ (moved_board s hb i j (by omega) (by omega))⟩
  rw [other_side a ha, ofV_moved s hs a ha i j (by omega) (by omega) hne hc hd, ht, bt_get s i (by omega)]
  have e : pv t (j : Int) = pv (s.get! j) (j : Int) := by
    by_cases h : s.get! j = 46
    · rw [t2 h, h, pv_none 0 _ (by decide +kernel), pv_none 46 _ (by decide +kernel)]
    · rw [t1 h]
  have p1 := pv_range (s.get! i) i
  have p2 := pv_range (s.get! i) j
  have p3 := pv_range (s.get! j) j
  have hr := ofV_range s a
  refine ⟨200, fun k hk => ?_⟩
  simp only [value_Moved.f]
  rw [piece_k k hk, piece_k k hk, piece_k k hk, e]
  simp only [Option.bind_some]
  rw [wrap_mid (x := pv (s.get! i) i - pv (s.get! i) j) (by omega) (by omega), wrap_mid (x := pv (s.get! i) i - pv (s.get! i) j - pv (s.get! j) j) (by omega) (by omega), wrap_mid (by omega) (by omega)]
theorem ValueFollows (s : ByteArray) (a b c : Int) (_ : (Lit.int .i64 a).wf = true) (_ : (Lit.int .i64 b).wf = true) (_ : (Lit.int .i64 c).wf = true) : ∃ k, riverbanklaw14_ValueFollows.f k s a b c = some true := by
  have hl : riverbanklaw14_live.f = some true := rfl
  suffices h : Tot (fun k => riverbanklaw14_ValueFollows.f k s a b c) (fun v => v = true) by
    obtain ⟨v, hv, K, h⟩ := h
    exact ⟨K, by rw [← hv]; exact h K (Nat.le_refl _)⟩
  unfold riverbanklaw14_ValueFollows.f
  simp only [hl, Option.bind_some]
  refine Tot.ite (fun _ => Tot.ret rfl) (fun _ => ?_)
  refine Tot.bind (t_Moves s a b c) (fun l hm _ => ?_)
  obtain ⟨hlen, hm⟩ := hm
  obtain ⟨kv, hkv⟩ : ∃ kv, value_Of.f s a b c = some kv := by
    rcases board_tf s with hb | hb
    · exact ⟨_, of_board s a b c hb⟩
    · exact ⟨_, of_other s a b c hb⟩
  rw [hkv]
  simp only [Option.bind_some]
  have loop : ∀ (d i : Nat), i + d = l.length → Tot (fun k => riverbanklaw14_ValueFollows.l0 k l kv (i : Int) s a b c) (fun v => v = true) := by
    intro d
    induction d with
    | zero =>
      intro i hi
      refine Tot.succ ?_
      simp only [riverbanklaw14_ValueFollows.l0, hl, Option.bind_some]
      exact Tot.ite (fun h => absurd h (by omega)) (fun _ => Tot.ret rfl)
    | succ d ih =>
      intro i hi
      have hi1 : wrap64 ((i : Int) + 1) = ((i + 1 : Nat) : Int) := by rw [wi (by omega) (by omega)]; omega
      obtain ⟨⟨hg, hw, hc⟩, ha, hb⟩ := hm _ (rd_mem l i (by omega))
      have hs := board_size hb
      have hk : kv = ofV s a := by rw [of_board s a b c hb] at hkv; exact (Option.some.inj hkv).symm
      have m0 := hg.1.1.1
      have m1 := hg.1.1.2.1
      refine Tot.succ ?_
      simp only [riverbanklaw14_ValueFollows.l0, hl, Option.bind_some]
      rw [hi1]
      refine Tot.ite (fun _ => Tot.ite (fun _ => ?_) (fun h => absurd h (by omega))) (fun h => absurd h (by omega))
      refine Tot.bind (t_Make s hs a b c _ hg hw hc) (fun r hr _ => ?_)
      refine Tot.ite (fun _ => Tot.ite (fun _ => ?_) (fun h => absurd h (by omega))) (fun h => absurd m0 h)
      obtain ⟨v, e1, e2⟩ := value_follow s a b c _ hg ha hb r hr
      rw [e2]
      refine Tot.bind (Tot.is (by rw [hk]; exact e1)) (fun u hu _ => ?_)
      subst hu
      simp only [Option.bind_some]
      exact Tot.ite (fun _ => ih (i + 1) (by omega)) (fun h => absurd trivial h)
  exact loop l.length 0 (by omega)
end Go.Proofs.Ytmfbgcimfmgobaa.Pure
