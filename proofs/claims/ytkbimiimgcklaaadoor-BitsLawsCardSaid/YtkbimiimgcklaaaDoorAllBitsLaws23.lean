/- Merged by a program of this session (wip/gprint/merge.py): what this claim needs of this session's texts, each part as it was. -/
import Derived.Test.YtkbimiimgcklaaaDoorAllBitsLaws21
import Derived.Test.YtkbimiimgcklaaaDoorAllBitsLaws20
import Derived.Test.YtkbimiimgcklaaaDoorAllBitsLaws22
namespace Go.Proofs.YtkbimiimgcklaaaDoor.BitMath
end Go.Proofs.YtkbimiimgcklaaaDoor.BitMath
namespace Go.Proofs.YtkbimiimgcklaaaDoor.Print
end Go.Proofs.YtkbimiimgcklaaaDoor.Print
namespace Go.Proofs.YtkbimiimgcklaaaDoor.Pure
end Go.Proofs.YtkbimiimgcklaaaDoor.Pure
namespace Go.Proofs.YtkbimiimgcklaaaDoor.SetMath
end Go.Proofs.YtkbimiimgcklaaaDoor.SetMath

-- of YtkbimiimgcklaaaDoorPureBitsLaws
/- For any two sets of two words: what is in neither, a set and its rest, and how many there are, is as it must be; no condition. -/
namespace Go.Proofs.YtkbimiimgcklaaaDoor.Pure
open Go.RowKit Go.Proofs.YtkbimiimgcklaaaDoor.Print Go.Proofs.YtkbimiimgcklaaaDoor.BitMath Go.Proofs.YtkbimiimgcklaaaDoor.SetMath Go.Proofs.YtkbimiimgcklaaaDoorW.PrintWords Go.Proofs.YtkbimiimgcklaaaDoorW.PrintLast Go.Proofs.YtkbimiimgcklaaaDoorW.PrintMore
theorem u64_wf {x : Int} (h : (Lit.int .u64 x).wf = true) : U x := by
  simp [Lit.wf, IntKind.min, IntKind.max, IntKind.signed, IntKind.bits] at h
  exact ⟨by omega, by omega⟩
theorem live1 (k : Nat) (hk : 12 ≤ k) : riverbanklaw01_live.f k = some true := by
  have h : riverbanklaw01_live.f 12 = some true := by decide +kernel
  exact at_rounds riverbanklaw01_live.mono hk h
theorem cnt_not (p : Nat → Bool) : ∀ n, cnt p n + cnt (fun i => !p i) n = n
  | 0 => rfl
  | n + 1 => by
    have ih := cnt_not p n
    rw [cnt_succ, cnt_succ]
    cases hp : p n
    · rw [if_neg (by decide), if_pos (by rfl)]; omega
    · rw [if_pos rfl, if_neg (by decide)]; omega
theorem cnt_or_and (p q : Nat → Bool) : ∀ n, cnt (fun i => p i || q i) n + cnt (fun i => p i && q i) n = cnt p n + cnt q n
  | 0 => rfl
  | n + 1 => by
    have ih := cnt_or_and p q n
    rw [cnt_succ, cnt_succ, cnt_succ, cnt_succ]
    cases hp : p n with
    | false =>
      cases hq : q n with
      | false => rw [if_neg (by decide), if_neg (by decide), if_neg (by decide)]; omega
      | true => rw [if_pos (by rfl), if_neg (by decide), if_neg (by decide), if_pos rfl]; omega
    | true =>
      cases hq : q n with
      | false => rw [if_pos (by rfl), if_neg (by decide), if_pos rfl, if_neg (by decide)]; omega
      | true => rw [if_pos (by rfl), if_pos (by rfl), if_pos rfl]; omega
theorem tells_cnt {r : Int × Int} {p : Nat → Bool} (h : Tells r p) : (setL r.1 r.2).length = cnt p 90 := by
  rw [setL_length]
  exact cnt_congr 90 (fun i hi => h.mem i hi)
theorem BitsLaws (a b c d : Int) (ha : (Lit.int .u64 a).wf = true) (hb : (Lit.int .u64 b).wf = true) (hc : (Lit.int .u64 c).wf = true) (hd : (Lit.int .u64 d).wf = true) : ∃ k, riverbanklaw01_BitsLaws.f k a b c d = some true := by
  replace ha := u64_wf ha
  replace hb := u64_wf hb
  replace hc := u64_wf hc
  replace hd := u64_wf hd
  have h0 : U 0 := ⟨by decide, by decide⟩
  refine ⟨100, ?_⟩
  obtain ⟨o, ho, t_o⟩ := Or_f ha hb hc hd
  obtain ⟨no, hno, tno⟩ := Not_f t_o.can.lo t_o.can.hi
  obtain ⟨na, hna, tna⟩ := Not_f ha hb
  obtain ⟨nc, hnc, tnc⟩ := Not_f hc hd
  obtain ⟨x, hx, tx⟩ := And_f tna.can.lo tna.can.hi tnc.can.lo tnc.can.hi
  have e1 : no = x := tno.eq tx (fun j hj => by rw [t_o.mem j hj, tna.mem j hj, tnc.mem j hj, Bool.not_or])
  obtain ⟨o2, ho2, to2⟩ := Or_f hc hd ha hb
  have e2 : o = o2 := t_o.eq to2 (fun j hj => Bool.or_comm _ _)
  obtain ⟨m, hm, tm⟩ := Minus_f ha hb hc hd
  obtain ⟨n, hn, tn⟩ := And_f ha hb hc hd
  obtain ⟨y, hy, ty⟩ := Or_f tm.can.lo tm.can.hi tn.can.lo tn.can.hi
  obtain ⟨z, hz, tz⟩ := Or_f ha hb h0 h0
  have e3 : y = z := ty.eq tz (fun j hj => by
    rw [tm.mem j hj, tn.mem j hj, zero_mem]
    cases mem a b j <;> cases mem c d j <;> rfl)
  obtain ⟨v, hv, tv⟩ := And_f ha hb tna.can.lo tna.can.hi
  have tzero : Tells ((0 : Int), (0 : Int)) (fun _ => false) := ⟨zero_can, fun n _ => zero_mem n⟩
  have e4 : v = ((0 : Int), (0 : Int)) := tv.eq tzero (fun j hj => by
    rw [tna.mem j hj]
    cases mem a b j <;> rfl)
  have C1 := Count_f ha hb
  have C2 := Count_f tna.can.lo tna.can.hi
  have C3 := Count_f t_o.can.lo t_o.can.hi
  have C4 := Count_f tn.can.lo tn.can.hi
  have C5 := Count_f hc hd
  have n1 := setL_length a b
  have n2 := tells_cnt tna
  have n3 := tells_cnt t_o
  have n4 := tells_cnt tn
  have n5 := setL_length c d
  have s1 := cnt_not (mem a b) 90
  have s2 := cnt_or_and (mem a b) (mem c d) 90
  have b1 := cnt_le (mem a b) 90
  have b2 := cnt_le (mem c d) 90
  rw [← n1, ← n2] at s1
  rw [← n3, ← n4, ← n1, ← n5] at s2
  rw [← n1] at b1
  rw [← n5] at b2
  have hs1 : wrap64 (((setL a b).length : Int) + ((setL na.1 na.2).length : Int)) = 90 := by unfold wrap64; omega
  have hs2 : wrap64 (((setL o.1 o.2).length : Int) + ((setL n.1 n.2).length : Int)) = wrap64 (((setL a b).length : Int) + ((setL c d).length : Int)) := by
    congr 1; omega
  clear n1 n2 n3 n4 n5 s1 s2 b1 b2
  subst e1
  subst e2
  subst e3
  subst e4
  have same : ∀ r : Int × Int, (r.1 == r.1 && (r.2 == r.2)) = true := fun r => by simp
  unfold riverbanklaw01_BitsLaws.f
  refine Option.bind_eq_some_iff.mpr ⟨_, ho, ?_⟩
  refine Option.bind_eq_some_iff.mpr ⟨_, hno, ?_⟩
  refine Option.bind_eq_some_iff.mpr ⟨_, hna, ?_⟩
  refine Option.bind_eq_some_iff.mpr ⟨_, hnc, ?_⟩
  refine Option.bind_eq_some_iff.mpr ⟨_, hx, ?_⟩
  refine (if_pos (same _)).trans ?_
  refine Option.bind_eq_some_iff.mpr ⟨_, ho, ?_⟩
  refine Option.bind_eq_some_iff.mpr ⟨_, ho2, ?_⟩
  refine (if_pos (same _)).trans ?_
  refine Option.bind_eq_some_iff.mpr ⟨_, hm, ?_⟩
  refine Option.bind_eq_some_iff.mpr ⟨_, hn, ?_⟩
  refine Option.bind_eq_some_iff.mpr ⟨_, hy, ?_⟩
  refine Option.bind_eq_some_iff.mpr ⟨_, hz, ?_⟩
  refine (if_pos (same _)).trans ?_
  refine Option.bind_eq_some_iff.mpr ⟨_, C1, ?_⟩
  refine Option.bind_eq_some_iff.mpr ⟨_, hna, ?_⟩
  refine Option.bind_eq_some_iff.mpr ⟨_, C2, ?_⟩
  refine (if_pos hs1).trans ?_
  refine Option.bind_eq_some_iff.mpr ⟨_, ho, ?_⟩
  refine Option.bind_eq_some_iff.mpr ⟨_, C3, ?_⟩
  refine Option.bind_eq_some_iff.mpr ⟨_, hn, ?_⟩
  refine Option.bind_eq_some_iff.mpr ⟨_, C4, ?_⟩
  refine Option.bind_eq_some_iff.mpr ⟨_, C1, ?_⟩
  refine Option.bind_eq_some_iff.mpr ⟨_, C5, ?_⟩
  refine (if_pos hs2).trans ?_
  refine Option.bind_eq_some_iff.mpr ⟨_, hna, ?_⟩
  refine Option.bind_eq_some_iff.mpr ⟨_, hv, ?_⟩
  refine (if_pos (by decide)).trans ?_
  exact Option.bind_eq_some_iff.mpr ⟨true, live1 _ (by decide), rfl⟩
end Go.Proofs.YtkbimiimgcklaaaDoor.Pure
