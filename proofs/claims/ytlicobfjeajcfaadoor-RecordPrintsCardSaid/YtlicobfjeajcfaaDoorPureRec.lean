/-
  record: what its functions give, in plain words: Encode's bytes, Back's record; the law's example.
-/
import Derived.Test.YtlicobfjeajcfaaDoorQ04ea
import Derived.Test.YtlicobfjeajcfaaDoorQ04aw
import Derived.Test.YtlicobfjeajcfaaDoorQ04x2
import Derived.Test.YtlicobfjeajcfaaDoorQ04x9
import Derived.Test.YtlicobfjeajcfaaDoorRcRight
namespace Go.Proofs.YtlicobfjeajcfaaDoor
open Go.RowKit Go.Proofs.YtlicobfjeajcfaaDoor.Q04 Go.Proofs.YtlicobfjeajcfaaDoorW.PrintWords
set_option linter.unusedVariables false
set_option linter.unusedSimpArgs false

structure RightP (x : S25) : Prop where
  k1 : 1 ≤ x.f0
  k2 : x.f0 ≤ 6
  t1 : 1 ≤ x.f2
  t2 : x.f2 ≤ 2147483647
  g1 : 1 ≤ x.f1
  g2 : x.f1 ≤ 4611686018427387903
  p1 : 0 ≤ x.f3
  p2 : x.f3 < x.f1
  p3 : x.f3 = 0 ↔ x.f0 = 1
  b1 : chB x.f0 = true → 0 ≤ x.f4 ∧ x.f4 ≤ 63 ∧ keyB x.f5 = true ∧ valB x.f6 = true ∧ valB x.f7 = true ∧ (x.f6.f0 = x.f7.f0 → x.f6.f1 ≠ x.f7.f1)
  b2 : chB x.f0 = false → x.f4 = 0 ∧ x.f5 = ⟨#[]⟩ ∧ x.f6 = ⟨false, ⟨#[]⟩⟩ ∧ x.f7 = ⟨false, ⟨#[]⟩⟩
  u3 : x.f0 = 3 → 1 ≤ x.f8 ∧ x.f8 ≤ x.f3
  u4 : x.f0 = 4 → 0 ≤ x.f8 ∧ x.f8 ≤ 255
  u0 : x.f0 ≠ 3 → x.f0 ≠ 4 → x.f8 = 0

theorem toList_inj {a b : ByteArray} : a.toList = b.toList ↔ a = b := by
  rw [ByteArray.toList_eq, ByteArray.toList_eq]
  constructor
  · intro h
    cases a; cases b
    simp at h
    simp [h]
  · intro h; rw [h]

theorem empty_toList (a : ByteArray) : a.toList = [] ↔ a = ⟨#[]⟩ := by
  rw [← toList_inj (b := ⟨#[]⟩), ByteArray.toList_eq ⟨#[]⟩]

theorem body_iff1 (x : S25) (h : chB x.f0 = true) : bodyB x = true ↔ 0 ≤ x.f4 ∧ x.f4 ≤ 63 ∧ keyB x.f5 = true ∧ valB x.f6 = true ∧ valB x.f7 = true ∧ (x.f6.f0 = x.f7.f0 → x.f6.f1 ≠ x.f7.f1) := by
  unfold bodyB
  rw [if_pos h]
  simp only [withinB, Bool.and_eq_true, decide_eq_true_eq, Bool.or_eq_true, Bool.not_eq_true', beq_eq_false_iff_ne, ne_eq, toList_inj, and_assoc]
  constructor
  · rintro ⟨a, b, c, d, e, f⟩
    refine ⟨a, b, c, d, e, fun h1 h2 => ?_⟩
    rcases f with f | f
    · exact f h1
    · exact f h2
  · rintro ⟨a, b, c, d, e, f⟩
    refine ⟨a, b, c, d, e, ?_⟩
    by_cases h1 : x.f6.f0 = x.f7.f0
    · exact .inr (f h1)
    · exact .inl h1
theorem val_zero (v : S23) : (!v.f0 && (v.f1.toList == [])) = true ↔ v = ⟨false, ⟨#[]⟩⟩ := by
  obtain ⟨a, b⟩ := v
  simp only [Bool.and_eq_true, Bool.not_eq_true', beq_iff_eq, empty_toList, S23.mk.injEq]
theorem body_iff2 (x : S25) (h : chB x.f0 = false) : bodyB x = true ↔ x.f4 = 0 ∧ x.f5 = ⟨#[]⟩ ∧ x.f6 = ⟨false, ⟨#[]⟩⟩ ∧ x.f7 = ⟨false, ⟨#[]⟩⟩ := by
  unfold bodyB
  rw [if_neg (by rw [h]; decide)]
  rw [Bool.and_eq_true, Bool.and_eq_true, Bool.and_eq_true, val_zero, val_zero, decide_eq_true_eq, decide_eq_true_eq, empty_toList]

theorem right_iff (x : S25) : rightB x = true ↔ RightP x := by
  have hu : undoB x = true ↔ (x.f0 = 3 → 1 ≤ x.f8 ∧ x.f8 ≤ x.f3) ∧ (x.f0 = 4 → 0 ≤ x.f8 ∧ x.f8 ≤ 255) ∧ (x.f0 ≠ 3 → x.f0 ≠ 4 → x.f8 = 0) := by
    unfold undoB withinB
    split
    · simp; omega
    · split
      · simp; omega
      · simp; omega
  have hp : ((x.f3 == 0) == (x.f0 == 1)) = true ↔ (x.f3 = 0 ↔ x.f0 = 1) := by
    rw [beq_iff_eq, Bool.eq_iff_iff, beq_iff_eq, beq_iff_eq]
  unfold rightB
  rw [Bool.and_eq_true, Bool.and_eq_true, Bool.and_eq_true, Bool.and_eq_true, Bool.and_eq_true, Bool.and_eq_true, hu, hp]
  unfold withinB
  simp only [Bool.and_eq_true, decide_eq_true_eq]
  constructor
  · rintro ⟨⟨k1, k2⟩, ⟨t1, t2⟩, ⟨g1, g2⟩, ⟨p1, p2⟩, p3, b, u3, u4, u0⟩
    rw [wrap_id _ (by omega) (by omega)] at p2
    exact ⟨k1, k2, t1, t2, g1, g2, p1, by omega, p3, fun h => (body_iff1 x h).1 b, fun h => (body_iff2 x h).1 b, u3, u4, u0⟩
  · intro h
    have hg1 := h.g1
    have hg2 := h.g2
    have hp2 := h.p2
    rw [wrap_id _ (by omega) (by omega)]
    refine ⟨⟨h.k1, h.k2⟩, ⟨h.t1, h.t2⟩, ⟨h.g1, h.g2⟩, ⟨h.p1, by omega⟩, h.p3, ?_, h.u3, h.u4, h.u0⟩
    cases hc : chB x.f0 with
    | true => exact (body_iff1 x hc).2 (h.b1 hc)
    | false => exact (body_iff2 x hc).2 (h.b2 hc)

theorem chB_iff (k : Int) : chB k = true ↔ k = 2 ∨ k = 3 := by simp [chB]

/-- What takes a record back. -/
def backR (x : S25) (gsn prev : Int) : S25 := ⟨3, gsn, x.f2, prev, x.f4, x.f5, x.f7, x.f6, x.f1⟩
def tupR (x : S25) : Int × Int × Int × Int × Int × ByteArray × Bool × ByteArray × Bool × ByteArray × Int := (x.f0, x.f1, x.f2, x.f3, x.f4, x.f5, x.f6.f0, x.f6.f1, x.f7.f0, x.f7.f1, x.f8)
def backE (x : S25) (gsn prev : Int) : S25 := if rightB x && (x.f0 == 2) && rightB (backR x gsn prev) then backR x gsn prev else ⟨0, 0, 0, 0, 0, ⟨#[]⟩, ⟨false, ⟨#[]⟩⟩, ⟨false, ⟨#[]⟩⟩, 0⟩
theorem back_eq (x : S25) (gsn prev : Int) (k : Nat) : record_Back.f (k + 1) x.f0 x.f1 x.f2 x.f3 x.f4 x.f5 x.f6.f0 x.f6.f1 x.f7.f0 x.f7.f1 x.f8 gsn prev = some (tupR (backE x gsn prev)) := by
  unfold record_Back.f backE
  rw [right_eq, Option.bind_some]
  have hb := right_eq (backR x gsn prev)
  cases hr : rightB x with
  | false => rfl
  | true =>
    rw [if_pos rfl]
    simp only [record_Back.j0]
    by_cases h2 : x.f0 = 2
    · rw [if_neg (by simp [h2])]
      show (record_right.f (backR x gsn prev).f0 (backR x gsn prev).f1 (backR x gsn prev).f2 (backR x gsn prev).f3 (backR x gsn prev).f4 (backR x gsn prev).f5 (backR x gsn prev).f6.f0 (backR x gsn prev).f6.f1 (backR x gsn prev).f7.f0 (backR x gsn prev).f7.f1 (backR x gsn prev).f8).bind _ = _
      rw [hb, Option.bind_some]
      cases hw : rightB (backR x gsn prev) with
      | true => simp [h2]; rfl
      | false => simp; rfl
    · rw [if_pos (by simp [h2])]
      simp [h2]
      rfl

/-- The law's example. -/
theorem awake_eq : quadrigalaw04_awake.f 10 = some true := by
  kernel_rfl
theorem great_eq (x : S25) : quadrigalaw04_great.f x.f0 x.f1 x.f2 x.f3 x.f4 x.f5 x.f6.f0 x.f6.f1 x.f7.f0 x.f7.f1 x.f8 = some (decide (x.f5.size > 100 ∨ x.f6.f1.size > 100 ∨ x.f7.f1.size > 100)) := by
  unfold quadrigalaw04_great.f
  by_cases h1 : (x.f5.size : Int) > 100
  · rw [if_pos h1]; simp; omega
  · rw [if_neg h1]
    by_cases h2 : (x.f6.f1.size : Int) > 100
    · rw [if_pos h2]; simp; omega
    · rw [if_neg h2]; simp only [Option.some.injEq, decide_eq_decide]; omega

theorem awake13 : quadrigalaw04_awake.f 13 = some true := by kernel_rfl

theorem wk {b : Bool} {t : Option Bool} (h : t = some true) : (t.bind fun x => some x) = some true := by rw [h]; rfl

end Go.Proofs.YtlicobfjeajcfaaDoor
