/-
  RecordBack: the plain law, and the walk in whole records.
-/
import Derived.Test.YtlicobfjeajcfaaDoorQ04bk
import Derived.Test.YtlicobfjeajcfaaDoorWalkRec
import Derived.Test.YtlicobfjeajcfaaDoorOpnQ04
namespace Go.Proofs.YtlicobfjeajcfaaDoor
open Go.RowKit Go.Proofs.YtlicobfjeajcfaaDoor.Q04 Go.Proofs.YtlicobfjeajcfaaDoorW.PrintWords
set_option linter.unusedVariables false
set_option linter.unusedSimpArgs false

theorem back_zero (x : S25) (gsn prev : Int) (h : ¬ (rightB x && (x.f0 == 2) && rightB (backR x gsn prev)) = true) : backE x gsn prev = ⟨0, 0, 0, 0, 0, ⟨#[]⟩, ⟨false, ⟨#[]⟩⟩, ⟨false, ⟨#[]⟩⟩, 0⟩ := by
  unfold backE
  rw [if_neg h]
theorem empty_list : (⟨#[]⟩ : ByteArray).toList = [] := (empty_toList _).2 rfl

theorem back_law (x : S25) (gsn prev : Int) (hx : -9223372036854775808 ≤ x.f1 ∧ x.f1 ≤ 9223372036854775807) (hg : -9223372036854775808 ≤ gsn ∧ gsn ≤ 9223372036854775807) : quadrigalaw04_RecordBack.f 13 x.f0 x.f1 x.f2 x.f3 x.f4 x.f5 x.f6.f0 x.f6.f1 x.f7.f0 x.f7.f1 x.f8 gsn prev = some true := by
  unfold quadrigalaw04_RecordBack.f
  rw [great_eq, Option.bind_some, awake13]
  split
  · rfl
  · rw [back_eq, Option.bind_some, rright_eq x 10 hx, Option.bind_some]
    have hz := rright_eq (backR x gsn prev) 10 hg
    have hzero := back_zero x gsn prev
    cases h1 : rightB x with
    | false =>
      rw [if_neg (by decide), hzero (by rw [h1]; simp)]
      simp [tupR, empty_list]
    | true =>
      rw [if_pos rfl]
      by_cases h2 : x.f0 = 2
      · rw [if_pos h2]
        have hz' : quadrigaref04_Right.f 13 3 gsn x.f2 prev x.f4 x.f5 x.f7.f0 x.f7.f1 x.f6.f0 x.f6.f1 x.f1 = some (rightB (backR x gsn prev)) := hz
        rw [hz', Option.bind_some]
        cases h3 : rightB (backR x gsn prev) with
        | false =>
          rw [if_neg (by decide), hzero (by rw [h3]; simp)]
          simp [tupR, empty_list]
        | true =>
          have hb : backE x gsn prev = backR x gsn prev := by unfold backE; rw [h1, h2, h3]; rfl
          rw [if_pos rfl, hb]
          simp [tupR, backR]
      · rw [if_neg h2, hzero (by simp [h2])]
        simp [tupR, empty_list]

theorem back_walk (x : S25) (gsn prev : Int) (w : World) (hx : ok25 x) (h1 : (Lit.int .i64 gsn).wf = true) (h2 : (Lit.int .i64 prev).wf = true) :
    Calls Tryd.prog 5 #[.agg #[.int .i64 x.f0, .int .i64 x.f1, .int .i64 x.f2, .int .i64 x.f3, .int .i64 x.f4, .string x.f5, .bool x.f6.f0, .string x.f6.f1, .bool x.f7.f0, .string x.f7.f1, .int .i64 x.f8], .int .i64 gsn, .int .i64 prev] w fun e w' => e = .returned (.bool true) ∧ Below w.heap.size w w' := by
  have hb : ∀ n : Int, (Lit.int .i64 n).wf = true → -9223372036854775808 ≤ n ∧ n ≤ 9223372036854775807 := by
    intro n hn
    have e1 : IntKind.i64.min = -9223372036854775808 := rfl
    have e2 : IntKind.i64.max = 9223372036854775807 := rfl
    simpa [Lit.wf, e1, e2] using hn
  exact quadrigalaw04_RecordBack.calls_true 13 _ _ _ _ _ _ _ _ _ _ _ _ _ true ⟨rfl⟩ w (back_law x gsn prev (hb _ hx.2.1) (hb _ h1))
end Go.Proofs.YtlicobfjeajcfaaDoor
