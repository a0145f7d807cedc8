/-
  The contracts of the record's functions, by whole records.
-/
import Derived.Test.YtlicobfjeajcfaaDoorQ04x8
import Derived.Test.YtlicobfjeajcfaaDoorPureRec
namespace Go.Proofs.YtlicobfjeajcfaaDoor
open Go.RowKit Go.Proofs.YtlicobfjeajcfaaDoor.Q04 Go.Proofs.YtlicobfjeajcfaaDoorW.PrintWords
set_option linter.unusedVariables false
set_option linter.unusedSimpArgs false

theorem page_eq (k : Int) : quadrigaref04_page.f k = some (chB k) := by
  unfold quadrigaref04_page.f chB
  by_cases h : k = 2
  · rw [if_pos h]; simp [h]
  · rw [if_neg h]; simp [h]
theorem rkey_eq (s : ByteArray) : quadrigaref04_Key.f s = some (keyB s) := by
  unfold quadrigaref04_Key.f keyB
  by_cases h : (s.size : Int) ≥ 1
  · rw [if_pos h]; congr 1; rw [Bool.eq_iff_iff]; simp only [Bool.and_eq_true, decide_eq_true_eq, Bool.false_eq_true, beq_iff_eq, false_iff]; omega
  · rw [if_neg h]; congr 1; rw [Bool.eq_iff_iff]; simp only [Bool.and_eq_true, decide_eq_true_eq, Bool.false_eq_true, beq_iff_eq, false_iff]; omega
theorem rval_eq (v : S23) : quadrigaref04_Value.f v.f0 v.f1 = some (valB v) := by
  unfold quadrigaref04_Value.f valB
  by_cases h : (v.f1.size : Int) ≤ 16
  · rw [if_pos h]
    have h' : v.f1.size ≤ 16 := by omega
    cases v.f0 with
    | true => simp [h']
    | false =>
      have : (v.f1.toList == []) = decide (v.f1.size = 0) := by
        rw [Bool.eq_iff_iff, beq_iff_eq, decide_eq_true_eq, toList_nil]
      simp [this, h']
  · rw [if_neg h]
    have h' : ¬ v.f1.size ≤ 16 := by omega
    simp [h']

theorem rright_no2 (x : S25) (k : Nat) : quadrigaref04_Right.j2 (k + 1) true x.f0 x.f1 x.f2 x.f3 x.f4 x.f5 x.f6.f0 x.f6.f1 x.f7.f0 x.f7.f1 x.f8 = some false := rfl
theorem rright_j2 (x : S25) (k : Nat) : quadrigaref04_Right.j2 (k + 1) false x.f0 x.f1 x.f2 x.f3 x.f4 x.f5 x.f6.f0 x.f6.f1 x.f7.f0 x.f7.f1 x.f8 = some (undoB x) := by
  simp only [quadrigaref04_Right.j2, undoB, withinB]
  rw [if_neg (by decide)]
  by_cases h3 : x.f0 = 3
  · rw [if_pos h3, if_pos h3]
    split <;> (congr 1; rw [Bool.eq_iff_iff]; simp only [Bool.and_eq_true, decide_eq_true_eq, Bool.false_eq_true, beq_iff_eq, false_iff]; omega)
  · rw [if_neg h3, if_neg h3]
    by_cases h4 : x.f0 = 4
    · rw [if_pos h4, if_pos h4]
      split <;> (congr 1; rw [Bool.eq_iff_iff]; simp only [Bool.and_eq_true, decide_eq_true_eq, Bool.false_eq_true, beq_iff_eq, false_iff]; omega)
    · rw [if_neg h4, if_neg h4]
theorem rright_j1 (x : S25) (k : Nat) (hb : chB x.f0 = true → bodyB x = true) : quadrigaref04_Right.j1 (k + 2) false x.f0 x.f1 x.f2 x.f3 x.f4 x.f5 x.f6.f0 x.f6.f1 x.f7.f0 x.f7.f1 x.f8 = some (bodyB x && undoB x) := by
  simp only [quadrigaref04_Right.j1]
  rw [if_neg (by decide), page_eq, Option.bind_some]
  cases hc : chB x.f0 with
  | true => rw [if_pos rfl, rright_j2, hb hc]; rfl
  | false =>
    rw [if_neg (by decide)]
    unfold bodyB
    simp only [hc, Bool.false_eq_true, if_false]
    by_cases h4 : x.f4 = 0
    · rw [if_pos h4]
      by_cases h5 : x.f5.toList = []
      · rw [if_pos h5]
        by_cases h6 : (!x.f6.f0 && (x.f6.f1.toList == [])) = true
        · have h6' : (x.f6.f0 || !(x.f6.f1.toList == [])) = false := by
            revert h6; cases x.f6.f0 <;> cases (x.f6.f1.toList == []) <;> simp
          rw [if_neg (by rw [h6']; decide)]
          cases h7 : (!x.f7.f0 && (x.f7.f1.toList == [])) with
          | true =>
            have h7' : (x.f7.f0 || !(x.f7.f1.toList == [])) = false := by
              revert h7; cases x.f7.f0 <;> cases (x.f7.f1.toList == []) <;> simp
            rw [h7', rright_j2, h6]
            simp [h4, h5]
          | false =>
            have h7' : (x.f7.f0 || !(x.f7.f1.toList == [])) = true := by
              revert h7; cases x.f7.f0 <;> cases (x.f7.f1.toList == []) <;> simp
            rw [h7', rright_no2]
            simp
        · have h6' : (x.f6.f0 || !(x.f6.f1.toList == [])) = true := by
            revert h6; cases x.f6.f0 <;> cases (x.f6.f1.toList == []) <;> simp
          rw [if_pos h6', rright_no2]
          simp only [h6]
          simp
      · rw [if_neg h5, rright_no2]; simp [h5]
    · rw [if_neg h4, rright_no2]; simp [h4]
theorem rright_no1 (x : S25) (k : Nat) : quadrigaref04_Right.j1 (k + 1) true x.f0 x.f1 x.f2 x.f3 x.f4 x.f5 x.f6.f0 x.f6.f1 x.f7.f0 x.f7.f1 x.f8 = some false := rfl
theorem rright_j0 (x : S25) (k : Nat) : quadrigaref04_Right.j0 (k + 3) false x.f0 x.f1 x.f2 x.f3 x.f4 x.f5 x.f6.f0 x.f6.f1 x.f7.f0 x.f7.f1 x.f8 = some (bodyB x && undoB x) := by
  simp only [quadrigaref04_Right.j0]
  rw [if_neg (by decide), page_eq, Option.bind_some]
  cases hc : chB x.f0 with
  | false => rw [if_neg (by decide), rright_j1 x k (fun h => by rw [hc] at h; cases h)]
  | true =>
    rw [if_pos rfl]
    have hbb : bodyB x = (withinB x.f4 0 63 && (keyB x.f5 && ((valB x.f6 && valB x.f7) && (!(x.f6.f0 == x.f7.f0) || !(x.f6.f1.toList == x.f7.f1.toList))))) := by unfold bodyB; rw [if_pos hc]
    by_cases h1 : x.f4 < 0
    · rw [if_pos h1, rright_no1, hbb]
      have : withinB x.f4 0 63 = false := by unfold withinB; simp; omega
      rw [this]; rfl
    · rw [if_neg h1]
      by_cases h2 : x.f4 > 63
      · rw [if_pos h2, rright_no1, hbb]
        have : withinB x.f4 0 63 = false := by unfold withinB; simp; omega
        rw [this]; rfl
      · rw [if_neg h2, rkey_eq, Option.bind_some, hbb]
        have hw : withinB x.f4 0 63 = true := by unfold withinB; simp; omega
        cases hk : keyB x.f5 with
        | false => rw [if_neg (by decide), rright_no1]; simp
        | true =>
          rw [if_pos rfl, rval_eq, Option.bind_some]
          cases h6 : valB x.f6 with
          | false => rw [if_neg (by decide), rright_no1]; simp
          | true =>
            rw [if_pos rfl, rval_eq, Option.bind_some]
            cases h7 : valB x.f7 with
            | false => rw [if_neg (by decide), rright_no1]; simp
            | true =>
              rw [if_pos rfl]
              cases he : (x.f6.f0 == x.f7.f0 && (x.f6.f1.toList == x.f7.f1.toList)) with
              | true =>
                have he' : (!(x.f6.f0 == x.f7.f0) || !(x.f6.f1.toList == x.f7.f1.toList)) = false := by
                  revert he; cases (x.f6.f0 == x.f7.f0) <;> cases (x.f6.f1.toList == x.f7.f1.toList) <;> simp
                rw [rright_no1, he', hw]; rfl
              | false =>
                have he' : (!(x.f6.f0 == x.f7.f0) || !(x.f6.f1.toList == x.f7.f1.toList)) = true := by
                  revert he; cases (x.f6.f0 == x.f7.f0) <;> cases (x.f6.f1.toList == x.f7.f1.toList) <;> simp
                have hbt : bodyB x = true := by rw [hbb, hw, hk, h6, h7, he']; rfl
                rw [rright_j1 x k (fun _ => hbt), hbt, hw, he']
                rfl
theorem rright_no0 (x : S25) (k : Nat) : quadrigaref04_Right.j0 (k + 1) true x.f0 x.f1 x.f2 x.f3 x.f4 x.f5 x.f6.f0 x.f6.f1 x.f7.f0 x.f7.f1 x.f8 = some false := rfl
theorem rright_eq (x : S25) (k : Nat) (hx : -9223372036854775808 ≤ x.f1 ∧ x.f1 ≤ 9223372036854775807) : quadrigaref04_Right.f (k + 3) x.f0 x.f1 x.f2 x.f3 x.f4 x.f5 x.f6.f0 x.f6.f1 x.f7.f0 x.f7.f1 x.f8 = some (rightB x) := by
  unfold quadrigaref04_Right.f rightB withinB
  by_cases h1 : x.f0 < 1
  · rw [if_pos h1, rright_no0]; simp; omega
  · rw [if_neg h1]
    by_cases h2 : x.f0 > 6
    · rw [if_pos h2, rright_no0]; simp; omega
    · rw [if_neg h2]
      by_cases h3 : x.f2 < 1
      · rw [if_pos h3, rright_no0]; simp; omega
      · rw [if_neg h3]
        by_cases h4 : x.f2 > 2147483647
        · rw [if_pos h4, rright_no0]; simp; omega
        · rw [if_neg h4]
          by_cases h5 : x.f1 < 1
          · rw [if_pos h5, rright_no0]; simp; omega
          · rw [if_neg h5]
            by_cases h6 : x.f1 > 4611686018427387903
            · rw [if_pos h6, rright_no0]; simp; omega
            · rw [if_neg h6, wrap_id _ (by omega) (by omega)]
              by_cases h7 : x.f3 < 0
              · rw [if_pos h7, rright_no0]; simp; omega
              · rw [if_neg h7]
                by_cases h8 : x.f3 ≥ x.f1
                · rw [if_pos h8, rright_no0]; simp; omega
                · rw [if_neg h8]
                  cases hp : ((x.f3 == 0) == (x.f0 == 1)) with
                  | true =>
                    have : ((x.f3 == 0) != (x.f0 == 1)) = false := by simpa using hp
                    have e1 : (decide (1 ≤ x.f0) && decide (x.f0 ≤ 6)) = true := by simp; omega
                    have e2 : (decide (1 ≤ x.f2) && decide (x.f2 ≤ 2147483647)) = true := by simp; omega
                    have e3 : (decide (1 ≤ x.f1) && decide (x.f1 ≤ 4611686018427387903)) = true := by simp; omega
                    have e4 : (decide (0 ≤ x.f3) && decide (x.f3 ≤ x.f1 - 1)) = true := by simp; omega
                    rw [this, rright_j0, e1, e2, e3, e4]
                    rfl
                  | false =>
                    have : ((x.f3 == 0) != (x.f0 == 1)) = true := by simpa using hp
                    rw [this, rright_no0]
                    simp
end Go.Proofs.YtlicobfjeajcfaaDoor
