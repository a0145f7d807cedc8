/-
  SingleNumbers: the plain law: what the law's own number gives is what single.Number gives.
-/
import Derived.Test.YtlicobfjeajcfaaQ29x10
import Derived.Test.YtlicobfjeajcfaaSgNum
namespace Go.Proofs.Ytlicobfjeajcfaa
open Go.RowKit Go.Proofs.Ytlicobfjeajcfaa.Q29 Go.Proofs.YtlicobfjeajcfaaW.PrintWords
set_option linter.unusedVariables false
set_option linter.unusedSimpArgs false

theorem wrap_id (x : Int) (h1 : -9223372036854775808 ≤ x) (h2 : x ≤ 9223372036854775807) : wrap64 x = x := by
  unfold wrap64
  omega
theorem le_mono {α : Type} {F : Nat → Option α} {v : α} (hm : ∀ k, LeO (F k) (F (k + 1))) {k : Nat} (h : F k = some v) {K : Nat} (hk : k ≤ K) : F K = some v := by
  induction hk with
  | refl => exact h
  | step _ ih => exact hm _ _ ih
theorem page_eq (k : Int) : quadrigaref04_page.f k = some (chB k) := by
  unfold quadrigaref04_page.f chB
  by_cases h : k = 2
  · rw [if_pos h]; simp [h]
  · rw [if_neg h]; simp [h]
theorem rkey_eq (s : ByteArray) : quadrigaref04_Key.f s = some (keyB s) := by
  unfold quadrigaref04_Key.f keyB
  by_cases h : (s.size : Int) ≥ 1
  · rw [if_pos h]; congr 1; rw [Bool.eq_iff_iff]; simp only [Bool.and_eq_true, decide_eq_true_eq, Bool.false_eq_true, beq_iff_eq, false_iff]; omega
  · rw [if_neg h]; congr 1; rw [Bool.eq_iff_iff]; simp only [Bool.and_eq_true, decide_eq_true_eq, Bool.false_eq_true, beq_iff_eq, false_iff]; omega
theorem rval_eq (v : S77) : quadrigaref04_Value.f v.f0 v.f1 = some (valB v) := by
  unfold quadrigaref04_Value.f valB
  by_cases h : (v.f1.size : Int) ≤ 16
  · rw [if_pos h]
    have h' : v.f1.size ≤ 16 := by omega
    cases v.f0 with
    | true => simp [h']
    | false =>
      have : (v.f1.toList == []) = decide (v.f1.size = 0) := by
        rw [Bool.eq_iff_iff, beq_iff_eq, decide_eq_true_eq, toList_nil]
      simp [this, h']
  · rw [if_neg h]
    have h' : ¬ v.f1.size ≤ 16 := by omega
    simp [h']

theorem rright_no2 (x : S79) (k : Nat) : quadrigaref04_Right.j2 (k + 1) true x.f0 x.f1 x.f2 x.f3 x.f4 x.f5 x.f6.f0 x.f6.f1 x.f7.f0 x.f7.f1 x.f8 = some false := rfl
theorem rright_j2 (x : S79) (k : Nat) : quadrigaref04_Right.j2 (k + 1) false x.f0 x.f1 x.f2 x.f3 x.f4 x.f5 x.f6.f0 x.f6.f1 x.f7.f0 x.f7.f1 x.f8 = some (undoB x) := by
  simp only [quadrigaref04_Right.j2, undoB, withinB]
  rw [if_neg (by decide)]
  by_cases h3 : x.f0 = 3
  · rw [if_pos h3, if_pos h3]
    split <;> (congr 1; rw [Bool.eq_iff_iff]; simp only [Bool.and_eq_true, decide_eq_true_eq, Bool.false_eq_true, beq_iff_eq, false_iff]; omega)
  · rw [if_neg h3, if_neg h3]
    by_cases h4 : x.f0 = 4
    · rw [if_pos h4, if_pos h4]
      split <;> (congr 1; rw [Bool.eq_iff_iff]; simp only [Bool.and_eq_true, decide_eq_true_eq, Bool.false_eq_true, beq_iff_eq, false_iff]; omega)
    · rw [if_neg h4, if_neg h4]
theorem rright_j1 (x : S79) (k : Nat) (hb : chB x.f0 = true → bodyB x = true) : quadrigaref04_Right.j1 (k + 2) false x.f0 x.f1 x.f2 x.f3 x.f4 x.f5 x.f6.f0 x.f6.f1 x.f7.f0 x.f7.f1 x.f8 = some (bodyB x && undoB x) := by
  simp only [quadrigaref04_Right.j1]
  rw [if_neg (by decide), page_eq, Option.bind_some]
  cases hc : chB x.f0 with
  | true => rw [if_pos rfl, rright_j2, hb hc]; rfl
  | false =>
    rw [if_neg (by decide)]
    unfold bodyB
    simp only [hc, Bool.false_eq_true, if_false]
    by_cases h4 : x.f4 = 0
    · rw [if_pos h4]
      by_cases h5 : x.f5.toList = []
      · rw [if_pos h5]
        by_cases h6 : (!x.f6.f0 && (x.f6.f1.toList == [])) = true
        · have h6' : (x.f6.f0 || !(x.f6.f1.toList == [])) = false := by
            revert h6; cases x.f6.f0 <;> cases (x.f6.f1.toList == []) <;> simp
          rw [if_neg (by rw [h6']; decide)]
          cases h7 : (!x.f7.f0 && (x.f7.f1.toList == [])) with
          | true =>
            have h7' : (x.f7.f0 || !(x.f7.f1.toList == [])) = false := by
              revert h7; cases x.f7.f0 <;> cases (x.f7.f1.toList == []) <;> simp
            rw [h7', rright_j2, h6]
            simp [h4, h5]
          | false =>
            have h7' : (x.f7.f0 || !(x.f7.f1.toList == [])) = true := by
              revert h7; cases x.f7.f0 <;> cases (x.f7.f1.toList == []) <;> simp
            rw [h7', rright_no2]
            simp
        · have h6' : (x.f6.f0 || !(x.f6.f1.toList == [])) = true := by
            revert h6; cases x.f6.f0 <;> cases (x.f6.f1.toList == []) <;> simp
          rw [if_pos h6', rright_no2]
          simp only [h6]
          simp
      · rw [if_neg h5, rright_no2]; simp [h5]
    · rw [if_neg h4, rright_no2]; simp [h4]
theorem rright_no1 (x : S79) (k : Nat) : quadrigaref04_Right.j1 (k + 1) true x.f0 x.f1 x.f2 x.f3 x.f4 x.f5 x.f6.f0 x.f6.f1 x.f7.f0 x.f7.f1 x.f8 = some false := rfl
theorem rright_j0 (x : S79) (k : Nat) : quadrigaref04_Right.j0 (k + 3) false x.f0 x.f1 x.f2 x.f3 x.f4 x.f5 x.f6.f0 x.f6.f1 x.f7.f0 x.f7.f1 x.f8 = some (bodyB x && undoB x) := by
  simp only [quadrigaref04_Right.j0]
  rw [if_neg (by decide), page_eq, Option.bind_some]
  cases hc : chB x.f0 with
  | false => rw [if_neg (by decide), rright_j1 x k (fun h => by rw [hc] at h; cases h)]
  | true =>
    rw [if_pos rfl]
    have hbb : bodyB x = (withinB x.f4 0 63 && (keyB x.f5 && ((valB x.f6 && valB x.f7) && (!(x.f6.f0 == x.f7.f0) || !(x.f6.f1.toList == x.f7.f1.toList))))) := by unfold bodyB; rw [if_pos hc]
    by_cases h1 : x.f4 < 0
    · rw [if_pos h1, rright_no1, hbb]
      have : withinB x.f4 0 63 = false := by unfold withinB; simp; omega
      rw [this]; rfl
    · rw [if_neg h1]
      by_cases h2 : x.f4 > 63
      · rw [if_pos h2, rright_no1, hbb]
        have : withinB x.f4 0 63 = false := by unfold withinB; simp; omega
        rw [this]; rfl
      · rw [if_neg h2, rkey_eq, Option.bind_some, hbb]
        have hw : withinB x.f4 0 63 = true := by unfold withinB; simp; omega
        cases hk : keyB x.f5 with
        | false => rw [if_neg (by decide), rright_no1]; simp
        | true =>
          rw [if_pos rfl, rval_eq, Option.bind_some]
          cases h6 : valB x.f6 with
          | false => rw [if_neg (by decide), rright_no1]; simp
          | true =>
            rw [if_pos rfl, rval_eq, Option.bind_some]
            cases h7 : valB x.f7 with
            | false => rw [if_neg (by decide), rright_no1]; simp
            | true =>
              rw [if_pos rfl]
              cases he : (x.f6.f0 == x.f7.f0 && (x.f6.f1.toList == x.f7.f1.toList)) with
              | true =>
                have he' : (!(x.f6.f0 == x.f7.f0) || !(x.f6.f1.toList == x.f7.f1.toList)) = false := by
                  revert he; cases (x.f6.f0 == x.f7.f0) <;> cases (x.f6.f1.toList == x.f7.f1.toList) <;> simp
                rw [rright_no1, he', hw]; rfl
              | false =>
                have he' : (!(x.f6.f0 == x.f7.f0) || !(x.f6.f1.toList == x.f7.f1.toList)) = true := by
                  revert he; cases (x.f6.f0 == x.f7.f0) <;> cases (x.f6.f1.toList == x.f7.f1.toList) <;> simp
                have hbt : bodyB x = true := by rw [hbb, hw, hk, h6, h7, he']; rfl
                rw [rright_j1 x k (fun _ => hbt), hbt, hw, he']
                rfl
theorem rright_no0 (x : S79) (k : Nat) : quadrigaref04_Right.j0 (k + 1) true x.f0 x.f1 x.f2 x.f3 x.f4 x.f5 x.f6.f0 x.f6.f1 x.f7.f0 x.f7.f1 x.f8 = some false := rfl
theorem rright_eq (x : S79) (k : Nat) : quadrigaref04_Right.f (k + 3) x.f0 x.f1 x.f2 x.f3 x.f4 x.f5 x.f6.f0 x.f6.f1 x.f7.f0 x.f7.f1 x.f8 = some (rightB x) := by
  unfold quadrigaref04_Right.f rightB withinB
  by_cases h1 : x.f0 < 1
  · rw [if_pos h1, rright_no0]; simp; omega
  · rw [if_neg h1]
    by_cases h2 : x.f0 > 6
    · rw [if_pos h2, rright_no0]; simp; omega
    · rw [if_neg h2]
      by_cases h3 : x.f2 < 1
      · rw [if_pos h3, rright_no0]; simp; omega
      · rw [if_neg h3]
        by_cases h4 : x.f2 > 2147483647
        · rw [if_pos h4, rright_no0]; simp; omega
        · rw [if_neg h4]
          by_cases h5 : x.f1 < 1
          · rw [if_pos h5, rright_no0]; simp; omega
          · rw [if_neg h5]
            by_cases h6 : x.f1 > 4611686018427387903
            · rw [if_pos h6, rright_no0]; simp; omega
            · rw [if_neg h6, wrap_id _ (by omega) (by omega)]
              by_cases h7 : x.f3 < 0
              · rw [if_pos h7, rright_no0]; simp; omega
              · rw [if_neg h7]
                by_cases h8 : x.f3 ≥ x.f1
                · rw [if_pos h8, rright_no0]; simp; omega
                · rw [if_neg h8]
                  cases hp : ((x.f3 == 0) == (x.f0 == 1)) with
                  | true =>
                    have : ((x.f3 == 0) != (x.f0 == 1)) = false := by simpa using hp
                    have e1 : (decide (1 ≤ x.f0) && decide (x.f0 ≤ 6)) = true := by simp; omega
                    have e2 : (decide (1 ≤ x.f2) && decide (x.f2 ≤ 2147483647)) = true := by simp; omega
                    have e3 : (decide (1 ≤ x.f1) && decide (x.f1 ≤ 4611686018427387903)) = true := by simp; omega
                    have e4 : (decide (0 ≤ x.f3) && decide (x.f3 ≤ x.f1 - 1)) = true := by simp; omega
                    rw [this, rright_j0, e1, e2, e3, e4]
                    rfl
                  | false =>
                    have : ((x.f3 == 0) != (x.f0 == 1)) = true := by simpa using hp
                    rw [this, rright_no0]
                    simp

/-! ### what is right -/
abbrev Qr := S81
def cv (x : Qr) : Br := ⟨x.f0, x.f1⟩
def rq (l : List Qr) (i : Nat) : Qr := rd_T81 l (i : Int)
theorem rd_cv (l : List Qr) (i : Nat) (h : i < l.length) : rd_T84 (l.map cv) (i : Int) = cv (rq l i) := by
  unfold rq rd_T84 rd_T81
  simp [List.getD_eq_getElem?_getD, h]
theorem ahead_eq (a b : Qr) : quadrigaref18_Ahead.f a.f0 a.f1.f0 a.f1.f1 a.f1.f2 a.f1.f3 a.f1.f4 a.f1.f5 a.f1.f6.f0 a.f1.f6.f1 a.f1.f7.f0 a.f1.f7.f1 a.f1.f8 b.f0 b.f1.f0 b.f1.f1 b.f1.f2 b.f1.f3 b.f1.f4 b.f1.f5 b.f1.f6.f0 b.f1.f6.f1 b.f1.f7.f0 b.f1.f7.f1 b.f1.f8 = some (decide (ordV (cv a) (cv b) < 0)) := by
  unfold quadrigaref18_Ahead.f ordV cmpV cv
  simp only
  by_cases h1 : a.f1.f1 < b.f1.f1
  · rw [if_pos h1]; simp [h1]
  · rw [if_neg h1]
    by_cases h2 : a.f1.f1 = b.f1.f1
    · rw [if_pos h2]
      simp only [h2, Int.lt_irrefl, gt_iff_lt, if_false, if_true]
      by_cases h3 : a.f0 < b.f0
      · simp [h3]
      · by_cases h4 : b.f0 < a.f0
        · simp [h3, h4]
        · simp [h3, h4]
    · rw [if_neg h2]
      have h3 : b.f1.f1 < a.f1.f1 := by omega
      simp [h1, h3]
theorem right_go (l : List Qr) (hn : l.length ≤ 1000) : ∀ m i, i + m = l.length → ∃ b : Bool, quadrigaref18_Right.l0 (m + 4) l (i : Int) = some b ∧ (b = true ↔ ∀ j, i ≤ j → j < l.length → okB (l.map cv) j = true)
  | 0, i, h => by
    unfold quadrigaref18_Right.l0
    rw [if_neg (by omega)]
    exact ⟨true, rfl, by simp; omega⟩
  | m + 1, i, h => by
    obtain ⟨b, ih, ihb⟩ := right_go l hn m (i + 1) (by omega)
    unfold quadrigaref18_Right.l0
    rw [if_pos (by omega), if_pos (by omega)]
    show ∃ b : Bool, (quadrigaref04_Right.f (m + 1 + 3) (rq l i).f1.f0 (rq l i).f1.f1 (rq l i).f1.f2 (rq l i).f1.f3 (rq l i).f1.f4 (rq l i).f1.f5 (rq l i).f1.f6.f0 (rq l i).f1.f6.f1 (rq l i).f1.f7.f0 (rq l i).f1.f7.f1 (rq l i).f1.f8).bind _ = _ ∧ _
    rw [rright_eq, Option.bind_some]
    have e1 : wrap64 ((i : Int) + 1) = ((i + 1 : Nat) : Int) := by rw [wrap_id _ (by omega) (by omega)]; rfl
    have hok : okB (l.map cv) i = (rightB (rq l i).f1 && (decide (i = 0) || decide (ordV (rd_T84 (l.map cv) ((i : Int) - 1)) (cv (rq l i)) < 0))) := by
      unfold okB
      rw [rd_cv l i (by omega)]
      rfl
    have hno : okB (l.map cv) i = false → ∃ b : Bool, (some false = some b) ∧ (b = true ↔ ∀ j, i ≤ j → j < l.length → okB (l.map cv) j = true) := by
      refine fun H => ⟨false, rfl, ?_⟩
      constructor
      · exact fun z => by cases z
      · intro z
        have := z i (Nat.le_refl _) (by omega)
        rw [H] at this
        exact this
    have hyes : okB (l.map cv) i = true → ∃ b2 : Bool, (some b = some b2) ∧ (b2 = true ↔ ∀ j, i ≤ j → j < l.length → okB (l.map cv) j = true) := by
      refine fun H => ⟨b, rfl, ?_⟩
      rw [ihb]
      constructor
      · intro z j h3 h4
        by_cases hj : j = i
        · rw [hj, H]
        · exact z j (by omega) h4
      · exact fun z j h1 h2 => z j (by omega) h2
    cases hr : rightB (rq l i).f1 with
    | false =>
      rw [if_neg (by decide)]
      exact hno (by rw [hok, hr]; rfl)
    | true =>
      rw [if_pos rfl, e1]
      rw [hr, Bool.true_and] at hok
      by_cases h0 : i = 0
      · rw [if_neg (by omega), ih]
        exact hyes (by rw [hok]; simp [h0])
      · have e2 : wrap64 ((i : Int) - 1) = ((i - 1 : Nat) : Int) := by rw [wrap_id _ (by omega) (by omega)]; omega
        have e3 : (i : Int) - 1 = ((i - 1 : Nat) : Int) := by omega
        rw [if_pos (by omega), e2, if_pos (by omega), if_pos (by omega)]
        rw [e3, rd_cv l (i - 1) (by omega)] at hok
        show ∃ b : Bool, (quadrigaref18_Ahead.f (rq l (i - 1)).f0 (rq l (i - 1)).f1.f0 (rq l (i - 1)).f1.f1 (rq l (i - 1)).f1.f2 (rq l (i - 1)).f1.f3 (rq l (i - 1)).f1.f4 (rq l (i - 1)).f1.f5 (rq l (i - 1)).f1.f6.f0 (rq l (i - 1)).f1.f6.f1 (rq l (i - 1)).f1.f7.f0 (rq l (i - 1)).f1.f7.f1 (rq l (i - 1)).f1.f8 (rq l i).f0 (rq l i).f1.f0 (rq l i).f1.f1 (rq l i).f1.f2 (rq l i).f1.f3 (rq l i).f1.f4 (rq l i).f1.f5 (rq l i).f1.f6.f0 (rq l i).f1.f6.f1 (rq l i).f1.f7.f0 (rq l i).f1.f7.f1 (rq l i).f1.f8).bind _ = _ ∧ _
        rw [ahead_eq, Option.bind_some]
        simp only [h0, decide_false, Bool.false_or] at hok
        by_cases ho : ordV (cv (rq l (i - 1))) (cv (rq l i)) < 0
        · simp only [ho, decide_true, if_true]
          rw [ih]
          exact hyes (by rw [hok]; simp [ho])
        · simp only [ho, decide_false, Bool.false_eq_true, if_false]
          exact hno (by rw [hok]; simp [ho])
theorem right_all (l : List Qr) (hn : l.length ≤ 1000) : quadrigaref18_Right.f (l.length + 4) l = some (allB (l.map cv)) := by
  unfold quadrigaref18_Right.f
  obtain ⟨b, h, hb⟩ := right_go l hn l.length 0 (by omega)
  rw [Int.natCast_zero] at h
  rw [h]
  congr 1
  rw [Bool.eq_iff_iff, allB_iff, hb, List.length_map]
  exact ⟨fun H i hi => H i (Nat.zero_le _) hi, fun H i _ hi => H i hi⟩

/-! ### what is too great -/
theorem great17_go (l : List Rc) (hn : l.length ≤ 1000) : ∀ m i k, i + m = l.length → ∃ b, quadrigaref17_Great.l0 (m + 1 + k) l (i : Int) = some b
  | 0, i, k, h => by
    rw [show 0 + 1 + k = k + 1 by omega]
    unfold quadrigaref17_Great.l0
    rw [if_neg (by omega)]
    exact ⟨_, rfl⟩
  | m + 1, i, k, h => by
    obtain ⟨b, ih⟩ := great17_go l hn m (i + 1) k (by omega)
    rw [show m + 1 + 1 + k = (m + 1 + k) + 1 by omega]
    unfold quadrigaref17_Great.l0
    rw [if_pos (by omega), if_pos (by omega)]
    have e1 : wrap64 ((i : Int) + 1) = ((i + 1 : Nat) : Int) := by rw [wrap_id _ (by omega) (by omega)]; rfl
    split
    · exact ⟨_, rfl⟩
    · split
      · exact ⟨_, rfl⟩
      · split
        · exact ⟨_, rfl⟩
        · rw [e1]; exact ⟨b, ih⟩
theorem great17_ok (l : List Rc) (hn : l.length ≤ 100) (k : Nat) (hk : 101 ≤ k) : ∃ b, quadrigaref17_Great.f k l = some b := by
  unfold quadrigaref17_Great.f
  split
  · exact ⟨_, rfl⟩
  · obtain ⟨b, h⟩ := great17_go l (by omega) l.length 0 (k - l.length - 1) (by omega)
    rw [show l.length + 1 + (k - l.length - 1) = k by omega] at h
    exact ⟨b, h⟩
theorem great18_go (l : List Qr) : ∀ m (i : Nat) (o : List Rc), i + m = 70 → o.length = i → ∃ b, quadrigaref18_Great.l0 (m + 102) l o (i : Int) = some b
  | 0, i, o, h, ho => by
    unfold quadrigaref18_Great.l0
    obtain ⟨b, hb⟩ := great17_ok o (by omega) 101 (by omega)
    have hb2 : quadrigaref17_Great.f (0 + 101) o = some b := hb
    split
    · rw [if_neg (by omega), hb2]
      exact ⟨b, rfl⟩
    · rw [hb2]
      exact ⟨b, rfl⟩
  | m + 1, i, o, h, ho => by
    rw [show m + 1 + 102 = (m + 102) + 1 by omega]
    unfold quadrigaref18_Great.l0
    obtain ⟨b, hb⟩ := great17_ok o (by omega) (m + 102) (by omega)
    have e1 : wrap64 ((i : Int) + 1) = ((i + 1 : Nat) : Int) := by rw [wrap_id _ (by omega) (by omega)]; rfl
    split
    · rw [if_pos (by omega), if_pos (by omega), if_pos (by omega), e1]
      exact great18_go l m (i + 1) _ (by omega) (by simp [ho])
    · rw [hb]
      exact ⟨b, rfl⟩
theorem great18_ok (l : List Qr) : ∃ b, quadrigaref18_Great.f 172 l = some b := great18_go l 70 0 [] rfl rfl

/-! ### the copy -/
theorem of_go (l : List Qr) (hn : l.length ≤ 1000) : ∀ m i (o : List Br), i + m = l.length → o = (l.take i).map cv → quadrigalaw18_Of.l0 (m + 1) l o (i : Int) = some (l.map cv)
  | 0, i, o, h, ho => by
    unfold quadrigalaw18_Of.l0
    rw [if_neg (by omega), ho, List.take_of_length_le (by omega)]
  | m + 1, i, o, h, ho => by
    have e1 : wrap64 ((i : Int) + 1) = ((i + 1 : Nat) : Int) := by rw [wrap_id _ (by omega) (by omega)]; rfl
    unfold quadrigalaw18_Of.l0
    have hlen : o.length = i := by rw [ho]; simp; omega
    rw [if_pos (by omega), if_pos (by omega), if_pos (by omega), e1]
    refine of_go l hn m (i + 1) _ (by omega) ?_
    have hlt : i < l.length := by omega
    rw [ho, List.take_succ_eq_append_getElem hlt, List.map_append]
    congr 1
    simp only [List.map_cons, List.map_nil]
    have : rd_T81 l (i : Int) = l[i] := by
      unfold rd_T81
      simp [List.getD_eq_getElem?_getD, hlt]
    rw [this]
    rfl
theorem of_all (l : List Qr) (hn : l.length ≤ 1000) : quadrigalaw18_Of.f (l.length + 1) l = some (l.map cv) := of_go l hn l.length 0 [] (by omega) rfl

/-! ### the numbers -/
def val (f : Int → Int → Option Int) (t g : Int) : Int := (f t g).getD 0
structure Good (s : St) : Prop where
  pos : ∀ t g v, s.f t g = some v → 1 ≤ v ∧ 1 ≤ g
theorem ok_right {l : List Qr} {i : Nat} (hi : i < l.length) (h : okB (l.map cv) i = true) : rightB (rq l i).f1 = true := by
  have h2 := right_of_okB h
  rw [rd_cv l i hi] at h2
  exact h2
theorem right_some (r : Rc) (h : rightB r = true) : 1 ≤ r.f1 ∧ 0 ≤ r.f3 ∧ (r.f0 = 3 → 1 ≤ r.f8) := by
  simp only [rightB, Bool.and_eq_true, withinB, decide_eq_true_eq] at h
  obtain ⟨_, _, ⟨h3, _⟩, ⟨h5, _⟩, _, _, hu⟩ := h
  refine ⟨h3, h5, fun h0 => ?_⟩
  simp only [undoB, h0, if_true, withinB, Bool.and_eq_true, decide_eq_true_eq] at hu
  exact hu.1
theorem run_step (l : List Qr) (i : Nat) (hi : i < l.length) : runS (l.map cv) (i + 1) = stepS (runS (l.map cv) i) i (rq l i).f1 := by
  simp only [runS]
  rw [rd_cv l i hi]
  rfl
theorem run_good (l : List Qr) (hall : ∀ i, i < l.length → okB (l.map cv) i = true) : ∀ i, i ≤ l.length → Good (runS (l.map cv) i)
  | 0, _ => ⟨fun t g v h => by simp [runS] at h⟩
  | i + 1, h => by
    have ih := run_good l hall i (by omega)
    rw [run_step l i (by omega)]
    refine ⟨fun t g v hv => ?_⟩
    simp only [stepS, putP] at hv
    split at hv
    · rename_i e
      have := (right_some _ (ok_right (by omega) (hall i (by omega)))).1
      simp only [Option.some.injEq] at hv
      omega
    · exact ih.pos t g v hv
theorem ofN_mono (f : Int → Int → Option Int) (t g : Int) (x : Bool) (h : x = true) : ofN f t g x = true := by
  unfold ofN; split
  · exact h
  · rw [h]; rfl
theorem none_stays (l : List Qr) : ∀ d i, i + d ≤ l.length → (runS (l.map cv) i).none_ = true → (runS (l.map cv) (i + d)).none_ = true
  | 0, _, _, h => h
  | d + 1, i, hl, h => by
    have ih := none_stays l d i (by omega) h
    rw [← Nat.add_assoc, run_step l (i + d) (by omega)]
    simp only [stepS]
    split
    · exact ofN_mono _ _ _ _ (ofN_mono _ _ _ _ ih)
    · exact ofN_mono _ _ _ _ ih
theorem val_zero_iff {s : St} (h : Good s) (t g : Int) : val s.f t g = 0 ↔ s.f t g = none := by
  unfold val
  cases e : s.f t g with
  | none => simp
  | some v => have := (h.pos t g v e).1; simp; omega
/-- What a whole run gives. -/
def endS (s : St) : List Rc × Int := if s.none_ then ([], 7) else (s.out, 0)

section
variable (l : List Qr) (hn : l.length ≤ 1000) (hall : ∀ i, i < l.length → okB (l.map cv) i = true)
include hn hall
theorem outer_go : ∀ m i, i + m = l.length → (runS (l.map cv) i).none_ = false → ∃ k, quadrigalaw29_number.l0 k l (runS (l.map cv) i).out (i : Int) = some (endS (runS (l.map cv) l.length))
  | 0, i, h, hno => by
    refine ⟨1, ?_⟩
    unfold quadrigalaw29_number.l0
    obtain rfl : i = l.length := by omega
    rw [if_neg (by omega)]
    unfold endS
    rw [hno]
    rfl
  | m + 1, i, h, hno => by
    have ih := outer_go m (i + 1) (by omega)
    have hi : i < l.length := by omega
    have e1 : ∀ j : Nat, j < l.length → wrap64 ((j : Int) + 1) = ((j + 1 : Nat) : Int) := fun j hj => by rw [wrap_id _ (by omega) (by omega)]; rfl
    obtain ⟨s, hs⟩ : ∃ s, s = runS (l.map cv) i := ⟨_, rfl⟩
    obtain ⟨r, hr⟩ : ∃ r, r = (rq l i).f1 := ⟨_, rfl⟩
    have hG := run_good l hall i (by omega)
    have hstep := run_step l i hi
    have hlen := run_len (l.map cv) i
    rw [← hr] at hstep
    rw [← hs] at hstep hlen hG hno
    rw [hstep] at ih
    have hR := right_some _ (ok_right hi (hall i hi))
    rw [← hr] at hR
    obtain ⟨hR1, hR2, hR3⟩ := hR
    -- the inner loop
    have inner : ∀ d j, j + d = i → (∃ k, quadrigalaw29_number.l1 k l s.out (i : Int) (val s.f r.f2 r.f3) (val s.f r.f2 r.f8) (i : Int) r.f0 ((i + 1 : Nat) : Int) r.f2 r.f3 r.f4 r.f5 r.f6.f0 r.f6.f1 r.f7.f0 r.f7.f1 r.f8 = some (endS (runS (l.map cv) l.length))) →
        ∃ k, quadrigalaw29_number.l1 k l s.out (i : Int) (val (runS (l.map cv) j).f r.f2 r.f3) (val (runS (l.map cv) j).f r.f2 r.f8) (j : Int) r.f0 ((i + 1 : Nat) : Int) r.f2 r.f3 r.f4 r.f5 r.f6.f0 r.f6.f1 r.f7.f0 r.f7.f1 r.f8 = some (endS (runS (l.map cv) l.length)) := by
      intro d
      induction d with
      | zero =>
        intro j hj H
        obtain rfl : j = i := by omega
        rw [← hs]
        exact H
      | succ d ihd =>
        intro j hj H
        obtain ⟨k, hk⟩ := ihd (j + 1) (by omega) H
        refine ⟨k + 2, ?_⟩
        have hv : ∀ g, val (runS (l.map cv) (j + 1)).f r.f2 g = if (rq l j).f1.f2 = r.f2 ∧ (rq l j).f1.f1 = g then ((j + 1 : Nat) : Int) else val (runS (l.map cv) j).f r.f2 g := by
          intro g
          rw [run_step l j (by omega)]
          unfold val
          simp only [stepS, putP]
          by_cases e : (rq l j).f1.f2 = r.f2 ∧ (rq l j).f1.f1 = g
          · rw [if_pos e, if_pos ⟨e.1.symm, e.2.symm⟩]
            rfl
          · rw [if_neg e, if_neg (fun z => e ⟨z.1.symm, z.2.symm⟩)]
        rw [hv, hv] at hk
        unfold quadrigalaw29_number.l1
        rw [if_pos (by omega), if_pos (by omega), if_pos (by omega)]
        show (if (rq l j).f1.f2 = r.f2 then quadrigalaw29_number.j2 (k + 1) l s.out (i : Int) (val (runS (l.map cv) j).f r.f2 r.f3) (val (runS (l.map cv) j).f r.f2 r.f8) (j : Int) ((rq l j).f1.f1 == r.f3) r.f0 ((i + 1 : Nat) : Int) r.f2 r.f3 r.f4 r.f5 r.f6.f0 r.f6.f1 r.f7.f0 r.f7.f1 r.f8 else quadrigalaw29_number.j2 (k + 1) l s.out (i : Int) (val (runS (l.map cv) j).f r.f2 r.f3) (val (runS (l.map cv) j).f r.f2 r.f8) (j : Int) false r.f0 ((i + 1 : Nat) : Int) r.f2 r.f3 r.f4 r.f5 r.f6.f0 r.f6.f1 r.f7.f0 r.f7.f1 r.f8) = _
        have hj2 : ∀ b : Bool, quadrigalaw29_number.j2 (k + 1) l s.out (i : Int) (val (runS (l.map cv) j).f r.f2 r.f3) (val (runS (l.map cv) j).f r.f2 r.f8) (j : Int) b r.f0 ((i + 1 : Nat) : Int) r.f2 r.f3 r.f4 r.f5 r.f6.f0 r.f6.f1 r.f7.f0 r.f7.f1 r.f8 = quadrigalaw29_number.l1 k l s.out (i : Int) (if b = true then ((j + 1 : Nat) : Int) else val (runS (l.map cv) j).f r.f2 r.f3) (if (rq l j).f1.f2 = r.f2 ∧ (rq l j).f1.f1 = r.f8 then ((j + 1 : Nat) : Int) else val (runS (l.map cv) j).f r.f2 r.f8) ((j + 1 : Nat) : Int) r.f0 ((i + 1 : Nat) : Int) r.f2 r.f3 r.f4 r.f5 r.f6.f0 r.f6.f1 r.f7.f0 r.f7.f1 r.f8 := by
          intro b
          unfold quadrigalaw29_number.j2
          rw [e1 j (by omega)]
          have ed : rd_T81 l (j : Int) = rq l j := rfl
          rw [ed]
          by_cases h2 : (rq l j).f1.f2 = r.f2
          · by_cases h3 : (rq l j).f1.f1 = r.f8
            · cases b <;> simp [h2, h3, show j < l.length by omega]
            · cases b <;> simp [h2, h3, show j < l.length by omega]
          · cases b <;> simp [h2, show j < l.length by omega]
        rw [hj2, hj2]
        by_cases h2 : (rq l j).f1.f2 = r.f2
        · rw [if_pos h2]
          by_cases h3 : (rq l j).f1.f1 = r.f3
          · rw [if_pos (by simp [h3])]
            rw [if_pos ⟨h2, h3⟩] at hk
            exact hk
          · rw [if_neg (by simp [h3])]
            rw [if_neg (fun z => h3 z.2)] at hk
            exact hk
        · rw [if_neg h2, if_neg (by decide)]
          rw [if_neg (fun z => h2 z.1)] at hk
          exact hk
    have hend : ∃ k, quadrigalaw29_number.l1 k l s.out (i : Int) (val s.f r.f2 r.f3) (val s.f r.f2 r.f8) (i : Int) r.f0 ((i + 1 : Nat) : Int) r.f2 r.f3 r.f4 r.f5 r.f6.f0 r.f6.f1 r.f7.f0 r.f7.f1 r.f8 = some (endS (runS (l.map cv) l.length)) := by
      -- a bad end
      have hbad : (stepS s i r).none_ = true → endS (runS (l.map cv) l.length) = ([], 7) := by
        intro hb
        have := none_stays l m (i + 1) (by omega) (by rw [hstep]; exact hb)
        rw [show i + 1 + m = l.length by omega] at this
        unfold endS
        rw [this]
        rfl
      have hv0 : r.f3 = 0 → val s.f r.f2 r.f3 = 0 := by
        intro h0
        unfold val
        cases e : s.f r.f2 r.f3 with
        | none => rfl
        | some v => have := (hG.pos _ _ _ e).2; omega
      have ev : ofV s.f r.f2 r.f3 = val s.f r.f2 r.f3 := by
        unfold ofV
        split
        · rename_i h0; rw [hv0 h0]
        · rfl
      have en : ofN s.f r.f2 r.f3 false = decide (r.f3 > 0 ∧ val s.f r.f2 r.f3 = 0) := by
        unfold ofN val
        cases e : s.f r.f2 r.f3 with
        | none =>
          by_cases h0 : r.f3 = 0
          · simp [h0]
          · simp [h0]; omega
        | some v =>
          have := (hG.pos _ _ _ e).1
          have h3 : ¬ v = 0 := by omega
          by_cases h0 : r.f3 = 0
          · simp [h0]
          · simp [h0, h3]
      have eu : r.f0 = 3 → ofV s.f r.f2 r.f8 = val s.f r.f2 r.f8 ∧ ∀ x, ofN s.f r.f2 r.f8 x = (x || decide (val s.f r.f2 r.f8 = 0)) := by
        intro h0
        have := hR3 h0
        refine ⟨?_, fun x => ?_⟩
        · unfold ofV; rw [if_neg (by omega)]; rfl
        · unfold ofN; rw [if_neg (by omega)]
          congr 1
          rw [Bool.eq_iff_iff, decide_eq_true_eq, val_zero_iff hG]
          simp
      have hnone : (stepS s i r).none_ = (decide (r.f3 > 0 ∧ val s.f r.f2 r.f3 = 0) || (decide (r.f0 = 3) && decide (val s.f r.f2 r.f8 = 0))) := by
        simp only [stepS, hno]
        by_cases h0 : r.f0 = 3
        · rw [if_pos h0, (eu h0).2, en]
          simp [h0]
        · rw [if_neg h0, en]
          simp [h0]
      -- the last step, by its one Boolean
      have hj3 : ∀ b : Bool, b = (stepS s i r).none_ → ∃ k, quadrigalaw29_number.j3 k l s.out (i : Int) (val s.f r.f2 r.f3) (val s.f r.f2 r.f8) b r.f0 ((i + 1 : Nat) : Int) r.f2 r.f3 r.f4 r.f5 r.f6.f0 r.f6.f1 r.f7.f0 r.f7.f1 r.f8 = some (endS (runS (l.map cv) l.length)) := by
        intro b hb
        cases b with
        | true =>
          refine ⟨1, ?_⟩
          unfold quadrigalaw29_number.j3
          rw [if_pos rfl, hbad hb.symm]
        | false =>
          obtain ⟨k, hk⟩ := ih hb.symm
          refine ⟨k + 1, ?_⟩
          unfold quadrigalaw29_number.j3
          rw [if_neg (by decide), e1 i hi]
          have hcap : s.out.length < 1256584717458 := by omega
          have eo : (stepS s i r).out = s.out ++ [⟨r.f0, ((i + 1 : Nat) : Int), r.f2, val s.f r.f2 r.f3, r.f4, r.f5, r.f6, r.f7, if r.f0 = 3 then val s.f r.f2 r.f8 else r.f8⟩] := by
            simp only [stepS]
            rw [ev]
            congr 3
            by_cases h0 : r.f0 = 3
            · rw [if_pos h0, if_pos h0, (eu h0).1]
            · rw [if_neg h0, if_neg h0]
          rw [eo] at hk
          by_cases h0 : r.f0 = 3
          · rw [if_pos h0] at hk
            rw [if_pos h0, if_pos hcap]
            exact hk
          · rw [if_neg h0] at hk
            rw [if_neg h0, if_pos hcap]
            exact hk
      obtain ⟨k, hk⟩ := hj3 _ rfl
      refine ⟨k + 1, ?_⟩
      unfold quadrigalaw29_number.l1
      rw [if_neg (by omega)]
      rw [hnone] at hk
      by_cases h1 : r.f3 > 0
      · rw [if_pos h1]
        by_cases h2 : val s.f r.f2 r.f3 = 0
        · rw [if_pos h2]
          simpa [h1, h2] using hk
        · rw [if_neg h2]
          by_cases h3 : r.f0 = 3
          · rw [if_pos h3]
            rw [show (val s.f r.f2 r.f8 == 0) = decide (val s.f r.f2 r.f8 = 0) by rw [Bool.eq_iff_iff]; simp]
            simpa [h1, h2, h3] using hk
          · rw [if_neg h3]
            simpa [h1, h2, h3] using hk
      · rw [if_neg h1]
        by_cases h3 : r.f0 = 3
        · rw [if_pos h3]
          rw [show (val s.f r.f2 r.f8 == 0) = decide (val s.f r.f2 r.f8 = 0) by rw [Bool.eq_iff_iff]; simp]
          simpa [h1, h3] using hk
        · rw [if_neg h3]
          simpa [h1, h3] using hk
    obtain ⟨k, hk⟩ := inner i 0 (by omega) hend
    refine ⟨k + 1, ?_⟩
    unfold quadrigalaw29_number.l0
    rw [if_pos (by omega), if_pos (by omega), e1 i hi]
    rw [← hs]
    have ed : rd_T81 l (i : Int) = rq l i := rfl
    rw [ed, ← hr]
    exact hk
end
theorem number_all (l : List Qr) (hn : l.length ≤ 1000) : ∃ k, quadrigalaw29_number.f k l = some (numF (l.map cv)) := by
  have hR := right_all l hn
  unfold numF
  cases ha : allB (l.map cv) with
  | false =>
    refine ⟨l.length + 4, ?_⟩
    unfold quadrigalaw29_number.f
    rw [hR, ha]
    rfl
  | true =>
    have hall := (allB_iff _).1 ha
    rw [List.length_map] at hall
    obtain ⟨k, hk⟩ := outer_go l hn hall l.length 0 (by omega) rfl
    refine ⟨max (l.length + 4) k, ?_⟩
    unfold quadrigalaw29_number.f
    rw [le_mono (F := fun k => quadrigaref18_Right.f k l) (quadrigaref18_Right.mono l) hR (Nat.le_max_left _ k), ha]
    have hk2 := le_mono (F := fun k => quadrigalaw29_number.l0 k l [] 0) (fun k => (quadrigalaw29_number.mono_l k).1 _ _ _) hk (Nat.le_max_right (l.length + 4) k)
    rw [List.length_map]
    exact hk2

/-! ### the same -/
theorem same_go (l : List Rc) (hn : l.length ≤ 1000) : ∀ m i, i + m = l.length → quadrigaref17_Same.l0 (m + 1) l l (i : Int) = some true
  | 0, i, h => by
    unfold quadrigaref17_Same.l0
    rw [if_neg (by omega)]
  | m + 1, i, h => by
    unfold quadrigaref17_Same.l0
    rw [if_pos (by omega), if_pos (by omega), if_pos (by omega), if_neg (by simp), wrap_id _ (by omega) (by omega)]
    exact same_go l hn m (i + 1) (by omega)
theorem same_all (l : List Rc) (hn : l.length ≤ 1000) : quadrigaref17_Same.f (l.length + 1) l l = some true := by
  unfold quadrigaref17_Same.f
  rw [if_pos rfl]
  exact same_go l hn l.length 0 (by omega)

set_option maxRecDepth 100000 in
theorem awake_eq : quadrigalaw29_awake.f = some true := by kernel_rfl
theorem numF_len (l : List Br) : (numF l).1.length ≤ l.length := by
  unfold numF
  split
  · split
    · exact Nat.zero_le _
    · rw [run_len]; exact Nat.le_refl _
  · exact Nat.zero_le _

theorem single_pure (l : List Qr) : ∃ k, quadrigalaw29_SingleNumbers.f k l = some true := by
  obtain ⟨b, hb⟩ := great18_ok l
  have awk : ∀ k, quadrigalaw29_SingleNumbers.j0 (k + 1) l true = some true := by
    intro k
    simp only [quadrigalaw29_SingleNumbers.j0, if_true, awake_eq, Option.bind_some]
  cases b with
  | true =>
    refine ⟨172, ?_⟩
    unfold quadrigalaw29_SingleNumbers.f
    rw [hb, Option.bind_some, if_pos rfl]
    exact awk 171
  | false =>
    by_cases hn : (l.length : Int) > 60
    · refine ⟨172, ?_⟩
      unfold quadrigalaw29_SingleNumbers.f
      rw [hb, Option.bind_some, if_neg (by decide), decide_eq_true hn]
      exact awk 171
    · obtain ⟨k, hk⟩ := number_all l (by omega)
      have hlen : (numF (l.map cv)).1.length ≤ l.length := by have := numF_len (l.map cv); rwa [List.length_map] at this
      obtain ⟨K, hK⟩ : ∃ K, K = k + 172 := ⟨_, rfl⟩
      refine ⟨K + 1, ?_⟩
      unfold quadrigalaw29_SingleNumbers.f
      rw [le_mono (F := fun k => quadrigaref18_Great.f k l) (quadrigaref18_Great.mono l) hb (show 172 ≤ K + 1 by omega), Option.bind_some, if_neg (by decide), decide_eq_false hn]
      show (if false = true then quadrigalaw29_awake.f.bind fun t189 => some t189 else (quadrigalaw18_Of.f K l).bind fun t190 =>
          (single_Number.f t190).bind fun bt193 =>
            (quadrigalaw29_number.f K l).bind fun bt197 =>
              (quadrigaref17_Same.f K bt193.1 bt197.1).bind fun t201 =>
                if t201 = true then
                  if bt193.2 = bt197.2 then quadrigalaw29_awake.f.bind fun t202 => some t202 else some false
                else some false) = _
      rw [if_neg (by decide)]
      rw [le_mono (F := fun k => quadrigalaw18_Of.f k l) (quadrigalaw18_Of.mono l) (of_all l (by omega)) (show l.length + 1 ≤ K by omega), Option.bind_some]
      have e : single_Number.f (l.map cv) = some (numF (l.map cv)) := by
        unfold single_Number.f
        rw [if_pos (by rw [List.length_map]; omega)]
      rw [e, Option.bind_some]
      rw [le_mono (F := fun k => quadrigalaw29_number.f k l) (quadrigalaw29_number.mono l) hk (show k ≤ K by omega), Option.bind_some]
      rw [le_mono (F := fun k => quadrigaref17_Same.f k (numF (l.map cv)).1 (numF (l.map cv)).1) (quadrigaref17_Same.mono _ _) (same_all _ (by omega)) (show (numF (l.map cv)).1.length + 1 ≤ K by omega), Option.bind_some]
      rw [if_pos rfl, if_pos rfl, awake_eq]
      rfl
end Go.Proofs.Ytlicobfjeajcfaa
