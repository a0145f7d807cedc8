/-
  RecordRights: contracts and boxes.
-/
import Derived.Test.YtlicobfjeajcfaaDoorQ04x8
import Derived.Test.YtlicobfjeajcfaaDoorQ04aw
import Derived.Test.YtlicobfjeajcfaaDoorRcRight
import Derived.Test.YtlicobfjeajcfaaDoorQ04h
import Derived.Test.YtlicobfjeajcfaaDoorOpnQ04
import Derived.Lib.Hide
import Derived.WalkKit
import Derived.WalkSpells
import Derived.WalkLawsBesides
import Derived.Outline
import Derived.Deep.DrawnRows
namespace Go.Proofs.YtlicobfjeajcfaaDoor
open Go.RowKit Go.Proofs.YtlicobfjeajcfaaDoor.Q04 Go.Proofs.YtlicobfjeajcfaaDoorW.PrintWords Go.Proofs.YtlicobfjeajcfaaDoorW.PrintLast
attribute [local go_sem high] eqA23
set_option linter.unusedVariables false
set_option linter.unusedSimpArgs false

theorem page_eq (k : Int) : quadrigaref04_page.f k = some (chB k) := by
  unfold quadrigaref04_page.f chB
  by_cases h : k = 2
  · rw [if_pos h]; simp [h]
  · rw [if_neg h]; simp [h]
theorem rkey_eq (s : ByteArray) : quadrigaref04_Key.f s = some (keyB s) := by
  unfold quadrigaref04_Key.f keyB
  by_cases h : (s.size : Int) ≥ 1
  · rw [if_pos h]; congr 1; rw [Bool.eq_iff_iff]; simp only [Bool.and_eq_true, decide_eq_true_eq, Bool.false_eq_true, beq_iff_eq, false_iff]; omega
  · rw [if_neg h]; congr 1; rw [Bool.eq_iff_iff]; simp only [Bool.and_eq_true, decide_eq_true_eq, Bool.false_eq_true, beq_iff_eq, false_iff]; omega
theorem rval_eq (v : S23) : quadrigaref04_Value.f v.f0 v.f1 = some (valB v) := by
  unfold quadrigaref04_Value.f valB
  by_cases h : (v.f1.size : Int) ≤ 16
  · rw [if_pos h]
    have h' : v.f1.size ≤ 16 := by omega
    cases v.f0 with
    | true => simp [h']
    | false =>
      have : (v.f1.toList == []) = decide (v.f1.size = 0) := by
        rw [Bool.eq_iff_iff, beq_iff_eq, decide_eq_true_eq, toList_nil]
      simp [this, h']
  · rw [if_neg h]
    have h' : ¬ v.f1.size ≤ 16 := by omega
    simp [h']

theorem rright_no2 (x : S25) (k : Nat) : quadrigaref04_Right.j2 (k + 1) true x.f0 x.f1 x.f2 x.f3 x.f4 x.f5 x.f6.f0 x.f6.f1 x.f7.f0 x.f7.f1 x.f8 = some false := rfl
theorem rright_j2 (x : S25) (k : Nat) : quadrigaref04_Right.j2 (k + 1) false x.f0 x.f1 x.f2 x.f3 x.f4 x.f5 x.f6.f0 x.f6.f1 x.f7.f0 x.f7.f1 x.f8 = some (undoB x) := by
  simp only [quadrigaref04_Right.j2, undoB, withinB]
  rw [if_neg (by decide)]
  by_cases h3 : x.f0 = 3
  · rw [if_pos h3, if_pos h3]
    split <;> (congr 1; rw [Bool.eq_iff_iff]; simp only [Bool.and_eq_true, decide_eq_true_eq, Bool.false_eq_true, beq_iff_eq, false_iff]; omega)
  · rw [if_neg h3, if_neg h3]
    by_cases h4 : x.f0 = 4
    · rw [if_pos h4, if_pos h4]
      split <;> (congr 1; rw [Bool.eq_iff_iff]; simp only [Bool.and_eq_true, decide_eq_true_eq, Bool.false_eq_true, beq_iff_eq, false_iff]; omega)
    · rw [if_neg h4, if_neg h4]
theorem rright_j1 (x : S25) (k : Nat) (hb : chB x.f0 = true → bodyB x = true) : quadrigaref04_Right.j1 (k + 2) false x.f0 x.f1 x.f2 x.f3 x.f4 x.f5 x.f6.f0 x.f6.f1 x.f7.f0 x.f7.f1 x.f8 = some (bodyB x && undoB x) := by
  simp only [quadrigaref04_Right.j1]
  rw [if_neg (by decide), page_eq, Option.bind_some]
  cases hc : chB x.f0 with
  | true => rw [if_pos rfl, rright_j2, hb hc]; rfl
  | false =>
    rw [if_neg (by decide)]
    unfold bodyB
    simp only [hc, Bool.false_eq_true, if_false]
    by_cases h4 : x.f4 = 0
    · rw [if_pos h4]
      by_cases h5 : x.f5.toList = []
      · rw [if_pos h5]
        by_cases h6 : (!x.f6.f0 && (x.f6.f1.toList == [])) = true
        · have h6' : (x.f6.f0 || !(x.f6.f1.toList == [])) = false := by
            revert h6; cases x.f6.f0 <;> cases (x.f6.f1.toList == []) <;> simp
          rw [if_neg (by rw [h6']; decide)]
          cases h7 : (!x.f7.f0 && (x.f7.f1.toList == [])) with
          | true =>
            have h7' : (x.f7.f0 || !(x.f7.f1.toList == [])) = false := by
              revert h7; cases x.f7.f0 <;> cases (x.f7.f1.toList == []) <;> simp
            rw [h7', rright_j2, h6]
            simp [h4, h5]
          | false =>
            have h7' : (x.f7.f0 || !(x.f7.f1.toList == [])) = true := by
              revert h7; cases x.f7.f0 <;> cases (x.f7.f1.toList == []) <;> simp
            rw [h7', rright_no2]
            simp
        · have h6' : (x.f6.f0 || !(x.f6.f1.toList == [])) = true := by
            revert h6; cases x.f6.f0 <;> cases (x.f6.f1.toList == []) <;> simp
          rw [if_pos h6', rright_no2]
          simp only [h6]
          simp
      · rw [if_neg h5, rright_no2]; simp [h5]
    · rw [if_neg h4, rright_no2]; simp [h4]
theorem rright_no1 (x : S25) (k : Nat) : quadrigaref04_Right.j1 (k + 1) true x.f0 x.f1 x.f2 x.f3 x.f4 x.f5 x.f6.f0 x.f6.f1 x.f7.f0 x.f7.f1 x.f8 = some false := rfl
theorem rright_j0 (x : S25) (k : Nat) : quadrigaref04_Right.j0 (k + 3) false x.f0 x.f1 x.f2 x.f3 x.f4 x.f5 x.f6.f0 x.f6.f1 x.f7.f0 x.f7.f1 x.f8 = some (bodyB x && undoB x) := by
  simp only [quadrigaref04_Right.j0]
  rw [if_neg (by decide), page_eq, Option.bind_some]
  cases hc : chB x.f0 with
  | false => rw [if_neg (by decide), rright_j1 x k (fun h => by rw [hc] at h; cases h)]
  | true =>
    rw [if_pos rfl]
    have hbb : bodyB x = (withinB x.f4 0 63 && (keyB x.f5 && ((valB x.f6 && valB x.f7) && (!(x.f6.f0 == x.f7.f0) || !(x.f6.f1.toList == x.f7.f1.toList))))) := by unfold bodyB; rw [if_pos hc]
    by_cases h1 : x.f4 < 0
    · rw [if_pos h1, rright_no1, hbb]
      have : withinB x.f4 0 63 = false := by unfold withinB; simp; omega
      rw [this]; rfl
    · rw [if_neg h1]
      by_cases h2 : x.f4 > 63
      · rw [if_pos h2, rright_no1, hbb]
        have : withinB x.f4 0 63 = false := by unfold withinB; simp; omega
        rw [this]; rfl
      · rw [if_neg h2, rkey_eq, Option.bind_some, hbb]
        have hw : withinB x.f4 0 63 = true := by unfold withinB; simp; omega
        cases hk : keyB x.f5 with
        | false => rw [if_neg (by decide), rright_no1]; simp
        | true =>
          rw [if_pos rfl, rval_eq, Option.bind_some]
          cases h6 : valB x.f6 with
          | false => rw [if_neg (by decide), rright_no1]; simp
          | true =>
            rw [if_pos rfl, rval_eq, Option.bind_some]
            cases h7 : valB x.f7 with
            | false => rw [if_neg (by decide), rright_no1]; simp
            | true =>
              rw [if_pos rfl]
              cases he : (x.f6.f0 == x.f7.f0 && (x.f6.f1.toList == x.f7.f1.toList)) with
              | true =>
                have he' : (!(x.f6.f0 == x.f7.f0) || !(x.f6.f1.toList == x.f7.f1.toList)) = false := by
                  revert he; cases (x.f6.f0 == x.f7.f0) <;> cases (x.f6.f1.toList == x.f7.f1.toList) <;> simp
                rw [rright_no1, he', hw]; rfl
              | false =>
                have he' : (!(x.f6.f0 == x.f7.f0) || !(x.f6.f1.toList == x.f7.f1.toList)) = true := by
                  revert he; cases (x.f6.f0 == x.f7.f0) <;> cases (x.f6.f1.toList == x.f7.f1.toList) <;> simp
                have hbt : bodyB x = true := by rw [hbb, hw, hk, h6, h7, he']; rfl
                rw [rright_j1 x k (fun _ => hbt), hbt, hw, he']
                rfl
theorem rright_no0 (x : S25) (k : Nat) : quadrigaref04_Right.j0 (k + 1) true x.f0 x.f1 x.f2 x.f3 x.f4 x.f5 x.f6.f0 x.f6.f1 x.f7.f0 x.f7.f1 x.f8 = some false := rfl
theorem rright_eq (x : S25) (k : Nat) : quadrigaref04_Right.f (k + 3) x.f0 x.f1 x.f2 x.f3 x.f4 x.f5 x.f6.f0 x.f6.f1 x.f7.f0 x.f7.f1 x.f8 = some (rightB x) := by
  unfold quadrigaref04_Right.f rightB withinB
  by_cases h1 : x.f0 < 1
  · rw [if_pos h1, rright_no0]; simp; omega
  · rw [if_neg h1]
    by_cases h2 : x.f0 > 6
    · rw [if_pos h2, rright_no0]; simp; omega
    · rw [if_neg h2]
      by_cases h3 : x.f2 < 1
      · rw [if_pos h3, rright_no0]; simp; omega
      · rw [if_neg h3]
        by_cases h4 : x.f2 > 2147483647
        · rw [if_pos h4, rright_no0]; simp; omega
        · rw [if_neg h4]
          by_cases h5 : x.f1 < 1
          · rw [if_pos h5, rright_no0]; simp; omega
          · rw [if_neg h5]
            by_cases h6 : x.f1 > 4611686018427387903
            · rw [if_pos h6, rright_no0]; simp; omega
            · rw [if_neg h6, wrap_id _ (by omega) (by omega)]
              by_cases h7 : x.f3 < 0
              · rw [if_pos h7, rright_no0]; simp; omega
              · rw [if_neg h7]
                by_cases h8 : x.f3 ≥ x.f1
                · rw [if_pos h8, rright_no0]; simp; omega
                · rw [if_neg h8]
                  cases hp : ((x.f3 == 0) == (x.f0 == 1)) with
                  | true =>
                    have : ((x.f3 == 0) != (x.f0 == 1)) = false := by simpa using hp
                    have e1 : (decide (1 ≤ x.f0) && decide (x.f0 ≤ 6)) = true := by simp; omega
                    have e2 : (decide (1 ≤ x.f2) && decide (x.f2 ≤ 2147483647)) = true := by simp; omega
                    have e3 : (decide (1 ≤ x.f1) && decide (x.f1 ≤ 4611686018427387903)) = true := by simp; omega
                    have e4 : (decide (0 ≤ x.f3) && decide (x.f3 ≤ x.f1 - 1)) = true := by simp; omega
                    rw [this, rright_j0, e1, e2, e3, e4]
                    rfl
                  | false =>
                    have : ((x.f3 == 0) != (x.f0 == 1)) = true := by simpa using hp
                    rw [this, rright_no0]
                    simp
theorem great_eq (x : S25) : quadrigalaw04_great.f x.f0 x.f1 x.f2 x.f3 x.f4 x.f5 x.f6.f0 x.f6.f1 x.f7.f0 x.f7.f1 x.f8 = some (decide (x.f5.size > 100 ∨ x.f6.f1.size > 100 ∨ x.f7.f1.size > 100)) := by
  unfold quadrigalaw04_great.f
  by_cases h1 : (x.f5.size : Int) > 100
  · rw [if_pos h1]; simp; omega
  · rw [if_neg h1]
    by_cases h2 : (x.f6.f1.size : Int) > 100
    · rw [if_pos h2]; simp; omega
    · rw [if_neg h2]; simp only [Option.some.injEq, decide_eq_decide]; omega

theorem awake13 : quadrigalaw04_awake.f 13 = some true := by kernel_rfl


abbrev Rc := S25
abbrev Vl := S23
theorem bel_go {w x y : World} (h : Below w.heap.size w x) (hb : Below x.heap.size x y) : Below w.heap.size w y := h.trans (hb.mono h.size)
def RecB (w : World) (g : Nat) (x : Rc) : Prop := w.heap[g]? = some (Obj.cells #[.int .i64 x.f0, .int .i64 x.f1, .int .i64 x.f2, .int .i64 x.f3, .int .i64 x.f4, .string x.f5, .bool x.f6.f0, .string x.f6.f1, .bool x.f7.f0, .string x.f7.f1, .int .i64 x.f8] 25 (0, 0))
def ValB (w : World) (g : Nat) (v : Vl) : Prop := w.heap[g]? = some (Obj.cells #[.bool v.f0, .string v.f1] 23 (0, 0))
/-- The three boxes. -/
structure Bxs (w : World) (g : Nat) (x y : Rc) (v : Vl) : Prop where
  a : RecB w g x
  b : RecB w (g + 1) y
  v : ValB w (g + 2) v
theorem Bxs.below {w w' : World} {g : Nat} {x y : Rc} {v : Vl} (h : Bxs w g x y v) (hb : Below w.heap.size w w') : Bxs w' g x y v := ⟨blk_below h.a hb, blk_below h.b hb, blk_below h.v hb⟩
theorem Bxs.drew {w : World} {g : Nat} {x y : Rc} {v : Vl} (h : Bxs w g x y v) : Bxs w.drew g x y v := ⟨h.a, h.b, h.v⟩
theorem RecB.cells {w : World} {g : Nat} {x : Rc} (h : RecB w g x) : w.cell? ⟨g, 0, none⟩ = some (.int .i64 x.f0) ∧ w.cell? ⟨g, 1, none⟩ = some (.int .i64 x.f1) ∧ w.cell? ⟨g, 2, none⟩ = some (.int .i64 x.f2) ∧ w.cell? ⟨g, 3, none⟩ = some (.int .i64 x.f3) ∧ w.cell? ⟨g, 4, none⟩ = some (.int .i64 x.f4) ∧ w.cell? ⟨g, 5, none⟩ = some (.string x.f5) ∧ w.cell? ⟨g, 6, none⟩ = some (.bool x.f6.f0) ∧ w.cell? ⟨g, 7, none⟩ = some (.string x.f6.f1) ∧ w.cell? ⟨g, 8, none⟩ = some (.bool x.f7.f0) ∧ w.cell? ⟨g, 9, none⟩ = some (.string x.f7.f1) ∧ w.cell? ⟨g, 10, none⟩ = some (.int .i64 x.f8) := ⟨blk_cell h 0, blk_cell h 1, blk_cell h 2, blk_cell h 3, blk_cell h 4, blk_cell h 5, blk_cell h 6, blk_cell h 7, blk_cell h 8, blk_cell h 9, blk_cell h 10⟩
theorem ValB.cells {w : World} {g : Nat} {v : Vl} (h : ValB w g v) : w.cell? ⟨g, 0, none⟩ = some (.bool v.f0) ∧ w.cell? ⟨g, 1, none⟩ = some (.string v.f1) := ⟨blk_cell h 0, blk_cell h 1⟩
def greatB (x : Rc) : Bool := decide (x.f5.size > 100 ∨ x.f6.f1.size > 100 ∨ x.f7.f1.size > 100)
theorem great_calls (x : Rc) (w : World) : Calls Tryd.prog 8 #[.agg #[.int .i64 x.f0, .int .i64 x.f1, .int .i64 x.f2, .int .i64 x.f3, .int .i64 x.f4, .string x.f5, .bool x.f6.f0, .string x.f6.f1, .bool x.f7.f0, .string x.f7.f1, .int .i64 x.f8]] w fun e w' => e = .returned (.bool (greatB x)) ∧ Below w.heap.size w w' :=
  quadrigalaw04_great.calls _ _ _ _ _ _ _ _ _ _ _ _ w (great_eq x)
theorem rright_calls (x : Rc) (w : World) (hx : -9223372036854775808 ≤ x.f1 ∧ x.f1 ≤ 9223372036854775807) : Calls Tryd.prog 11 #[.agg #[.int .i64 x.f0, .int .i64 x.f1, .int .i64 x.f2, .int .i64 x.f3, .int .i64 x.f4, .string x.f5, .bool x.f6.f0, .string x.f6.f1, .bool x.f7.f0, .string x.f7.f1, .int .i64 x.f8]] w fun e w' => e = .returned (.bool (rightB x)) ∧ Below w.heap.size w w' :=
  quadrigaref04_Right.calls 3 _ _ _ _ _ _ _ _ _ _ _ _ w (rright_eq x 0)
theorem rkey_calls (s : ByteArray) (w : World) : Calls Tryd.prog 15 #[.string s] w fun e w' => e = .returned (.bool (keyB s)) ∧ Below w.heap.size w w' :=
  (quadrigaref04_Key.calls _ _ w (rkey_eq s)).mono fun e w' h => ⟨h.1, h.2.below⟩
theorem rval_calls (v : Vl) (w : World) : Calls Tryd.prog 17 #[.agg #[.bool v.f0, .string v.f1]] w fun e w' => e = .returned (.bool (valB v)) ∧ Below w.heap.size w w' :=
  quadrigaref04_Value.calls _ _ _ w (rval_eq v)
theorem has_calls (s : ByteArray) (w : World) : Calls Tryd.prog 18 #[.string s] w fun e w' => e = .returned (.agg #[.bool true, .string s]) ∧ Below w.heap.size w w' :=
  record_Has.calls _ _ _ w rfl
theorem awake_calls (w : World) : Calls Tryd.prog 9 #[] w fun e w' => e = .returned (.bool true) ∧ Below w.heap.size w w' :=
  quadrigalaw04_awake.calls 13 _ w awake13
theorem flat_get {α : Type} {r : α → List Value} {n i : Nat} (hsz : ∀ x, (r x).length = n) (hi : i < n) {p : α} : ∀ (l : List α) (j : Nat), l[j]? = some p → (l.flatMap r)[j * n + i]? = (r p)[i]?
  | [], j, h => by simp at h
  | q :: l, 0, h => by
    obtain rfl := Option.some.inj h
    simp only [List.flatMap_cons, Nat.zero_mul, Nat.zero_add]
    rw [List.getElem?_append_left (by rw [hsz]; exact hi)]
  | q :: l, j + 1, h => by
    have ih := flat_get hsz hi l j (by simpa using h)
    simp only [List.flatMap_cons]
    rw [List.getElem?_append_right (by rw [hsz, Nat.succ_mul]; omega), hsz]
    rw [show (j + 1) * n + i - n = j * n + i by rw [Nat.succ_mul]; omega]
    exact ih
/-- A row of a block of its own. -/
theorem C_one {α : Type} {k : Kd α} {w : World} {g : Nat} {a : Array Value} {e : TypeId} {l : List α} {r : α → List Value} (hb : w.heap[g]? = some (Obj.cells a e (0, 0)))
    (hsz : ∀ x, (r x).length = k.sz) (hmk : ∀ x, k.K w x (r x)) (ha : a.toList = l.flatMap r) (hl : l.length ≤ 9223372036854775807 := by simp) : k.C w (some ⟨g, 0, none⟩) l.length l := by
  refine ⟨rfl, hl, fun _ => ⟨_, rfl, fun j p hj => ⟨_, hsz p, hmk p, fun i u hu => ?_⟩⟩⟩
  have hi : i < k.sz := by
    rw [← hsz p]
    exact (List.getElem?_eq_some_iff.1 hu).1
  have hc := blk_cell hb (j * k.sz + i)
  rw [add_plain]
  (try simp only [Nat.zero_add])
  rw [hc, ← Array.getElem?_toList, ha, flat_get hsz hi l j hj]
  exact hu
def cellsR (x : Rc) : List Value := [.int .i64 x.f0, .int .i64 x.f1, .int .i64 x.f2, .int .i64 x.f3, .int .i64 x.f4, .string x.f5, .bool x.f6.f0, .string x.f6.f1, .bool x.f7.f0, .string x.f7.f1, .int .i64 x.f8]
def cellsV (v : Vl) : List Value := [.bool v.f0, .string v.f1]
theorem right1 (x : Rc) (V : World) (g : Nat) (hg : V.heap[g]? = some (Obj.cells #[.int .i64 x.f0, .int .i64 x.f1, .int .i64 x.f2, .int .i64 x.f3, .int .i64 x.f4, .string x.f5, .bool x.f6.f0, .string x.f6.f1, .bool x.f7.f0, .string x.f7.f1, .int .i64 x.f8] 25 (0, 0))) : Calls Tryd.prog 13 #[.slice (some ⟨g, 0, none⟩) 1 1] V fun e w' => e = .returned (.bool (rightB x)) ∧ Below V.heap.size V w' :=
  record_Right.calls _ 1 [x] _ V (C_one (r := cellsR) hg (fun _ => rfl) (fun x => k25_mk V x) (by simp [cellsR])) (Nat.le_refl _) (by simp [record_Right.f])
theorem right2 (x y : Rc) (V : World) (g : Nat) (hg : V.heap[g]? = some (Obj.cells #[.int .i64 x.f0, .int .i64 x.f1, .int .i64 x.f2, .int .i64 x.f3, .int .i64 x.f4, .string x.f5, .bool x.f6.f0, .string x.f6.f1, .bool x.f7.f0, .string x.f7.f1, .int .i64 x.f8, .int .i64 y.f0, .int .i64 y.f1, .int .i64 y.f2, .int .i64 y.f3, .int .i64 y.f4, .string y.f5, .bool y.f6.f0, .string y.f6.f1, .bool y.f7.f0, .string y.f7.f1, .int .i64 y.f8] 25 (0, 0))) : Calls Tryd.prog 13 #[.slice (some ⟨g, 0, none⟩) 2 2] V fun e w' => e = .returned (.bool (rightB x && rightB y)) ∧ Below V.heap.size V w' :=
  record_Right.calls _ 2 [x, y] _ V (C_one (r := cellsR) hg (fun _ => rfl) (fun x => k25_mk V x) (by simp [cellsR])) (Nat.le_refl _) (by simp [record_Right.f])
theorem right0 (V : World) : Calls Tryd.prog 13 #[.slice none 0 0] V fun e w' => e = .returned (.bool true) ∧ Below V.heap.size V w' :=
  record_Right.calls none 0 [] _ V (Kd.C_nil _ _) (Nat.le_refl _) (by simp [record_Right.f])
theorem key1 (s : ByteArray) (V : World) (g : Nat) (hg : V.heap[g]? = some (Obj.cells #[.string s] 9 (0, 0))) : Calls Tryd.prog 14 #[.slice (some ⟨g, 0, none⟩) 1 1] V fun e w' => e = .returned (.bool (keyB s)) ∧ Below V.heap.size V w' :=
  record_Key.calls _ 1 [s] _ V (C_one (k := Kd.string) (r := fun s => [.string s]) hg (fun _ => rfl) (fun _ => rfl) (by simp)) (Nat.le_refl _) (by simp [record_Key.f])
theorem key2 (s : ByteArray) (V : World) (g : Nat) (hg : V.heap[g]? = some (Obj.cells #[.string { data := #[97] }, .string s] 9 (0, 0))) : Calls Tryd.prog 14 #[.slice (some ⟨g, 0, none⟩) 2 2] V fun e w' => e = .returned (.bool (keyB s)) ∧ Below V.heap.size V w' :=
  record_Key.calls _ 2 [{ data := #[97] }, s] _ V (C_one (k := Kd.string) (r := fun s => [.string s]) hg (fun _ => rfl) (fun _ => rfl) (by simp)) (Nat.le_refl _) (by simp [record_Key.f, show keyB { data := #[97] } = true from rfl])
theorem val1 (v : Vl) (V : World) (g : Nat) (hg : V.heap[g]? = some (Obj.cells #[.bool v.f0, .string v.f1] 23 (0, 0))) : Calls Tryd.prog 16 #[.slice (some ⟨g, 0, none⟩) 1 1] V fun e w' => e = .returned (.bool (valB v)) ∧ Below V.heap.size V w' :=
  record_Value.calls _ 1 [v] _ V (C_one (r := cellsV) hg (fun _ => rfl) (fun x => k23_mk V x) (by simp [cellsV])) (Nat.le_refl _) (by simp [record_Value.f])
theorem val2 (u v : Vl) (V : World) (g : Nat) (hg : V.heap[g]? = some (Obj.cells #[.bool u.f0, .string u.f1, .bool v.f0, .string v.f1] 23 (0, 0))) : Calls Tryd.prog 16 #[.slice (some ⟨g, 0, none⟩) 2 2] V fun e w' => e = .returned (.bool (valB u && valB v)) ∧ Below V.heap.size V w' :=
  record_Value.calls _ 2 [u, v] _ V (C_one (r := cellsV) hg (fun _ => rfl) (fun x => k23_mk V x) (by simp [cellsV])) (Nat.le_refl _) (by simp [record_Value.f])

end Go.Proofs.YtlicobfjeajcfaaDoor
