/-
  Records as one log: what single.Number computes, in plain words.
-/
import Derived.Test.YtlicobfjeajcfaaQ29x4
import Derived.Test.YtlicobfjeajcfaaRcRight
import Derived.Test.YtlicobfjeajcfaaSgMap
namespace Go.Proofs.Ytlicobfjeajcfaa
open Go.RowKit Go.Proofs.Ytlicobfjeajcfaa.Q29 Go.Proofs.YtlicobfjeajcfaaW.PrintWords
set_option linter.unusedVariables false
set_option linter.unusedSimpArgs false

abbrev Rc := S79
abbrev Br := S84
abbrev kRc : Kd Rc := k79
abbrev kBr : Kd Br := k84
/-- Which of two records stands first. -/
def cmpV (a b : Int) : Int := if a < b then -1 else if a > b then 1 else 0
def ordV (a b : Br) : Int := if cmpV a.f1.f1 b.f1.f1 = 0 then cmpV a.f0 b.f0 else cmpV a.f1.f1 b.f1.f1
theorem cmp_eq (a b : Int) : cmp_Compare_int.f a b = some (cmpV a b) := by
  unfold cmp_Compare_int.f cmp_isNaN_int.f cmpV
  simp
  split <;> try rfl
  split <;> rfl
theorem or_eq (a b : Int) : cmp_Or_int.f 3 [a, b] = some (if a = 0 then b else a) := by
  unfold cmp_Or_int.f
  simp only [cmp_Or_int.l0, List.length_cons, List.length_nil]
  by_cases h : a = 0
  · subst h
    by_cases h2 : b = 0
    · subst h2
      simp [rd, wrap64]
    · simp [rd, wrap64, h2]
  · simp [rd, wrap64, h]
theorem ord_calls (a b : Br) (w : World) : Calls Try.prog 33 #[.agg #[.int .i64 a.f0, .int .i64 a.f1.f0, .int .i64 a.f1.f1, .int .i64 a.f1.f2, .int .i64 a.f1.f3, .int .i64 a.f1.f4, .string a.f1.f5, .bool a.f1.f6.f0, .string a.f1.f6.f1, .bool a.f1.f7.f0, .string a.f1.f7.f1, .int .i64 a.f1.f8], .agg #[.int .i64 b.f0, .int .i64 b.f1.f0, .int .i64 b.f1.f1, .int .i64 b.f1.f2, .int .i64 b.f1.f3, .int .i64 b.f1.f4, .string b.f1.f5, .bool b.f1.f6.f0, .string b.f1.f6.f1, .bool b.f1.f7.f0, .string b.f1.f7.f1, .int .i64 b.f1.f8]] w fun e w' => e = .returned (.int .i64 (ordV a b)) ∧ Below w.heap.size w w' := by
  refine single_order.calls 3 _ _ _ _ _ _ _ _ _ _ _ _ _ _ _ _ _ _ _ _ _ _ _ _ (ordV a b) w ?_
  unfold single_order.f
  rw [cmp_eq, cmp_eq]
  simp only [Option.bind_some, or_eq]
  rfl

/-- A place's record is right, and stands behind the one ahead. -/
def okB (l : List Br) (i : Nat) : Bool := rightB (rd_T84 l (i : Int)).f1 && (decide (i = 0) || decide (ordV (rd_T84 l ((i : Int) - 1)) (rd_T84 l (i : Int)) < 0))
structure St where
  f : Int → Int → Option Int
  none_ : Bool
  out : List Rc
def stepS (s : St) (i : Nat) (r : Rc) : St :=
  { f := putP s.f r.f2 r.f1 (i + 1),
    none_ := if r.f0 = 3 then ofN s.f r.f2 r.f8 (ofN s.f r.f2 r.f3 s.none_) else ofN s.f r.f2 r.f3 s.none_,
    out := s.out ++ [⟨r.f0, i + 1, r.f2, ofV s.f r.f2 r.f3, r.f4, r.f5, r.f6, r.f7, if r.f0 = 3 then ofV s.f r.f2 r.f8 else r.f8⟩] }
def runS (l : List Br) : Nat → St
  | 0 => ⟨fun _ _ => none, false, []⟩
  | i + 1 => stepS (runS l i) i (rd_T84 l (i : Int)).f1
theorem run_len (l : List Br) : ∀ i, (runS l i).out.length = i
  | 0 => rfl
  | i + 1 => by simp [runS, stepS, run_len l i]
/-- The first that isn't right. -/
def firstBad (l : List Br) : Nat → Nat → Option Nat
  | 0, _ => none
  | d + 1, i => if okB l i then firstBad l d (i + 1) else some i
def allB (l : List Br) : Bool := (List.range l.length).all (okB l)
theorem allB_iff (l : List Br) : allB l = true ↔ ∀ i, i < l.length → okB l i = true := by
  unfold allB
  rw [List.all_eq_true]
  constructor
  · exact fun h i hi => h i (List.mem_range.2 hi)
  · exact fun h i hi => h i (List.mem_range.1 hi)

/-- What is right is in bounds. -/
theorem right_wf (r : Rc) (h : rightB r = true) : (Lit.int .i64 r.f2).wf = true ∧ (Lit.int .i64 r.f1).wf = true ∧ (Lit.int .i64 r.f3).wf = true ∧ (r.f0 = 3 → (Lit.int .i64 r.f8).wf = true) := by
  simp only [rightB, Bool.and_eq_true, withinB, decide_eq_true_eq] at h
  obtain ⟨_, ⟨h1, h2⟩, ⟨h3, h4⟩, ⟨h5, h6⟩, _, _, hu⟩ := h
  have hw : ∀ x : Int, -9223372036854775808 ≤ x → x ≤ 9223372036854775807 → (Lit.int .i64 x).wf = true := by
    intro x a b
    simp [Lit.wf, IntKind.min, IntKind.max, IntKind.signed, IntKind.bits, a, b]
  have e : wrap64 (r.f1 - 1) = r.f1 - 1 := by unfold wrap64; omega
  rw [e] at h6
  refine ⟨hw _ (by omega) (by omega), hw _ (by omega) (by omega), hw _ (by omega) (by omega), fun h0 => ?_⟩
  simp only [undoB, h0, if_true, withinB, Bool.and_eq_true, decide_eq_true_eq] at hu
  exact hw _ (by omega) (by omega)
end Go.Proofs.Ytlicobfjeajcfaa
