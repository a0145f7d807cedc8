/-
  record: what its functions give, in plain words: Encode's bytes, Back's record; the law's example.
-/
import Derived.Test.YtlicobfjeajcfaaDoorQ04x6
import Derived.Test.YtlicobfjeajcfaaDoorQ04x7
import Derived.Test.YtlicobfjeajcfaaDoorQ04x9
import Derived.Test.YtlicobfjeajcfaaDoorRcRight
namespace Go.Proofs.YtlicobfjeajcfaaDoor
open Go.RowKit Go.Proofs.YtlicobfjeajcfaaDoor.Q04 Go.Proofs.YtlicobfjeajcfaaDoorW.PrintWords
set_option linter.unusedVariables false
set_option linter.unusedSimpArgs false

/-- One number's bytes. -/
def numE (size : Nat) (n : Int) : ByteArray := strOfNums (putDown n size)
theorem numE_size (size : Nat) (n : Int) : (numE size n).size = size := by
  unfold numE
  rw [strOfNums_size, putDown_length]
theorem put1 (size : Nat) (n : Int) (h1 : 1 ≤ size) (h2 : size ≤ 8) (hf : fitsB size n = true) : nums_Put.f size [n] = some (numE size n) := by
  unfold nums_Put.f numE
  rw [if_pos ⟨by omega, by omega, by simp⟩]
  simp [hf, putAll]
theorem put2 (size : Nat) (n m : Int) (h1 : 1 ≤ size) (h2 : size ≤ 8) (hf : fitsB size n = true) (hg : fitsB size m = true) : nums_Put.f size [n, m] = some (strOfNums (putDown n size ++ putDown m size)) := by
  unfold nums_Put.f
  rw [if_pos ⟨by omega, by omega, by simp⟩]
  simp [hf, hg, putAll]
theorem fits_lt (size : Nat) (n : Int) (h1 : 1 ≤ size) (h2 : size ≤ 8) (h0 : 0 ≤ n) (h : n < 2 ^ (8 * size)) : fitsB size n = true := by
  unfold fitsB
  have e : (8 * (size : Int)).toNat = 8 * size := by omega
  rw [e, Int.ediv_eq_zero_of_lt h0 h]
  simp [h0]

/-- A value's bytes. -/
def valE (v : S23) : ByteArray := if v.f0 then numE 1 ((v.f1.size : Int) + 1) ++ v.f1 else ⟨#[0]⟩
theorem val_eq (v : S23) (h : valB v = true) : record_val.f v.f0 v.f1 = some (valE v) := by
  unfold valB at h
  simp only [Bool.and_eq_true, decide_eq_true_eq] at h
  unfold record_val.f valE
  cases v.f0 with
  | true =>
    rw [if_pos rfl, if_pos rfl, wrap_id _ (by omega) (by omega)]
    have := put1 1 ((v.f1.size : Int) + 1) (by omega) (by omega) (fits_lt 1 _ (by omega) (by omega) (by omega) (by omega))
    rw [show ((1 : Nat) : Int) = 1 from rfl] at this
    rw [this, Option.bind_some, if_pos (by rw [numE_size]; omega)]
  | false => rfl
theorem valE_size (v : S23) : (valE v).size = 1 + (if v.f0 then v.f1.size else 0) := by
  unfold valE
  split
  · rw [ByteArray.size_append, numE_size]
  · rfl

/-- A right record's bytes, but for its undo. -/
def headE (x : S25) : ByteArray := (numE 1 x.f0 ++ numE 4 x.f2) ++ numE 8 x.f3
def pageE (x : S25) : ByteArray := ((strOfNums (putDown x.f4 1 ++ putDown (x.f5.size : Int) 1) ++ x.f5) ++ valE x.f6) ++ valE x.f7
def bodyE (x : S25) : ByteArray := if chB x.f0 then headE x ++ pageE x else headE x
/-- A right record's bytes. -/
def encE (x : S25) : ByteArray := if x.f0 = 3 then bodyE x ++ numE 8 x.f8 else if x.f0 = 4 then bodyE x ++ numE 1 x.f8 else bodyE x

structure RightP (x : S25) : Prop where
  k1 : 1 ≤ x.f0
  k2 : x.f0 ≤ 6
  t1 : 1 ≤ x.f2
  t2 : x.f2 ≤ 2147483647
  g1 : 1 ≤ x.f1
  g2 : x.f1 ≤ 4611686018427387903
  p1 : 0 ≤ x.f3
  p2 : x.f3 < x.f1
  p3 : x.f3 = 0 ↔ x.f0 = 1
  b1 : chB x.f0 = true → 0 ≤ x.f4 ∧ x.f4 ≤ 63 ∧ keyB x.f5 = true ∧ valB x.f6 = true ∧ valB x.f7 = true ∧ (x.f6.f0 = x.f7.f0 → x.f6.f1 ≠ x.f7.f1)
  b2 : chB x.f0 = false → x.f4 = 0 ∧ x.f5 = ⟨#[]⟩ ∧ x.f6 = ⟨false, ⟨#[]⟩⟩ ∧ x.f7 = ⟨false, ⟨#[]⟩⟩
  u3 : x.f0 = 3 → 1 ≤ x.f8 ∧ x.f8 ≤ x.f3
  u4 : x.f0 = 4 → 0 ≤ x.f8 ∧ x.f8 ≤ 255
  u0 : x.f0 ≠ 3 → x.f0 ≠ 4 → x.f8 = 0

theorem toList_inj {a b : ByteArray} : a.toList = b.toList ↔ a = b := by
  rw [ByteArray.toList_eq, ByteArray.toList_eq]
  constructor
  · intro h
    cases a; cases b
    simp at h
    simp [h]
  · intro h; rw [h]

theorem empty_toList (a : ByteArray) : a.toList = [] ↔ a = ⟨#[]⟩ := by
  rw [← toList_inj (b := ⟨#[]⟩), ByteArray.toList_eq ⟨#[]⟩]

theorem body_iff1 (x : S25) (h : chB x.f0 = true) : bodyB x = true ↔ 0 ≤ x.f4 ∧ x.f4 ≤ 63 ∧ keyB x.f5 = true ∧ valB x.f6 = true ∧ valB x.f7 = true ∧ (x.f6.f0 = x.f7.f0 → x.f6.f1 ≠ x.f7.f1) := by
  unfold bodyB
  rw [if_pos h]
  simp only [withinB, Bool.and_eq_true, decide_eq_true_eq, Bool.or_eq_true, Bool.not_eq_true', beq_eq_false_iff_ne, ne_eq, toList_inj, and_assoc]
  constructor
  · rintro ⟨a, b, c, d, e, f⟩
    refine ⟨a, b, c, d, e, fun h1 h2 => ?_⟩
    rcases f with f | f
    · exact f h1
    · exact f h2
  · rintro ⟨a, b, c, d, e, f⟩
    refine ⟨a, b, c, d, e, ?_⟩
    by_cases h1 : x.f6.f0 = x.f7.f0
    · exact .inr (f h1)
    · exact .inl h1
theorem val_zero (v : S23) : (!v.f0 && (v.f1.toList == [])) = true ↔ v = ⟨false, ⟨#[]⟩⟩ := by
  obtain ⟨a, b⟩ := v
  simp only [Bool.and_eq_true, Bool.not_eq_true', beq_iff_eq, empty_toList, S23.mk.injEq]
theorem body_iff2 (x : S25) (h : chB x.f0 = false) : bodyB x = true ↔ x.f4 = 0 ∧ x.f5 = ⟨#[]⟩ ∧ x.f6 = ⟨false, ⟨#[]⟩⟩ ∧ x.f7 = ⟨false, ⟨#[]⟩⟩ := by
  unfold bodyB
  rw [if_neg (by rw [h]; decide)]
  rw [Bool.and_eq_true, Bool.and_eq_true, Bool.and_eq_true, val_zero, val_zero, decide_eq_true_eq, decide_eq_true_eq, empty_toList]

theorem right_iff (x : S25) : rightB x = true ↔ RightP x := by
  have hu : undoB x = true ↔ (x.f0 = 3 → 1 ≤ x.f8 ∧ x.f8 ≤ x.f3) ∧ (x.f0 = 4 → 0 ≤ x.f8 ∧ x.f8 ≤ 255) ∧ (x.f0 ≠ 3 → x.f0 ≠ 4 → x.f8 = 0) := by
    unfold undoB withinB
    split
    · simp; omega
    · split
      · simp; omega
      · simp; omega
  have hp : ((x.f3 == 0) == (x.f0 == 1)) = true ↔ (x.f3 = 0 ↔ x.f0 = 1) := by
    rw [beq_iff_eq, Bool.eq_iff_iff, beq_iff_eq, beq_iff_eq]
  unfold rightB
  rw [Bool.and_eq_true, Bool.and_eq_true, Bool.and_eq_true, Bool.and_eq_true, Bool.and_eq_true, Bool.and_eq_true, hu, hp]
  unfold withinB
  simp only [Bool.and_eq_true, decide_eq_true_eq]
  constructor
  · rintro ⟨⟨k1, k2⟩, ⟨t1, t2⟩, ⟨g1, g2⟩, ⟨p1, p2⟩, p3, b, u3, u4, u0⟩
    rw [wrap_id _ (by omega) (by omega)] at p2
    exact ⟨k1, k2, t1, t2, g1, g2, p1, by omega, p3, fun h => (body_iff1 x h).1 b, fun h => (body_iff2 x h).1 b, u3, u4, u0⟩
  · intro h
    have hg1 := h.g1
    have hg2 := h.g2
    have hp2 := h.p2
    rw [wrap_id _ (by omega) (by omega)]
    refine ⟨⟨h.k1, h.k2⟩, ⟨h.t1, h.t2⟩, ⟨h.g1, h.g2⟩, ⟨h.p1, by omega⟩, h.p3, ?_, h.u3, h.u4, h.u0⟩
    cases hc : chB x.f0 with
    | true => exact (body_iff1 x hc).2 (h.b1 hc)
    | false => exact (body_iff2 x hc).2 (h.b2 hc)

theorem chB_iff (k : Int) : chB k = true ↔ k = 2 ∨ k = 3 := by simp [chB]

theorem encode_eq (x : S25) (k : Nat) (h : RightP x) : record_Encode.f (k + 1) x.f0 x.f1 x.f2 x.f3 x.f4 x.f5 x.f6.f0 x.f6.f1 x.f7.f0 x.f7.f1 x.f8 = some (encE x, 0) := by
  have hr := (right_iff x).2 h
  have k1 := h.k1
  have k2 := h.k2
  have t1 := h.t1
  have t2 := h.t2
  have g2 := h.g2
  have p1 := h.p1
  have p2 := h.p2
  have e1 := put1 1 x.f0 (by omega) (by omega) (fits_lt 1 _ (by omega) (by omega) (by omega) (by omega))
  have e2 := put1 4 x.f2 (by omega) (by omega) (fits_lt 4 _ (by omega) (by omega) (by omega) (by omega))
  have e3 := put1 8 x.f3 (by omega) (by omega) (fits_lt 8 _ (by omega) (by omega) (by omega) (by omega))
  simp only [Int.natCast_one, show ((4 : Nat) : Int) = 4 from rfl, show ((8 : Nat) : Int) = 8 from rfl, show ((1 : Nat) : Int) = 1 from rfl] at e1 e2 e3
  have hj : ∀ b, b.size ≤ 1000 → record_Encode.j0 (k + 1) b x.f0 x.f1 x.f2 x.f3 x.f4 x.f5 x.f6.f0 x.f6.f1 x.f7.f0 x.f7.f1 x.f8 = some (if x.f0 = 3 then b ++ numE 8 x.f8 else if x.f0 = 4 then b ++ numE 1 x.f8 else b, 0) := by
    intro b hb
    simp only [record_Encode.j0]
    by_cases h3 : x.f0 = 3
    · have u3 := h.u3 h3
      have e4 := put1 8 x.f8 (by omega) (by omega) (fits_lt 8 _ (by omega) (by omega) (by omega) (by omega))
      rw [show ((8 : Nat) : Int) = 8 from rfl] at e4
      rw [if_pos h3, e4, Option.bind_some, if_pos (by rw [numE_size]; omega), if_pos h3]
    · by_cases h4 : x.f0 = 4
      · have u4 := h.u4 h4
        have e4 := put1 1 x.f8 (by omega) (by omega) (fits_lt 1 _ (by omega) (by omega) (by omega) (by omega))
        rw [show ((1 : Nat) : Int) = 1 from rfl] at e4
        rw [if_neg h3, if_pos h4, e4, Option.bind_some, if_pos (by rw [numE_size]; omega), if_neg h3, if_pos h4]
      · rw [if_neg h3, if_neg h4, if_neg h3, if_neg h4]
  unfold record_Encode.f
  rw [right_eq, hr, Option.bind_some, if_pos rfl, e1, Option.bind_some, e2, Option.bind_some, if_pos (by simp only [numE_size]; omega), e3, Option.bind_some,
    if_pos (by simp only [ByteArray.size_append, numE_size]; omega), changes_eq, Option.bind_some]
  unfold encE bodyE
  cases hc : chB x.f0 with
  | true =>
    obtain ⟨b1, b2, b3, b4, b5, -⟩ := h.b1 hc
    have hk : x.f5.size ≤ 8 ∧ 1 ≤ x.f5.size := by
      simp [keyB] at b3
      omega
    have e5 := put2 1 x.f4 (x.f5.size : Int) (by omega) (by omega) (fits_lt 1 _ (by omega) (by omega) (by omega) (by omega)) (fits_lt 1 _ (by omega) (by omega) (by omega) (by omega))
    rw [show ((1 : Nat) : Int) = 1 from rfl] at e5
    have s6 := valE_size x.f6
    have s7 := valE_size x.f7
    have v6 : x.f6.f1.size ≤ 16 := by simp [valB] at b4; omega
    have v7 : x.f7.f1.size ≤ 16 := by simp [valB] at b5; omega
    have s6' : (valE x.f6).size ≤ 17 := by rw [s6]; split <;> omega
    have s7' : (valE x.f7).size ≤ 17 := by rw [s7]; split <;> omega
    have s5 : (strOfNums (putDown x.f4 1 ++ putDown (x.f5.size : Int) 1)).size = 2 := by rw [strOfNums_size, List.length_append, putDown_length, putDown_length]
    rw [if_pos rfl, e5, Option.bind_some, if_pos (by rw [s5]; omega), val_eq _ b4, Option.bind_some, if_pos (by rw [ByteArray.size_append, s5]; omega), val_eq _ b5, Option.bind_some,
      if_pos (by simp only [ByteArray.size_append, s5]; omega), if_pos (by simp only [ByteArray.size_append, s5, numE_size]; omega)]
    rw [hj _ (by simp only [ByteArray.size_append, s5, numE_size]; omega), if_pos rfl]
    rfl
  | false =>
    rw [if_neg (by decide), hj _ (by simp only [ByteArray.size_append, numE_size]; omega)]
    simp only [Bool.false_eq_true, if_false]
    rfl
theorem encode_no (x : S25) (k : Nat) (h : ¬ RightP x) : record_Encode.f k x.f0 x.f1 x.f2 x.f3 x.f4 x.f5 x.f6.f0 x.f6.f1 x.f7.f0 x.f7.f1 x.f8 = some (⟨#[]⟩, 1) := by
  have hr : rightB x = false := by
    cases e : rightB x with
    | false => rfl
    | true => exact absurd ((right_iff x).1 e) h
  unfold record_Encode.f
  rw [right_eq, hr]
  rfl

/-- How many bytes a right record has. -/
theorem encE_size (x : S25) : (encE x).size = 13 + (if chB x.f0 then 2 + x.f5.size + (valE x.f6).size + (valE x.f7).size else 0) + (if x.f0 = 3 then 8 else if x.f0 = 4 then 1 else 0) := by
  have hb : (bodyE x).size = 13 + (if chB x.f0 then 2 + x.f5.size + (valE x.f6).size + (valE x.f7).size else 0) := by
    unfold bodyE headE pageE
    split
    · simp only [ByteArray.size_append, numE_size, strOfNums_size, List.length_append, putDown_length] <;> try omega
    · simp only [ByteArray.size_append, numE_size]
  unfold encE
  split
  · rw [ByteArray.size_append, hb, numE_size]
  · split
    · rw [ByteArray.size_append, hb, numE_size]
    · rw [hb]
      rfl

/-- What takes a record back. -/
def backR (x : S25) (gsn prev : Int) : S25 := ⟨3, gsn, x.f2, prev, x.f4, x.f5, x.f7, x.f6, x.f1⟩
def tupR (x : S25) : Int × Int × Int × Int × Int × ByteArray × Bool × ByteArray × Bool × ByteArray × Int := (x.f0, x.f1, x.f2, x.f3, x.f4, x.f5, x.f6.f0, x.f6.f1, x.f7.f0, x.f7.f1, x.f8)
def backE (x : S25) (gsn prev : Int) : S25 := if rightB x && (x.f0 == 2) && rightB (backR x gsn prev) then backR x gsn prev else ⟨0, 0, 0, 0, 0, ⟨#[]⟩, ⟨false, ⟨#[]⟩⟩, ⟨false, ⟨#[]⟩⟩, 0⟩
theorem back_eq (x : S25) (gsn prev : Int) (k : Nat) : record_Back.f (k + 1) x.f0 x.f1 x.f2 x.f3 x.f4 x.f5 x.f6.f0 x.f6.f1 x.f7.f0 x.f7.f1 x.f8 gsn prev = some (tupR (backE x gsn prev)) := by
  unfold record_Back.f backE
  rw [right_eq, Option.bind_some]
  have hb := right_eq (backR x gsn prev)
  cases hr : rightB x with
  | false => rfl
  | true =>
    rw [if_pos rfl]
    simp only [record_Back.j0]
    by_cases h2 : x.f0 = 2
    · rw [if_neg (by simp [h2])]
      show (record_right.f (backR x gsn prev).f0 (backR x gsn prev).f1 (backR x gsn prev).f2 (backR x gsn prev).f3 (backR x gsn prev).f4 (backR x gsn prev).f5 (backR x gsn prev).f6.f0 (backR x gsn prev).f6.f1 (backR x gsn prev).f7.f0 (backR x gsn prev).f7.f1 (backR x gsn prev).f8).bind _ = _
      rw [hb, Option.bind_some]
      cases hw : rightB (backR x gsn prev) with
      | true => simp [h2]; rfl
      | false => simp; rfl
    · rw [if_pos (by simp [h2])]
      simp [h2]
      rfl

/-- The law's example. -/
theorem awake_eq : quadrigalaw04_awake.f 10 = some true := by
  kernel_rfl
end Go.Proofs.YtlicobfjeajcfaaDoor
