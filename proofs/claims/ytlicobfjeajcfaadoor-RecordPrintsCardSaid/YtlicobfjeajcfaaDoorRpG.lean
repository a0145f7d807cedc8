/-
  RecordPrints: the plain law: what record.Print computes is the line of a right record, and nothing of one that isn't right.
-/
import Derived.Test.YtlicobfjeajcfaaDoorRpRef
import Derived.Test.YtlicobfjeajcfaaDoorQ04pg
namespace Go.Proofs.YtlicobfjeajcfaaDoor
open Go.RowKit Go.Proofs.YtlicobfjeajcfaaDoor.Q04 Go.Proofs.YtlicobfjeajcfaaDoorW.PrintWords
set_option linter.unusedVariables false
set_option linter.unusedSimpArgs false

theorem itoa_g (n : Int) (h0 : 0 ≤ n) (h1 : n ≤ 4611686018427387903) : strconv_Itoa_g.f n = some (mk (dl n)) := by
  unfold strconv_Itoa_g.f
  rw [if_pos (by omega)]
  rfl
theorem line_g (s : List UInt8) (l : List (List UInt8)) (h : l.length ≤ 1000) (hl : (Lib.join (s :: l) [32]).length ≤ 100000) : record_line.f (mk s) (l.map mk) = some (mk (Lib.join (s :: l) [32])) := by
  have e : lineL (mk s) (l.map mk) = Lib.join (s :: l) [32] := by
    unfold lineL
    congr 1
    simp only [List.map_cons, List.map_map]
    congr 1
    exact List.map_id'' (fun _ => rfl) l
  unfold record_line.f
  rw [e, if_pos ⟨by rw [List.length_map]; omega, by omega⟩]
  rfl
theorem digits_g (s : ByteArray) (h : s.size ≤ 1000) : record_digits.f s = some (mk (hexL s.data.toList)) := by
  unfold record_digits.f
  rw [if_pos (by omega)]
  rfl
theorem told_g (v : S23) (h : v.f1.size ≤ 1000) : record_told.f v.f0 v.f1 = some (mk (toldL v)) := by
  have e0 : (⟨#[118]⟩ : ByteArray) = mk [118] := rfl
  have e1 : (⟨#[45]⟩ : ByteArray) = mk [45] := rfl
  have hs : (hexL v.f1.data.toList).length ≤ 2000 := by rw [hexL_len, Array.length_toList]; have : v.f1.data.size = v.f1.size := rfl; omega
  unfold record_told.f toldL
  cases v.f0 with
  | true =>
    rw [if_pos rfl, if_pos rfl, digits_g _ h, Option.bind_some, if_pos (by rw [mk_size]; omega), e0, mk_append]
    rfl
  | false =>
    rw [if_neg (by decide), if_neg (by decide), e1]
theorem word_rd (k : Int) (h1 : 1 ≤ k) (h2 : k ≤ 6) : rdOf ByteArray.empty [(⟨#[98, 101, 103, 105, 110]⟩ : ByteArray), (⟨#[117, 112, 100, 97, 116, 101]⟩ : ByteArray), (⟨#[99, 108, 114]⟩ : ByteArray), (⟨#[115, 97, 118, 101]⟩ : ByteArray), (⟨#[99, 111, 109, 109, 105, 116]⟩ : ByteArray), (⟨#[101, 110, 100]⟩ : ByteArray)] (k - 1) = mk (wordL k) := by
  rcases kinds h1 h2 with rfl | rfl | rfl | rfl | rfl | rfl <;> rfl
theorem six_join (x : S25) : Lib.join [wordL x.f0, dl x.f2, dl x.f1, dl x.f3] [32] = six x := by
  unfold six
  simp [join_cons, join_one]
theorem page_join (x : S25) (s : List UInt8) : Lib.join [s, dl x.f4, hexL x.f5.data.toList, toldL x.f6, toldL x.f7] [32] = s ++ pageL x := by
  unfold pageL
  simp [join_cons, join_one]
theorem undo_join (s t : List UInt8) : Lib.join [s, t] [32] = s ++ [32] ++ t := by
  simp [join_cons, join_one]
theorem six_len (x : S25) (hx : RightP x) : (six x).length ≤ 600 := by
  have q0 := word_len x.f0
  have q2 := dl_len x.f2 (by have := hx.t1; omega) (by have := hx.t2; omega)
  have q1 := dl_len x.f1 (by have := hx.g1; omega) hx.g2
  have q3 := dl_len x.f3 hx.p1 (by have := hx.p2; have := hx.g2; omega)
  unfold six
  simp only [List.length_append, List.length_cons, List.length_nil]
  omega
theorem und_g (x : S25) (hx : RightP x) (s : List UInt8) (hs : s.length ≤ 9000) (t : List UInt8) (ht : t = if x.f0 = 3 ∨ x.f0 = 4 then s ++ [32] ++ dl x.f8 else s) :
    record_Printg.j0 2 (mk s) x.f0 x.f1 x.f2 x.f3 x.f4 x.f5 x.f6.f0 x.f6.f1 x.f7.f0 x.f7.f1 x.f8 = some (mk t) := by
  rw [record_Printg.j0]
  have hj : ∀ b : Bool, b = decide (x.f0 = 3 ∨ x.f0 = 4) → record_Printg.j1 1 (mk s) b x.f0 x.f1 x.f2 x.f3 x.f4 x.f5 x.f6.f0 x.f6.f1 x.f7.f0 x.f7.f1 x.f8 = some (mk t) := by
    intro b hb
    rw [record_Printg.j1]
    by_cases hk : x.f0 = 3 ∨ x.f0 = 4
    · have h8 : 0 ≤ x.f8 ∧ x.f8 ≤ 4611686018427387903 := by
        rcases hk with hk | hk
        · have := hx.u3 hk; have := hx.p2; have := hx.g2; omega
        · have := hx.u4 hk; omega
      have q8 := dl_len x.f8 h8.1 h8.2
      rw [hb, if_pos (by simpa using hk), itoa_g _ h8.1 h8.2, Option.bind_some]
      have := line_g s [dl x.f8] (by simp) (by rw [undo_join]; simp only [List.length_append, List.length_cons, List.length_nil]; omega)
      rw [undo_join] at this
      rw [show ([mk (dl x.f8)] : List ByteArray) = [dl x.f8].map mk from rfl, this, Option.bind_some, ht, if_pos hk]
    · rw [hb, if_neg (by simpa using hk), ht, if_neg hk]
  by_cases h3 : x.f0 = 3
  · rw [if_pos h3]
    exact hj true (by simp [h3])
  · rw [if_neg h3]
    refine hj _ ?_
    by_cases h4 : x.f0 = 4
    · simp [h4]
    · simp [h3, h4]
theorem printg_yes (x : S25) (hx : RightP x) : record_Printg.f 2 x.f0 x.f1 x.f2 x.f3 x.f4 x.f5 x.f6.f0 x.f6.f1 x.f7.f0 x.f7.f1 x.f8 = some (mk (lineOf x)) := by
  have k1 := hx.k1
  have k2 := hx.k2
  have hs := six_len x hx
  unfold record_Printg.f
  rw [right_eq, (right_iff x).2 hx, Option.bind_some, if_pos rfl, Option.bind_some]
  have hw : wrap64 (x.f0 - 1) = x.f0 - 1 := by unfold wrap64; omega
  rw [hw, if_pos (by omega), if_pos (by simp only [List.length_cons, List.length_nil]; omega)]
  rw [itoa_g x.f2 (by have := hx.t1; omega) (by have := hx.t2; omega), itoa_g x.f1 (by have := hx.g1; omega) hx.g2, itoa_g x.f3 hx.p1 (by have := hx.p2; have := hx.g2; omega)]
  simp only [Option.bind_some]
  rw [word_rd x.f0 k1 k2]
  have h6 := line_g (wordL x.f0) [dl x.f2, dl x.f1, dl x.f3] (by simp) (by rw [six_join]; omega)
  rw [six_join] at h6
  rw [show ([mk (dl x.f2), mk (dl x.f1), mk (dl x.f3)] : List ByteArray) = [dl x.f2, dl x.f1, dl x.f3].map mk from rfl, h6]
  simp only [Option.bind_some]
  rw [changes_eq]
  simp only [Option.bind_some]
  cases hc : chB x.f0 with
  | false =>
    rw [if_neg (by decide)]
    refine und_g x hx _ (by omega) _ ?_
    by_cases hk : x.f0 = 3 ∨ x.f0 = 4
    · rw [if_pos hk, line_nu x hc hk]
    · rw [if_neg hk, line_np x hc hk]
  | true =>
    rw [if_pos rfl]
    obtain ⟨f40, f41, hkey, hv6, hv7, _⟩ := hx.b1 hc
    have z5 : x.f5.size ≤ 8 := by simp only [keyB, Bool.and_eq_true, decide_eq_true_eq] at hkey; exact hkey.2
    have z6 : x.f6.f1.size ≤ 16 := by simp only [valB, Bool.and_eq_true, decide_eq_true_eq] at hv6; exact hv6.1
    have z7 : x.f7.f1.size ≤ 16 := by simp only [valB, Bool.and_eq_true, decide_eq_true_eq] at hv7; exact hv7.1
    have q4 := dl_len x.f4 f40 (by omega)
    have q5 : (hexL x.f5.data.toList).length ≤ 16 := by rw [hexL_len, Array.length_toList]; have : x.f5.data.size = x.f5.size := rfl; omega
    have q6 := told_len x.f6 (by omega)
    have q7 := told_len x.f7 (by omega)
    have hpl : (six x ++ pageL x).length ≤ 9000 := by
      unfold pageL
      simp only [List.length_append, List.length_cons, List.length_nil]
      omega
    rw [itoa_g x.f4 f40 (by omega), digits_g x.f5 (by omega), told_g x.f6 (by omega), told_g x.f7 (by omega)]
    simp only [Option.bind_some]
    have hp := line_g (six x) [dl x.f4, hexL x.f5.data.toList, toldL x.f6, toldL x.f7] (by simp) (by rw [page_join]; omega)
    rw [page_join] at hp
    rw [show ([mk (dl x.f4), mk (hexL x.f5.data.toList), mk (toldL x.f6), mk (toldL x.f7)] : List ByteArray) = [dl x.f4, hexL x.f5.data.toList, toldL x.f6, toldL x.f7].map mk from rfl, hp]
    simp only [Option.bind_some]
    refine und_g x hx _ hpl _ ?_
    by_cases hk : x.f0 = 3 ∨ x.f0 = 4
    · rw [if_pos hk, line_pu x hc hk]
    · rw [if_neg hk, line_pp x hc hk]
theorem printg_no (x : S25) (hx : rightB x = false) (k : Nat) : record_Printg.f k x.f0 x.f1 x.f2 x.f3 x.f4 x.f5 x.f6.f0 x.f6.f1 x.f7.f0 x.f7.f1 x.f8 = some (mk []) := by
  unfold record_Printg.f
  rw [right_eq, hx, Option.bind_some, if_neg (by decide)]
  rfl
/-- What record.Print tells. -/
def printL (x : S25) : List UInt8 := if rightB x = true then lineOf x else []
theorem printg_calls (x : S25) (w : World) (ht : TabOk w) : Calls Tryd.prog 10 #[.agg #[.int .i64 x.f0, .int .i64 x.f1, .int .i64 x.f2, .int .i64 x.f3, .int .i64 x.f4, .string x.f5, .bool x.f6.f0, .string x.f6.f1, .bool x.f7.f0, .string x.f7.f1, .int .i64 x.f8]] w fun e w' => e = .returned (.string (mk (printL x))) ∧ Below w.heap.size w w' := by
  refine record_Printg.calls 2 _ _ _ _ _ _ _ _ _ _ _ _ w ht ?_
  unfold printL
  cases h : rightB x with
  | true => rw [if_pos rfl]; exact printg_yes x ((right_iff x).1 h)
  | false => rw [if_neg (by decide)]; exact printg_no x h 2
theorem line_ne (x : S25) : lineOf x ≠ [] := by
  have hw : wordL x.f0 ≠ [] := by
    unfold wordL
    repeat' split
    all_goals decide
  unfold lineOf words
  rw [join_cons]
  simp
theorem print_law (a b : S25) : printL a = [] ∨ printL b = [] ∨ (printL a = printL b ↔ a = b) := by
  unfold printL
  cases ha : rightB a with
  | false => left; rfl
  | true =>
    cases hb : rightB b with
    | false => right; left; rfl
    | true =>
      right; right
      rw [if_pos rfl, if_pos rfl]
      by_cases e : a = b
      · simp [e]
      · have : lineOf a ≠ lineOf b := fun h => e (line_inj a b ha hb h)
        simp [e, this]
end Go.Proofs.YtlicobfjeajcfaaDoor
