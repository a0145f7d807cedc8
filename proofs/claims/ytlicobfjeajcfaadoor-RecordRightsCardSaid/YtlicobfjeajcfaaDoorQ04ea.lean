-- Written by a program of this session (wip/bin/stubprint.py) out of the translation; not trusted: Lean checks it.
import Derived.Test.YtlicobfjeajcfaaDoorQ04x0
import Derived.Test.YtlicobfjeajcfaaDoorWInv
import Derived.Test.YtlicobfjeajcfaaDoorQ04x2
import Derived.Test.YtlicobfjeajcfaaDoorQ04x5
import Derived.Test.YtlicobfjeajcfaaDoorRcPut
namespace Go.Proofs.YtlicobfjeajcfaaDoor.Q04
open Go.RowKit Go.Proofs.YtlicobfjeajcfaaDoorW.PrintWords Go.Proofs.YtlicobfjeajcfaaDoorW.PrintLast Go.Proofs.YtlicobfjeajcfaaDoorW.PrintMore
attribute [local go_sem] max2_int min2_int max_two min_two max_three min_three max_four min_four   -- for this text's walks alone
set_option linter.unusedVariables false
set_option linter.unusedSimpArgs false

/-! ### record_Encode: function 20 -/
def record_Encode.j0 : Nat → ByteArray → Int → Int → Int → Int → Int → ByteArray → Bool → ByteArray → Bool → ByteArray → Int → Option (ByteArray × Int)
  | 0, _, _, _, _, _, _, _, _, _, _, _, _ => none
  | k + 1, x4, x178000, x178001, x178002, x178003, x178004, x178005, x178006, x178007, x178008, x178009, x178010 => if x178000 = 3 then ((nums_Put.f 8 (([x178010] : List Int))).bind fun t201 => (if x4.size + t201.size ≤ 9223372036854775807 then (some (x4 ++ t201, 0)) else (none))) else (if x178000 = 4 then ((nums_Put.f 1 (([x178010] : List Int))).bind fun t205 => (if x4.size + t205.size ≤ 9223372036854775807 then (some (x4 ++ t205, 0)) else (none))) else (some (x4, 0)))
def record_Encode.f (k : Nat) (a0_0 : Int) (a0_1 : Int) (a0_2 : Int) (a0_3 : Int) (a0_4 : Int) (a0_5 : ByteArray) (a0_6 : Bool) (a0_7 : ByteArray) (a0_8 : Bool) (a0_9 : ByteArray) (a0_10 : Int) : Option (ByteArray × Int) := (record_right.f a0_0 a0_1 a0_2 a0_3 a0_4 a0_5 a0_6 a0_7 a0_8 a0_9 a0_10).bind fun t178 => (if t178 = true then ((nums_Put.f 1 (([a0_0] : List Int))).bind fun t182 => ((nums_Put.f 4 (([a0_2] : List Int))).bind fun t186 => (if t182.size + t186.size ≤ 9223372036854775807 then ((nums_Put.f 8 (([a0_3] : List Int))).bind fun t190 => (if (t182 ++ t186).size + t190.size ≤ 9223372036854775807 then ((record_changes.f a0_0).bind fun t191 => (if t191 = true then ((nums_Put.f 1 (([a0_4, (a0_5.size : Int)] : List Int))).bind fun t195 => (if t195.size + a0_5.size ≤ 9223372036854775807 then ((record_val.f a0_6 a0_7).bind fun t196 => (if (t195 ++ a0_5).size + t196.size ≤ 9223372036854775807 then ((record_val.f a0_8 a0_9).bind fun t197 => (if ((t195 ++ a0_5) ++ t196).size + t197.size ≤ 9223372036854775807 then (if ((t182 ++ t186) ++ t190).size + (((t195 ++ a0_5) ++ t196) ++ t197).size ≤ 9223372036854775807 then (record_Encode.j0 k (((t182 ++ t186) ++ t190) ++ (((t195 ++ a0_5) ++ t196) ++ t197)) a0_0 a0_1 a0_2 a0_3 a0_4 a0_5 a0_6 a0_7 a0_8 a0_9 a0_10) else (none)) else (none))) else (none))) else (none))) else (record_Encode.j0 k ((t182 ++ t186) ++ t190) a0_0 a0_1 a0_2 a0_3 a0_4 a0_5 a0_6 a0_7 a0_8 a0_9 a0_10))) else (none))) else (none)))) else (some ((⟨#[]⟩ : ByteArray), 1)))
def record_Encode.T3 : Bool × List (List Nat × List Nat) := (true, [([], []), ([0], [0]), ([1], [1]), ([2], [2]), ([], []), ([4], [4]), ([5], [5]), ([6, 3], [6]), ([3, 7], [3, 7]), ([], []), ([9], [9]), ([10], [10]), ([11, 7], [11]), ([8, 12], [8, 12]), ([13, 12, 0, 1, 2, 3, 4, 5, 6, 7, 8, 9, 10, 11, 12, 13], [13])])
def record_Encode.B3 : List Nat := [0, 1, 3, 7, 0, 16, 48, 127, 255, 0, 512, 1536, 3839, 8191, 16383]
theorem record_Encode.tab3 : rtab .any (opsOf Tryd.f20 3) = record_Encode.T3 := by kernel_rfl
theorem record_Encode.bits3 : waitsOk record_Encode.T3.2 record_Encode.B3 = true := by kernel_rfl
def record_Encode.T5 : Bool × List (List Nat × List Nat) := (true, [([], []), ([], []), ([1], [1]), ([], []), ([3], [3]), ([4], [4]), ([2, 5], [2, 5]), ([6], [6]), ([], []), ([8], [8]), ([7, 9], [7, 9]), ([], []), ([11], [11]), ([12, 7], [12]), ([10, 13], [10, 13]), ([], []), ([15], [15]), ([16, 13], [16]), ([14, 17], [14, 17]), ([0, 18], [0, 18]), ([19, 17, 0, 1, 2, 3, 4, 5, 6, 7, 8, 9, 10, 11, 12, 13, 14, 15, 16, 17, 18, 19], [0, 19])])
def record_Encode.B5 : List Nat := [0, 0, 2, 0, 8, 24, 62, 126, 0, 256, 1022, 0, 2048, 6398, 16382, 0, 32768, 112894, 262142, 524287, 1048575]
theorem record_Encode.tab5 : rtab .any (opsOf Tryd.f20 5) = record_Encode.T5 := by kernel_rfl
theorem record_Encode.bits5 : waitsOk record_Encode.T5.2 record_Encode.B5 = true := by kernel_rfl
set_option maxHeartbeats 8000000 in
set_option maxRecDepth 100000 in
theorem record_Encode.calls1 (k : Nat) (a0_0 : Int) (a0_1 : Int) (a0_2 : Int) (a0_3 : Int) (a0_4 : Int) (a0_5 : ByteArray) (a0_6 : Bool) (a0_7 : ByteArray) (a0_8 : Bool) (a0_9 : ByteArray) (a0_10 : Int) (r1 : ByteArray) (r2 : Int) (hkind : Aside0 (a0_0 = 1)) (w : World) (h : record_Encode.f k a0_0 a0_1 a0_2 a0_3 a0_4 a0_5 a0_6 a0_7 a0_8 a0_9 a0_10 = some (r1, r2)) :
    Calls Tryd.prog 20 #[.agg #[.int .i64 a0_0, .int .i64 a0_1, .int .i64 a0_2, .int .i64 a0_3, .int .i64 a0_4, .string a0_5, .bool a0_6, .string a0_7, .bool a0_8, .string a0_9, .int .i64 a0_10]] w fun e w' => e = .returned (.tuple #[.string r1, .int .i64 r2]) ∧ Below w.heap.size w w' := by
  have hu25 := Tryd.underlying25
  have hu23 := Tryd.underlying23
  have HB := Aside0.mk (Below.refl w.heap.size w)
  have H : ((record_right.f a0_0 a0_1 a0_2 a0_3 a0_4 a0_5 a0_6 a0_7 a0_8 a0_9 a0_10).bind fun t178 => (if t178 = true then ((nums_Put.f 1 (([a0_0] : List Int))).bind fun t182 => ((nums_Put.f 4 (([a0_2] : List Int))).bind fun t186 => (if t182.size + t186.size ≤ 9223372036854775807 then ((nums_Put.f 8 (([a0_3] : List Int))).bind fun t190 => (if (t182 ++ t186).size + t190.size ≤ 9223372036854775807 then ((record_changes.f a0_0).bind fun t191 => (if t191 = true then ((nums_Put.f 1 (([a0_4, (a0_5.size : Int)] : List Int))).bind fun t195 => (if t195.size + a0_5.size ≤ 9223372036854775807 then ((record_val.f a0_6 a0_7).bind fun t196 => (if (t195 ++ a0_5).size + t196.size ≤ 9223372036854775807 then ((record_val.f a0_8 a0_9).bind fun t197 => (if ((t195 ++ a0_5) ++ t196).size + t197.size ≤ 9223372036854775807 then (if ((t182 ++ t186) ++ t190).size + (((t195 ++ a0_5) ++ t196) ++ t197).size ≤ 9223372036854775807 then (record_Encode.j0 k (((t182 ++ t186) ++ t190) ++ (((t195 ++ a0_5) ++ t196) ++ t197)) a0_0 a0_1 a0_2 a0_3 a0_4 a0_5 a0_6 a0_7 a0_8 a0_9 a0_10) else (none)) else (none))) else (none))) else (none))) else (record_Encode.j0 k ((t182 ++ t186) ++ t190) a0_0 a0_1 a0_2 a0_3 a0_4 a0_5 a0_6 a0_7 a0_8 a0_9 a0_10))) else (none))) else (none)))) else (some ((⟨#[]⟩ : ByteArray), 1)))) = some (r1, r2) := h
  clear h
  replace H := Option.bind_eq_some_iff.mp H
  obtain ⟨t178, A20, H⟩ := H
  replace H : (if t178 = true then ((nums_Put.f 1 (([a0_0] : List Int))).bind fun t182 => ((nums_Put.f 4 (([a0_2] : List Int))).bind fun t186 => (if t182.size + t186.size ≤ 9223372036854775807 then ((nums_Put.f 8 (([a0_3] : List Int))).bind fun t190 => (if (t182 ++ t186).size + t190.size ≤ 9223372036854775807 then ((record_changes.f a0_0).bind fun t191 => (if t191 = true then ((nums_Put.f 1 (([a0_4, (a0_5.size : Int)] : List Int))).bind fun t195 => (if t195.size + a0_5.size ≤ 9223372036854775807 then ((record_val.f a0_6 a0_7).bind fun t196 => (if (t195 ++ a0_5).size + t196.size ≤ 9223372036854775807 then ((record_val.f a0_8 a0_9).bind fun t197 => (if ((t195 ++ a0_5) ++ t196).size + t197.size ≤ 9223372036854775807 then (if ((t182 ++ t186) ++ t190).size + (((t195 ++ a0_5) ++ t196) ++ t197).size ≤ 9223372036854775807 then (record_Encode.j0 k (((t182 ++ t186) ++ t190) ++ (((t195 ++ a0_5) ++ t196) ++ t197)) a0_0 a0_1 a0_2 a0_3 a0_4 a0_5 a0_6 a0_7 a0_8 a0_9 a0_10) else (none)) else (none))) else (none))) else (none))) else (record_Encode.j0 k ((t182 ++ t186) ++ t190) a0_0 a0_1 a0_2 a0_3 a0_4 a0_5 a0_6 a0_7 a0_8 a0_9 a0_10))) else (none))) else (none)))) else (some ((⟨#[]⟩ : ByteArray), 1))) = some (r1, r2) := H
  have A2 := Aside0.mk A20
  clear A20
  by_cases c3 : t178 = true
  · subst c3
    have H1 : ((nums_Put.f 1 (([a0_0] : List Int))).bind fun t182 => ((nums_Put.f 4 (([a0_2] : List Int))).bind fun t186 => (if t182.size + t186.size ≤ 9223372036854775807 then ((nums_Put.f 8 (([a0_3] : List Int))).bind fun t190 => (if (t182 ++ t186).size + t190.size ≤ 9223372036854775807 then ((record_changes.f a0_0).bind fun t191 => (if t191 = true then ((nums_Put.f 1 (([a0_4, (a0_5.size : Int)] : List Int))).bind fun t195 => (if t195.size + a0_5.size ≤ 9223372036854775807 then ((record_val.f a0_6 a0_7).bind fun t196 => (if (t195 ++ a0_5).size + t196.size ≤ 9223372036854775807 then ((record_val.f a0_8 a0_9).bind fun t197 => (if ((t195 ++ a0_5) ++ t196).size + t197.size ≤ 9223372036854775807 then (if ((t182 ++ t186) ++ t190).size + (((t195 ++ a0_5) ++ t196) ++ t197).size ≤ 9223372036854775807 then (record_Encode.j0 k (((t182 ++ t186) ++ t190) ++ (((t195 ++ a0_5) ++ t196) ++ t197)) a0_0 a0_1 a0_2 a0_3 a0_4 a0_5 a0_6 a0_7 a0_8 a0_9 a0_10) else (none)) else (none))) else (none))) else (none))) else (record_Encode.j0 k ((t182 ++ t186) ++ t190) a0_0 a0_1 a0_2 a0_3 a0_4 a0_5 a0_6 a0_7 a0_8 a0_9 a0_10))) else (none))) else (none)))) = some (r1, r2) := by rw [if_pos rfl] at H; exact H
    clear H
    have H := H1
    clear H1
    obtain ⟨y179, hy179⟩ : ∃ y_ : List Int, y_ = (([a0_0] : List Int)) := ⟨_, rfl⟩
    replace H : ((nums_Put.f 1 y179).bind fun t182 => ((nums_Put.f 4 (([a0_2] : List Int))).bind fun t186 => (if t182.size + t186.size ≤ 9223372036854775807 then ((nums_Put.f 8 (([a0_3] : List Int))).bind fun t190 => (if (t182 ++ t186).size + t190.size ≤ 9223372036854775807 then ((record_changes.f a0_0).bind fun t191 => (if t191 = true then ((nums_Put.f 1 (([a0_4, (a0_5.size : Int)] : List Int))).bind fun t195 => (if t195.size + a0_5.size ≤ 9223372036854775807 then ((record_val.f a0_6 a0_7).bind fun t196 => (if (t195 ++ a0_5).size + t196.size ≤ 9223372036854775807 then ((record_val.f a0_8 a0_9).bind fun t197 => (if ((t195 ++ a0_5) ++ t196).size + t197.size ≤ 9223372036854775807 then (if ((t182 ++ t186) ++ t190).size + (((t195 ++ a0_5) ++ t196) ++ t197).size ≤ 9223372036854775807 then (record_Encode.j0 k (((t182 ++ t186) ++ t190) ++ (((t195 ++ a0_5) ++ t196) ++ t197)) a0_0 a0_1 a0_2 a0_3 a0_4 a0_5 a0_6 a0_7 a0_8 a0_9 a0_10) else (none)) else (none))) else (none))) else (none))) else (record_Encode.j0 k ((t182 ++ t186) ++ t190) a0_0 a0_1 a0_2 a0_3 a0_4 a0_5 a0_6 a0_7 a0_8 a0_9 a0_10))) else (none))) else (none)))) = some (r1, r2) := by first | (rw [hy179]; with_reducible exact H) | (have H2_ := (Option.bind_some _ _).symm.trans H; rw [hy179]; with_reducible exact H2_) | (have H2_ := (Option.bind_some _ _).symm.trans H; with_reducible exact H2_) | with_reducible exact H | (rw [hy179]; exact H) | exact H
    have Ny179 := Aside0.mk hy179
    clear hy179
    replace H := Option.bind_eq_some_iff.mp H
    obtain ⟨t182, A40, H⟩ := H
    replace H : ((nums_Put.f 4 (([a0_2] : List Int))).bind fun t186 => (if t182.size + t186.size ≤ 9223372036854775807 then ((nums_Put.f 8 (([a0_3] : List Int))).bind fun t190 => (if (t182 ++ t186).size + t190.size ≤ 9223372036854775807 then ((record_changes.f a0_0).bind fun t191 => (if t191 = true then ((nums_Put.f 1 (([a0_4, (a0_5.size : Int)] : List Int))).bind fun t195 => (if t195.size + a0_5.size ≤ 9223372036854775807 then ((record_val.f a0_6 a0_7).bind fun t196 => (if (t195 ++ a0_5).size + t196.size ≤ 9223372036854775807 then ((record_val.f a0_8 a0_9).bind fun t197 => (if ((t195 ++ a0_5) ++ t196).size + t197.size ≤ 9223372036854775807 then (if ((t182 ++ t186) ++ t190).size + (((t195 ++ a0_5) ++ t196) ++ t197).size ≤ 9223372036854775807 then (record_Encode.j0 k (((t182 ++ t186) ++ t190) ++ (((t195 ++ a0_5) ++ t196) ++ t197)) a0_0 a0_1 a0_2 a0_3 a0_4 a0_5 a0_6 a0_7 a0_8 a0_9 a0_10) else (none)) else (none))) else (none))) else (none))) else (record_Encode.j0 k ((t182 ++ t186) ++ t190) a0_0 a0_1 a0_2 a0_3 a0_4 a0_5 a0_6 a0_7 a0_8 a0_9 a0_10))) else (none))) else (none))) = some (r1, r2) := H
    have A4 := Aside0.mk A40
    clear A40
    obtain ⟨y183, hy183⟩ : ∃ y_ : List Int, y_ = (([a0_2] : List Int)) := ⟨_, rfl⟩
    replace H : ((nums_Put.f 4 y183).bind fun t186 => (if t182.size + t186.size ≤ 9223372036854775807 then ((nums_Put.f 8 (([a0_3] : List Int))).bind fun t190 => (if (t182 ++ t186).size + t190.size ≤ 9223372036854775807 then ((record_changes.f a0_0).bind fun t191 => (if t191 = true then ((nums_Put.f 1 (([a0_4, (a0_5.size : Int)] : List Int))).bind fun t195 => (if t195.size + a0_5.size ≤ 9223372036854775807 then ((record_val.f a0_6 a0_7).bind fun t196 => (if (t195 ++ a0_5).size + t196.size ≤ 9223372036854775807 then ((record_val.f a0_8 a0_9).bind fun t197 => (if ((t195 ++ a0_5) ++ t196).size + t197.size ≤ 9223372036854775807 then (if ((t182 ++ t186) ++ t190).size + (((t195 ++ a0_5) ++ t196) ++ t197).size ≤ 9223372036854775807 then (record_Encode.j0 k (((t182 ++ t186) ++ t190) ++ (((t195 ++ a0_5) ++ t196) ++ t197)) a0_0 a0_1 a0_2 a0_3 a0_4 a0_5 a0_6 a0_7 a0_8 a0_9 a0_10) else (none)) else (none))) else (none))) else (none))) else (record_Encode.j0 k ((t182 ++ t186) ++ t190) a0_0 a0_1 a0_2 a0_3 a0_4 a0_5 a0_6 a0_7 a0_8 a0_9 a0_10))) else (none))) else (none))) = some (r1, r2) := by first | (rw [hy183]; with_reducible exact H) | (have H2_ := (Option.bind_some _ _).symm.trans H; rw [hy183]; with_reducible exact H2_) | (have H2_ := (Option.bind_some _ _).symm.trans H; with_reducible exact H2_) | with_reducible exact H | (rw [hy183]; exact H) | exact H
    have Ny183 := Aside0.mk hy183
    clear hy183
    replace H := Option.bind_eq_some_iff.mp H
    obtain ⟨t186, A50, H⟩ := H
    replace H : (if t182.size + t186.size ≤ 9223372036854775807 then ((nums_Put.f 8 (([a0_3] : List Int))).bind fun t190 => (if (t182 ++ t186).size + t190.size ≤ 9223372036854775807 then ((record_changes.f a0_0).bind fun t191 => (if t191 = true then ((nums_Put.f 1 (([a0_4, (a0_5.size : Int)] : List Int))).bind fun t195 => (if t195.size + a0_5.size ≤ 9223372036854775807 then ((record_val.f a0_6 a0_7).bind fun t196 => (if (t195 ++ a0_5).size + t196.size ≤ 9223372036854775807 then ((record_val.f a0_8 a0_9).bind fun t197 => (if ((t195 ++ a0_5) ++ t196).size + t197.size ≤ 9223372036854775807 then (if ((t182 ++ t186) ++ t190).size + (((t195 ++ a0_5) ++ t196) ++ t197).size ≤ 9223372036854775807 then (record_Encode.j0 k (((t182 ++ t186) ++ t190) ++ (((t195 ++ a0_5) ++ t196) ++ t197)) a0_0 a0_1 a0_2 a0_3 a0_4 a0_5 a0_6 a0_7 a0_8 a0_9 a0_10) else (none)) else (none))) else (none))) else (none))) else (record_Encode.j0 k ((t182 ++ t186) ++ t190) a0_0 a0_1 a0_2 a0_3 a0_4 a0_5 a0_6 a0_7 a0_8 a0_9 a0_10))) else (none))) else (none)) = some (r1, r2) := H
    have A5 := Aside0.mk A50
    clear A50
    by_cases c6 : t182.size + t186.size ≤ 9223372036854775807
    · rw [if_pos c6] at H
      have c6b0 := eq_true c6
      try (have c6s := c6; simp only [ByteArray.size_append] at c6s; have c6m := eq_false (Nat.not_lt.2 c6s); have c6t := eq_true c6s)
      have c6b1 : decide (t182.size + t186.size ≤ 9223372036854775807) = true := decide_eq_true c6
      try have c6b2 : (9223372036854775807 < t182.size + t186.size) = False := eq_false (Nat.not_lt.2 c6)
      obtain ⟨y187, hy187⟩ : ∃ y_ : List Int, y_ = (([a0_3] : List Int)) := ⟨_, rfl⟩
      replace H : ((nums_Put.f 8 y187).bind fun t190 => (if (t182 ++ t186).size + t190.size ≤ 9223372036854775807 then ((record_changes.f a0_0).bind fun t191 => (if t191 = true then ((nums_Put.f 1 (([a0_4, (a0_5.size : Int)] : List Int))).bind fun t195 => (if t195.size + a0_5.size ≤ 9223372036854775807 then ((record_val.f a0_6 a0_7).bind fun t196 => (if (t195 ++ a0_5).size + t196.size ≤ 9223372036854775807 then ((record_val.f a0_8 a0_9).bind fun t197 => (if ((t195 ++ a0_5) ++ t196).size + t197.size ≤ 9223372036854775807 then (if ((t182 ++ t186) ++ t190).size + (((t195 ++ a0_5) ++ t196) ++ t197).size ≤ 9223372036854775807 then (record_Encode.j0 k (((t182 ++ t186) ++ t190) ++ (((t195 ++ a0_5) ++ t196) ++ t197)) a0_0 a0_1 a0_2 a0_3 a0_4 a0_5 a0_6 a0_7 a0_8 a0_9 a0_10) else (none)) else (none))) else (none))) else (none))) else (record_Encode.j0 k ((t182 ++ t186) ++ t190) a0_0 a0_1 a0_2 a0_3 a0_4 a0_5 a0_6 a0_7 a0_8 a0_9 a0_10))) else (none))) = some (r1, r2) := by first | (rw [hy187]; with_reducible exact H) | (have H2_ := (Option.bind_some _ _).symm.trans H; rw [hy187]; with_reducible exact H2_) | (have H2_ := (Option.bind_some _ _).symm.trans H; with_reducible exact H2_) | with_reducible exact H | (rw [hy187]; exact H) | exact H
      have Ny187 := Aside0.mk hy187
      clear hy187
      replace H := Option.bind_eq_some_iff.mp H
      obtain ⟨t190, A70, H⟩ := H
      replace H : (if (t182 ++ t186).size + t190.size ≤ 9223372036854775807 then ((record_changes.f a0_0).bind fun t191 => (if t191 = true then ((nums_Put.f 1 (([a0_4, (a0_5.size : Int)] : List Int))).bind fun t195 => (if t195.size + a0_5.size ≤ 9223372036854775807 then ((record_val.f a0_6 a0_7).bind fun t196 => (if (t195 ++ a0_5).size + t196.size ≤ 9223372036854775807 then ((record_val.f a0_8 a0_9).bind fun t197 => (if ((t195 ++ a0_5) ++ t196).size + t197.size ≤ 9223372036854775807 then (if ((t182 ++ t186) ++ t190).size + (((t195 ++ a0_5) ++ t196) ++ t197).size ≤ 9223372036854775807 then (record_Encode.j0 k (((t182 ++ t186) ++ t190) ++ (((t195 ++ a0_5) ++ t196) ++ t197)) a0_0 a0_1 a0_2 a0_3 a0_4 a0_5 a0_6 a0_7 a0_8 a0_9 a0_10) else (none)) else (none))) else (none))) else (none))) else (record_Encode.j0 k ((t182 ++ t186) ++ t190) a0_0 a0_1 a0_2 a0_3 a0_4 a0_5 a0_6 a0_7 a0_8 a0_9 a0_10))) else (none)) = some (r1, r2) := H
      have A7 := Aside0.mk A70
      clear A70
      by_cases c8 : (t182 ++ t186).size + t190.size ≤ 9223372036854775807
      · rw [if_pos c8] at H
        have c8b0 := eq_true c8
        try (have c8s := c8; simp only [ByteArray.size_append] at c8s; have c8m := eq_false (Nat.not_lt.2 c8s); have c8t := eq_true c8s)
        have c8b1 : decide ((t182 ++ t186).size + t190.size ≤ 9223372036854775807) = true := decide_eq_true c8
        try have c8b2 : (9223372036854775807 < (t182 ++ t186).size + t190.size) = False := eq_false (Nat.not_lt.2 c8)
        replace H := Option.bind_eq_some_iff.mp H
        obtain ⟨t191, A90, H⟩ := H
        replace H : (if t191 = true then ((nums_Put.f 1 (([a0_4, (a0_5.size : Int)] : List Int))).bind fun t195 => (if t195.size + a0_5.size ≤ 9223372036854775807 then ((record_val.f a0_6 a0_7).bind fun t196 => (if (t195 ++ a0_5).size + t196.size ≤ 9223372036854775807 then ((record_val.f a0_8 a0_9).bind fun t197 => (if ((t195 ++ a0_5) ++ t196).size + t197.size ≤ 9223372036854775807 then (if ((t182 ++ t186) ++ t190).size + (((t195 ++ a0_5) ++ t196) ++ t197).size ≤ 9223372036854775807 then (record_Encode.j0 k (((t182 ++ t186) ++ t190) ++ (((t195 ++ a0_5) ++ t196) ++ t197)) a0_0 a0_1 a0_2 a0_3 a0_4 a0_5 a0_6 a0_7 a0_8 a0_9 a0_10) else (none)) else (none))) else (none))) else (none))) else (record_Encode.j0 k ((t182 ++ t186) ++ t190) a0_0 a0_1 a0_2 a0_3 a0_4 a0_5 a0_6 a0_7 a0_8 a0_9 a0_10)) = some (r1, r2) := H
        have A9 := Aside0.mk A90
        clear A90
        have HC10 := Aside0.mk H
        clear H
        go_enter Tryd.func20, Tryd.ntmps20
        try go_wp2_with (first | ((with_reducible refine gate_dst (N := 1) rfl ?_); refine box_event ?hg (N := 1) ?hd (cs := #[.int .i64 a0_0, .int .i64 a0_1, .int .i64 a0_2, .int .i64 a0_3, .int .i64 a0_4, .string a0_5, .bool a0_6, .string a0_7, .bool a0_8, .string a0_9, .int .i64 a0_10]) (t := 25) ?hr ?_; (case hd => rfl); (case hg => rfl); (case hr => first | (go_simp; done) | (go_simp; rfl)); intro gb177 hg w11 hbox hb; have n0_ := Aside0.mk (below_step (by repeat (first | (with_reducible first | exact HB.out | apply below_alloc | apply pw_below_drewN | apply below_drew1) | exact HB.out)) hb); have n1_ := Aside0.mk (hbox); have n2_ := Aside0.mk ((by rw [hg]; exact (below_size (by repeat (first | (with_reducible first | exact HB.out | apply below_alloc | apply pw_below_drewN | apply below_drew1) | exact HB.out))) : w.heap.size ≤ gb177)); have n3_ := Aside0.mk ((by rw [hg]; exact (below_size (by repeat (first | (with_reducible first | exact HB.out | apply below_alloc | apply pw_below_drewN | apply below_drew1) | exact HB.out))) : w.heap.size ≤ gb177)); clear HB; have HB := n0_; have BK177 := n1_; have GW177 := n2_; have GE177 := n3_; clear n0_ n1_ n2_ n3_; clear hb hbox hg; have hcz12_0 : w11.cell? ⟨gb177, 0, none⟩ = some (.int .i64 a0_0) := (blk_cell BK177.out 0).trans rfl; have hcz12_1 : w11.cell? ⟨gb177, 1, none⟩ = some (.int .i64 a0_1) := (blk_cell BK177.out 1).trans rfl; have hcz12_2 : w11.cell? ⟨gb177, 2, none⟩ = some (.int .i64 a0_2) := (blk_cell BK177.out 2).trans rfl; have hcz12_3 : w11.cell? ⟨gb177, 3, none⟩ = some (.int .i64 a0_3) := (blk_cell BK177.out 3).trans rfl; have hcz12_4 : w11.cell? ⟨gb177, 4, none⟩ = some (.int .i64 a0_4) := (blk_cell BK177.out 4).trans rfl; have hcz12_5 : w11.cell? ⟨gb177, 5, none⟩ = some (.string a0_5) := (blk_cell BK177.out 5).trans rfl; have hcz12_6 : w11.cell? ⟨gb177, 6, none⟩ = some (.bool a0_6) := (blk_cell BK177.out 6).trans rfl; have hcz12_7 : w11.cell? ⟨gb177, 7, none⟩ = some (.string a0_7) := (blk_cell BK177.out 7).trans rfl; have hcz12_8 : w11.cell? ⟨gb177, 8, none⟩ = some (.bool a0_8) := (blk_cell BK177.out 8).trans rfl; have hcz12_9 : w11.cell? ⟨gb177, 9, none⟩ = some (.string a0_9) := (blk_cell BK177.out 9).trans rfl; have hcz12_10 : w11.cell? ⟨gb177, 10, none⟩ = some (.int .i64 a0_10) := (blk_cell BK177.out 10).trans rfl; have hfz12_0 := blk_frozen BK177.out 0; have hfz12_1 := blk_frozen BK177.out 1; have hfz12_2 := blk_frozen BK177.out 2; have hfz12_3 := blk_frozen BK177.out 3; have hfz12_4 := blk_frozen BK177.out 4; have hfz12_5 := blk_frozen BK177.out 5; have hfz12_6 := blk_frozen BK177.out 6; have hfz12_7 := blk_frozen BK177.out 7; have hfz12_8 := blk_frozen BK177.out 8; have hfz12_9 := blk_frozen BK177.out 9; have hfz12_10 := blk_frozen BK177.out 10) | ((with_reducible refine gate_callee (f := 24) rfl ?_); refine goesL_ (some 6) rfl rfl Tryd.func24 (by kernel_rfl) rfl #[.agg #[.int .i64 a0_0, .int .i64 a0_1, .int .i64 a0_2, .int .i64 a0_3, .int .i64 a0_4, .string a0_5, .bool a0_6, .string a0_7, .bool a0_8, .string a0_9, .int .i64 a0_10]] rfl (by (try simp only [List.map_toArray, List.map_cons, List.map_nil]); first | done | rfl | (simp only [List.length_drop, List.length_take]; rfl)) ?_; (with_reducible refine (record_right.calls a0_0 a0_1 a0_2 a0_3 a0_4 a0_5 a0_6 a0_7 a0_8 a0_9 a0_10 true _ A2.out).mono ?_); rintro e w13 ⟨rfl, hb⟩; refine ⟨_, rfl, ?_⟩; have n0_ := Aside0.mk (blk_below (g := gb177) (o := .cells #[.int .i64 a0_0, .int .i64 a0_1, .int .i64 a0_2, .int .i64 a0_3, .int .i64 a0_4, .string a0_5, .bool a0_6, .string a0_7, .bool a0_8, .string a0_9, .int .i64 a0_10] 25 (0, 0)) (by (with_reducible repeat (first | refine blk_drewN ?_ _ | refine blk_drew ?_ | refine blk_alloc ?_ _)); exact BK177.out) hb); have n1_ := Aside0.mk (below_step (by repeat (first | (with_reducible first | exact HB.out | apply below_alloc | apply pw_below_drewN | apply below_drew1 | refine below_set ?_ GE177.out) | exact HB.out)) hb); clear BK177; clear HB; have BK177 := n0_; have HB := n1_; clear n0_ n1_; (try clear hb); (try clear hb2); (try clear hk); (try clear hi)))
        have n0_ := Aside0.mk (blk_drew BK177.out)
        have n1_ := Aside0.mk (below_drew1 HB.out)
        clear BK177
        clear HB
        have BK177 := n0_
        have HB := n1_
        clear n0_ n1_
        refine start_ (n := 15) (S := fun w' => True) (ds := []) #[false, false, false, false, false, false, false, false, false, false, false, false, false, false, false] (by kernel_rfl) rfl rfl trivial (fun hHeld => ?_); refine with_tabW record_Encode.tab3 record_Encode.bits3 (fun HT_ HW_ => ?_)
        generalize w13.drew = w14 at BK177 HB hHeld ⊢
        refine pure_ (i := 0) (N := some 8) (v := ?_) (a' := ?_) #[true, false, false, false, false, false, false, false, false, false, false, false, false, false, false] rfl rfl (any_of HT_.out (by kernel_rfl)) (fun _ _ _ h => h) (Or.inl ⟨by rfl, ?_⟩) ?_ ?_
        rotate_left
        · intro w'
          go_simp
          with_reducible rfl
        rotate_left
        · simp only [Act.put, List.setIfInBounds_toArray, List.set_cons_zero, List.set_cons_succ, i64_w, i32_w]
          rfl
        refine pure_ (i := 4) (N := some 12) (v := ?_) (a' := ?_) #[true, false, false, false, true, false, false, false, false, false, false, false, false, false, false] rfl rfl (any_of HT_.out (by kernel_rfl)) (fun _ _ _ h => h) (Or.inl ⟨by rfl, ?_⟩) ?_ ?_
        rotate_left
        · intro w'
          go_simp
          with_reducible rfl
        rotate_left
        · simp only [Act.put, List.setIfInBounds_toArray, List.set_cons_zero, List.set_cons_succ, i64_w, i32_w]
          rfl
        refine pure_ (i := 9) (N := some 17) (v := ?_) (a' := ?_) #[true, false, false, false, true, false, false, false, false, true, false, false, false, false, false] rfl rfl (any_of HT_.out (by kernel_rfl)) (fun _ _ _ h => h) (Or.inl ⟨by rfl, ?_⟩) ?_ ?_
        rotate_left
        · intro w'
          go_simp
          with_reducible rfl
        rotate_left
        · simp only [Act.put, List.setIfInBounds_toArray, List.set_cons_zero, List.set_cons_succ, i64_w, i32_w]
          rfl
        refine inv_at [1, 2, 3, 5, 6, 7, 8, 10, 11, 12, 13, 14] (fun a0_ b a w' => ∃ (v180 : Value) (v184 : Value) (v188 : Value), a = putSel a0_ b [(1, 9, .int .i64 a0_0), (2, 10, v180), (3, 11, .string t182), (5, 13, .int .i64 a0_2), (6, 14, v184), (7, 15, .string t186), (8, 16, .string (t182 ++ t186)), (10, 18, .int .i64 a0_3), (11, 19, v188), (12, 20, .string t190), (13, 21, .string ((t182 ++ t186) ++ t190)), (14, 4, .string ((t182 ++ t186) ++ t190))] ∧ (w'.heap[gb177]? = some (.cells #[.int .i64 a0_0, .int .i64 a0_1, .int .i64 a0_2, .int .i64 a0_3, .int .i64 a0_4, .string a0_5, .bool a0_6, .string a0_7, .bool a0_8, .string a0_9, .int .i64 a0_10] 25 (0, 0))) ∧ (Below w.heap.size w w') ∧ (b 2 = true → Kd.R (Kd.int .i64) 3 w' w.heap.size (fun _ => True) v180 y179) ∧ (b 6 = true → Kd.R (Kd.int .i64) 3 w' w.heap.size (fun _ => True) v184 y183) ∧ (b 11 = true → Kd.R (Kd.int .i64) 3 w' w.heap.size (fun _ => True) v188 y187)) HT_.out HW_.out (by kernel_rfl) (by kernel_rfl) ?_ ?_ ?_
        · exact ⟨.bool false, .bool false, .bool false, by simp only [putSel, Bool.false_eq_true, if_false], BK177.out, HB.out, fun h_ => absurd h_ (by decide), fun h_ => absurd h_ (by decide), fun h_ => absurd h_ (by decide)⟩
        · skip
          clear BK177 HB
          refine steps_cons ?_ ?_
          · rintro b a w' ⟨v180, v184, v188, ha, Q_BK177, Q_HB, Q_HO181, Q_HO185, Q_HO189⟩ hb_ hon hoff
            refine ⟨_, rfl, fun K hK => ?_⟩
            have e8 : a.tmps[8]? = some (.pointer (some ⟨gb177, 0, none⟩)) := by rw [ha]; exact (putSel_off rfl).trans rfl
            replace ha := Aside0.mk ha
            have BK177 := Aside0.mk Q_BK177
            have HB := Aside0.mk Q_HB
            have hc0_ : w'.cell? ⟨gb177, 0, none⟩ = some (.int .i64 a0_0) := (blk_cell BK177.out 0).trans rfl
            have hc1_ : w'.cell? ⟨gb177, 1, none⟩ = some (.int .i64 a0_1) := (blk_cell BK177.out 1).trans rfl
            have hc2_ : w'.cell? ⟨gb177, 2, none⟩ = some (.int .i64 a0_2) := (blk_cell BK177.out 2).trans rfl
            have hc3_ : w'.cell? ⟨gb177, 3, none⟩ = some (.int .i64 a0_3) := (blk_cell BK177.out 3).trans rfl
            have hc4_ : w'.cell? ⟨gb177, 4, none⟩ = some (.int .i64 a0_4) := (blk_cell BK177.out 4).trans rfl
            have hc5_ : w'.cell? ⟨gb177, 5, none⟩ = some (.string a0_5) := (blk_cell BK177.out 5).trans rfl
            have hc6_ : w'.cell? ⟨gb177, 6, none⟩ = some (.bool a0_6) := (blk_cell BK177.out 6).trans rfl
            have hc7_ : w'.cell? ⟨gb177, 7, none⟩ = some (.string a0_7) := (blk_cell BK177.out 7).trans rfl
            have hc8_ : w'.cell? ⟨gb177, 8, none⟩ = some (.bool a0_8) := (blk_cell BK177.out 8).trans rfl
            have hc9_ : w'.cell? ⟨gb177, 9, none⟩ = some (.string a0_9) := (blk_cell BK177.out 9).trans rfl
            have hc10_ : w'.cell? ⟨gb177, 10, none⟩ = some (.int .i64 a0_10) := (blk_cell BK177.out 10).trans rfl
            refine value_ (w1 := w') (v := .int .i64 a0_0) (by rfl) rfl ?_ ?_
            · go_simp
              (try simp only [i64_w])
              try rfl
              try (with_reducible assumption)
            refine hK.out _ _ ⟨v180, v184, v188, (by rw [ha.out]; exact putSel_upk 0 hb_ rfl rfl rfl), Q_BK177, Q_HB, fun h0_ => absurd ((hoff 2 (by kernel_rfl)).symm.trans h0_) (by decide), Q_HO185, Q_HO189⟩
          refine steps_cons ?_ ?_
          · rintro b a w' ⟨v180, v184, v188, ha, Q_BK177, Q_HB, Q_HO181, Q_HO185, Q_HO189⟩ hb_ hon hoff
            refine ⟨_, rfl, fun K hK => ?_⟩
            have e9 : a.tmps[9]? = some (.int .i64 a0_0) := by rw [ha]; exact putSel_on (e := (1, 9, .int .i64 a0_0)) 0 rfl rfl (hon 1 (by kernel_rfl)) rfl
            replace ha := Aside0.mk ha
            have BK177 := Aside0.mk Q_BK177
            have HB := Aside0.mk Q_HB
            refine Kd.R_lit_step (Kd.int .i64) _ 3 ?hg (N := 10) ?hd (xs := ([a0_0] : List Int)) (inner := [.int .i64 a0_0]) (ok := fun _ => True) (okp := fun _ => True) ?hr ?hp (fun _ hk => hk) trivial (Below.refl _ _) (Nat.le_refl _) (by simp) ?_; (case hd => rfl); (case hg => rfl); (case hr => first | (go_simp; done) | (go_simp; rfl)); (case hp => exact (Reps.one (show Kd.M (Kd.int .i64) _ _ _ a0_0 [.int .i64 a0_0] from rfl) (Reps.none _ _)))
            intro v180 w15 ho16 hb hg_ hnew_
            clear hg_ hnew_
            (first | rw [← Ny179.out] at ho16 | (simp only [Int.reduceToNat] at ho16; rw [← Ny179.out] at ho16))
            have n0_ := Aside0.mk (Kd.R_lower ho16 (below_size (by repeat (first | (with_reducible first | exact HB.out | apply below_alloc | apply pw_below_drewN | apply below_drew1 | refine below_set ?_ GE177.out) | exact HB.out))))
            have n1_ := Aside0.mk (blk_below (g := gb177) (o := .cells #[.int .i64 a0_0, .int .i64 a0_1, .int .i64 a0_2, .int .i64 a0_3, .int .i64 a0_4, .string a0_5, .bool a0_6, .string a0_7, .bool a0_8, .string a0_9, .int .i64 a0_10] 25 (0, 0)) (by (with_reducible repeat (first | refine blk_drewN ?_ _ | refine blk_drew ?_ | refine blk_alloc ?_ _)); exact BK177.out) hb)
            have n2_ := Aside0.mk (below_step (by repeat (first | (with_reducible first | exact HB.out | apply below_alloc | apply pw_below_drewN | apply below_drew1 | refine below_set ?_ GE177.out) | exact HB.out)) hb)
            have z_HO185 := fun (h0_ : b 6 = true) => (show Kd.R (Kd.int .i64) 3 w15 w.heap.size (fun _ => True) v184 y183 from by first | exact (Kd.R_elder' (by (with_reducible repeat (first | apply Kd.R_alloc | apply Kd.R_drewN | apply Kd.R_drew)); exact (Q_HO185 h0_)) (Kd.R_base ho16) hb) | exact Kd.R_mono (Kd.R_elder' (by (with_reducible repeat (first | apply Kd.R_alloc | apply Kd.R_drewN | apply Kd.R_drew)); exact (Q_HO185 h0_)) (Kd.R_base ho16) hb) (fun _ h_ => by first | trivial | exact h_ | exact h_.1))
            have z_HO189 := fun (h0_ : b 11 = true) => (show Kd.R (Kd.int .i64) 3 w15 w.heap.size (fun _ => True) v188 y187 from by first | exact (Kd.R_elder' (by (with_reducible repeat (first | apply Kd.R_alloc | apply Kd.R_drewN | apply Kd.R_drew)); exact (Q_HO189 h0_)) (Kd.R_base ho16) hb) | exact Kd.R_mono (Kd.R_elder' (by (with_reducible repeat (first | apply Kd.R_alloc | apply Kd.R_drewN | apply Kd.R_drew)); exact (Q_HO189 h0_)) (Kd.R_base ho16) hb) (fun _ h_ => by first | trivial | exact h_ | exact h_.1))
            clear BK177
            clear HB
            have HO181 := n0_
            have BK177 := n1_
            have HB := n2_
            clear n0_ n1_ n2_
            clear hb ho16
            refine hK.out _ _ ⟨v180, v184, v188, (by rw [ha.out]; exact putSel_upk 1 hb_ rfl rfl rfl), (by (with_reducible repeat (first | refine blk_drewN ?_ _ | refine blk_drew ?_ | refine blk_alloc ?_ _)); exact BK177.out), (by repeat (first | (with_reducible first | exact HB.out | apply below_alloc | apply pw_below_drewN | apply below_drew1 | refine below_set ?_ GE177.out) | exact HB.out)), fun _ => (by (with_reducible repeat (first | apply Kd.R_alloc | apply Kd.R_drewN | apply Kd.R_drew)); exact HO181.out), z_HO185, z_HO189⟩
          refine steps_cons ?_ ?_
          · rintro b a w' ⟨v180, v184, v188, ha, Q_BK177, Q_HB, Q_HO181, Q_HO185, Q_HO189⟩ hb_ hon hoff
            refine ⟨_, rfl, fun K hK => ?_⟩
            have e10 : a.tmps[10]? = some (v180) := by rw [ha]; exact putSel_on (e := (2, 10, v180)) 1 rfl rfl (hon 2 (by kernel_rfl)) rfl
            replace ha := Aside0.mk ha
            have BK177 := Aside0.mk Q_BK177
            have HB := Aside0.mk Q_HB
            have HO181 := Aside0.mk (Q_HO181 (hon 2 (by kernel_rfl)))
            obtain ⟨Ao18, co18, eo18⟩ := Kd.R_slice HO181.out
            (first | subst eo18 | (injection eo18 with f1_ f2_ f3_; have f4_ := f1_.symm; have f5_ := f3_.symm; clear f1_ f2_ f3_; subst f4_; subst f5_))
            refine goes_ Tryd.func39 (by kernel_rfl) rfl #[.int .i64 1, .slice Ao18 y179.length co18] (by rfl) rfl rfl (by first | (simp only [List.map_toArray, List.map_cons, List.map_nil, Act.eval, Array.getD_eq_getD_getElem?, Option.getD_some, e10]; done) | (simp only [List.map_toArray, List.map_cons, List.map_nil, Act.eval, Array.getD_eq_getD_getElem?, Option.getD_some, e10]; rfl)) ?_
            with_reducible refine (nums_Put.calls 1 _ _ y179 t182 _ ?side1 ?side2 A4.out).mono ?_
            (case side1 => repeat (first | exact (Kd.R_reads' HO181.out).2.2 | (with_reducible refine Kd.C_alloc ?_ _) | (with_reducible refine Kd.C_drewN ?_ _) | (with_reducible refine Kd.C_drew ?_)))
            (case side2 => exact (Kd.R_reads' HO181.out).2.1)
            rintro e w19 ⟨rfl, hb⟩
            refine ⟨_, rfl, ?_⟩
            have n0_ := Aside0.mk (Kd.R_below (by (with_reducible repeat (first | apply Kd.R_alloc | apply Kd.R_drewN | apply Kd.R_drew)); exact HO181.out) hb)
            have n1_ := Aside0.mk (blk_below (g := gb177) (o := .cells #[.int .i64 a0_0, .int .i64 a0_1, .int .i64 a0_2, .int .i64 a0_3, .int .i64 a0_4, .string a0_5, .bool a0_6, .string a0_7, .bool a0_8, .string a0_9, .int .i64 a0_10] 25 (0, 0)) (by (with_reducible repeat (first | refine blk_drewN ?_ _ | refine blk_drew ?_ | refine blk_alloc ?_ _)); exact BK177.out) hb)
            have n2_ := Aside0.mk (below_step (by repeat (first | (with_reducible first | exact HB.out | apply below_alloc | apply pw_below_drewN | apply below_drew1 | refine below_set ?_ GE177.out) | exact HB.out)) hb)
            have z_HO185 := fun (h0_ : b 6 = true) => (show Kd.R (Kd.int .i64) 3 w19 w.heap.size (fun _ => True) v184 y183 from by first | exact (Kd.R_below (by (with_reducible repeat (first | apply Kd.R_alloc | apply Kd.R_drewN | apply Kd.R_drew)); exact (Q_HO185 h0_)) hb) | exact Kd.R_mono (Kd.R_below (by (with_reducible repeat (first | apply Kd.R_alloc | apply Kd.R_drewN | apply Kd.R_drew)); exact (Q_HO185 h0_)) hb) (fun _ h_ => by first | trivial | exact h_ | exact h_.1))
            have z_HO189 := fun (h0_ : b 11 = true) => (show Kd.R (Kd.int .i64) 3 w19 w.heap.size (fun _ => True) v188 y187 from by first | exact (Kd.R_below (by (with_reducible repeat (first | apply Kd.R_alloc | apply Kd.R_drewN | apply Kd.R_drew)); exact (Q_HO189 h0_)) hb) | exact Kd.R_mono (Kd.R_below (by (with_reducible repeat (first | apply Kd.R_alloc | apply Kd.R_drewN | apply Kd.R_drew)); exact (Q_HO189 h0_)) hb) (fun _ h_ => by first | trivial | exact h_ | exact h_.1))
            clear HO181
            clear BK177
            clear HB
            have HO181 := n0_
            have BK177 := n1_
            have HB := n2_
            clear n0_ n1_ n2_
            (try clear hb)
            (try clear hb2)
            (try clear hk)
            (try clear hi)
            refine hK.out _ _ ⟨.slice Ao18 y179.length co18, v184, v188, (by rw [ha.out]; exact putSel_upk 2 hb_ rfl rfl rfl), (by (with_reducible repeat (first | refine blk_drewN ?_ _ | refine blk_drew ?_ | refine blk_alloc ?_ _)); exact BK177.out), (by repeat (first | (with_reducible first | exact HB.out | apply below_alloc | apply pw_below_drewN | apply below_drew1 | refine below_set ?_ GE177.out) | exact HB.out)), fun _ => (by (with_reducible repeat (first | apply Kd.R_alloc | apply Kd.R_drewN | apply Kd.R_drew)); exact HO181.out), z_HO185, z_HO189⟩
          refine steps_cons ?_ ?_
          · rintro b a w' ⟨v180, v184, v188, ha, Q_BK177, Q_HB, Q_HO181, Q_HO185, Q_HO189⟩ hb_ hon hoff
            refine ⟨_, rfl, fun K hK => ?_⟩
            have e12 : a.tmps[12]? = some (.pointer (some ⟨gb177, 2, none⟩)) := by rw [ha]; exact (putSel_off rfl).trans rfl
            replace ha := Aside0.mk ha
            have BK177 := Aside0.mk Q_BK177
            have HB := Aside0.mk Q_HB
            have hc0_ : w'.cell? ⟨gb177, 0, none⟩ = some (.int .i64 a0_0) := (blk_cell BK177.out 0).trans rfl
            have hc1_ : w'.cell? ⟨gb177, 1, none⟩ = some (.int .i64 a0_1) := (blk_cell BK177.out 1).trans rfl
            have hc2_ : w'.cell? ⟨gb177, 2, none⟩ = some (.int .i64 a0_2) := (blk_cell BK177.out 2).trans rfl
            have hc3_ : w'.cell? ⟨gb177, 3, none⟩ = some (.int .i64 a0_3) := (blk_cell BK177.out 3).trans rfl
            have hc4_ : w'.cell? ⟨gb177, 4, none⟩ = some (.int .i64 a0_4) := (blk_cell BK177.out 4).trans rfl
            have hc5_ : w'.cell? ⟨gb177, 5, none⟩ = some (.string a0_5) := (blk_cell BK177.out 5).trans rfl
            have hc6_ : w'.cell? ⟨gb177, 6, none⟩ = some (.bool a0_6) := (blk_cell BK177.out 6).trans rfl
            have hc7_ : w'.cell? ⟨gb177, 7, none⟩ = some (.string a0_7) := (blk_cell BK177.out 7).trans rfl
            have hc8_ : w'.cell? ⟨gb177, 8, none⟩ = some (.bool a0_8) := (blk_cell BK177.out 8).trans rfl
            have hc9_ : w'.cell? ⟨gb177, 9, none⟩ = some (.string a0_9) := (blk_cell BK177.out 9).trans rfl
            have hc10_ : w'.cell? ⟨gb177, 10, none⟩ = some (.int .i64 a0_10) := (blk_cell BK177.out 10).trans rfl
            refine value_ (w1 := w') (v := .int .i64 a0_2) (by rfl) rfl ?_ ?_
            · go_simp
              (try simp only [i64_w])
              try rfl
              try (with_reducible assumption)
            refine hK.out _ _ ⟨v180, v184, v188, (by rw [ha.out]; exact putSel_upk 3 hb_ rfl rfl rfl), Q_BK177, Q_HB, Q_HO181, fun h0_ => absurd ((hoff 6 (by kernel_rfl)).symm.trans h0_) (by decide), Q_HO189⟩
          refine steps_cons ?_ ?_
          · rintro b a w' ⟨v180, v184, v188, ha, Q_BK177, Q_HB, Q_HO181, Q_HO185, Q_HO189⟩ hb_ hon hoff
            refine ⟨_, rfl, fun K hK => ?_⟩
            have e13 : a.tmps[13]? = some (.int .i64 a0_2) := by rw [ha]; exact putSel_on (e := (5, 13, .int .i64 a0_2)) 3 rfl rfl (hon 5 (by kernel_rfl)) rfl
            replace ha := Aside0.mk ha
            have BK177 := Aside0.mk Q_BK177
            have HB := Aside0.mk Q_HB
            refine Kd.R_lit_step (Kd.int .i64) _ 3 ?hg (N := 14) ?hd (xs := ([a0_2] : List Int)) (inner := [.int .i64 a0_2]) (ok := fun _ => True) (okp := fun _ => True) ?hr ?hp (fun _ hk => hk) trivial (Below.refl _ _) (Nat.le_refl _) (by simp) ?_; (case hd => rfl); (case hg => rfl); (case hr => first | (go_simp; done) | (go_simp; rfl)); (case hp => exact (Reps.one (show Kd.M (Kd.int .i64) _ _ _ a0_2 [.int .i64 a0_2] from rfl) (Reps.none _ _)))
            intro v184 w15 ho16 hb hg_ hnew_
            clear hg_ hnew_
            (first | rw [← Ny183.out] at ho16 | (simp only [Int.reduceToNat] at ho16; rw [← Ny183.out] at ho16))
            have n0_ := Aside0.mk (Kd.R_lower ho16 (below_size (by repeat (first | (with_reducible first | exact HB.out | apply below_alloc | apply pw_below_drewN | apply below_drew1 | refine below_set ?_ GE177.out) | exact HB.out))))
            have n1_ := Aside0.mk (blk_below (g := gb177) (o := .cells #[.int .i64 a0_0, .int .i64 a0_1, .int .i64 a0_2, .int .i64 a0_3, .int .i64 a0_4, .string a0_5, .bool a0_6, .string a0_7, .bool a0_8, .string a0_9, .int .i64 a0_10] 25 (0, 0)) (by (with_reducible repeat (first | refine blk_drewN ?_ _ | refine blk_drew ?_ | refine blk_alloc ?_ _)); exact BK177.out) hb)
            have n2_ := Aside0.mk (below_step (by repeat (first | (with_reducible first | exact HB.out | apply below_alloc | apply pw_below_drewN | apply below_drew1 | refine below_set ?_ GE177.out) | exact HB.out)) hb)
            have z_HO181 := fun (h0_ : b 2 = true) => (show Kd.R (Kd.int .i64) 3 w15 w.heap.size (fun _ => True) v180 y179 from by first | exact (Kd.R_elder' (by (with_reducible repeat (first | apply Kd.R_alloc | apply Kd.R_drewN | apply Kd.R_drew)); exact (Q_HO181 h0_)) (Kd.R_base ho16) hb) | exact Kd.R_mono (Kd.R_elder' (by (with_reducible repeat (first | apply Kd.R_alloc | apply Kd.R_drewN | apply Kd.R_drew)); exact (Q_HO181 h0_)) (Kd.R_base ho16) hb) (fun _ h_ => by first | trivial | exact h_ | exact h_.1))
            have z_HO189 := fun (h0_ : b 11 = true) => (show Kd.R (Kd.int .i64) 3 w15 w.heap.size (fun _ => True) v188 y187 from by first | exact (Kd.R_elder' (by (with_reducible repeat (first | apply Kd.R_alloc | apply Kd.R_drewN | apply Kd.R_drew)); exact (Q_HO189 h0_)) (Kd.R_base ho16) hb) | exact Kd.R_mono (Kd.R_elder' (by (with_reducible repeat (first | apply Kd.R_alloc | apply Kd.R_drewN | apply Kd.R_drew)); exact (Q_HO189 h0_)) (Kd.R_base ho16) hb) (fun _ h_ => by first | trivial | exact h_ | exact h_.1))
            clear BK177
            clear HB
            have HO185 := n0_
            have BK177 := n1_
            have HB := n2_
            clear n0_ n1_ n2_
            clear hb ho16
            refine hK.out _ _ ⟨v180, v184, v188, (by rw [ha.out]; exact putSel_upk 4 hb_ rfl rfl rfl), (by (with_reducible repeat (first | refine blk_drewN ?_ _ | refine blk_drew ?_ | refine blk_alloc ?_ _)); exact BK177.out), (by repeat (first | (with_reducible first | exact HB.out | apply below_alloc | apply pw_below_drewN | apply below_drew1 | refine below_set ?_ GE177.out) | exact HB.out)), z_HO181, fun _ => (by (with_reducible repeat (first | apply Kd.R_alloc | apply Kd.R_drewN | apply Kd.R_drew)); exact HO185.out), z_HO189⟩
          refine steps_cons ?_ ?_
          · rintro b a w' ⟨v180, v184, v188, ha, Q_BK177, Q_HB, Q_HO181, Q_HO185, Q_HO189⟩ hb_ hon hoff
            refine ⟨_, rfl, fun K hK => ?_⟩
            have e14 : a.tmps[14]? = some (v184) := by rw [ha]; exact putSel_on (e := (6, 14, v184)) 4 rfl rfl (hon 6 (by kernel_rfl)) rfl
            replace ha := Aside0.mk ha
            have BK177 := Aside0.mk Q_BK177
            have HB := Aside0.mk Q_HB
            have HO181 := Aside0.mk (Q_HO181 (hon 2 (by kernel_rfl)))
            have HO185 := Aside0.mk (Q_HO185 (hon 6 (by kernel_rfl)))
            obtain ⟨Ao22, co22, eo22⟩ := Kd.R_slice HO185.out
            (first | subst eo22 | (injection eo22 with f1_ f2_ f3_; have f4_ := f1_.symm; have f5_ := f3_.symm; clear f1_ f2_ f3_; subst f4_; subst f5_))
            refine goes_ Tryd.func39 (by kernel_rfl) rfl #[.int .i64 4, .slice Ao22 y183.length co22] (by rfl) rfl rfl (by first | (simp only [List.map_toArray, List.map_cons, List.map_nil, Act.eval, Array.getD_eq_getD_getElem?, Option.getD_some, e14]; done) | (simp only [List.map_toArray, List.map_cons, List.map_nil, Act.eval, Array.getD_eq_getD_getElem?, Option.getD_some, e14]; rfl)) ?_
            with_reducible refine (nums_Put.calls 4 _ _ y183 t186 _ ?side1 ?side2 A5.out).mono ?_
            (case side1 => repeat (first | exact (Kd.R_reads' HO185.out).2.2 | (with_reducible refine Kd.C_alloc ?_ _) | (with_reducible refine Kd.C_drewN ?_ _) | (with_reducible refine Kd.C_drew ?_)))
            (case side2 => exact (Kd.R_reads' HO185.out).2.1)
            rintro e w23 ⟨rfl, hb⟩
            refine ⟨_, rfl, ?_⟩
            have n0_ := Aside0.mk (Kd.R_below (by (with_reducible repeat (first | apply Kd.R_alloc | apply Kd.R_drewN | apply Kd.R_drew)); exact HO181.out) hb)
            have n1_ := Aside0.mk (Kd.R_below (by (with_reducible repeat (first | apply Kd.R_alloc | apply Kd.R_drewN | apply Kd.R_drew)); exact HO185.out) hb)
            have n2_ := Aside0.mk (blk_below (g := gb177) (o := .cells #[.int .i64 a0_0, .int .i64 a0_1, .int .i64 a0_2, .int .i64 a0_3, .int .i64 a0_4, .string a0_5, .bool a0_6, .string a0_7, .bool a0_8, .string a0_9, .int .i64 a0_10] 25 (0, 0)) (by (with_reducible repeat (first | refine blk_drewN ?_ _ | refine blk_drew ?_ | refine blk_alloc ?_ _)); exact BK177.out) hb)
            have n3_ := Aside0.mk (below_step (by repeat (first | (with_reducible first | exact HB.out | apply below_alloc | apply pw_below_drewN | apply below_drew1 | refine below_set ?_ GE177.out) | exact HB.out)) hb)
            have z_HO189 := fun (h0_ : b 11 = true) => (show Kd.R (Kd.int .i64) 3 w23 w.heap.size (fun _ => True) v188 y187 from by first | exact (Kd.R_below (by (with_reducible repeat (first | apply Kd.R_alloc | apply Kd.R_drewN | apply Kd.R_drew)); exact (Q_HO189 h0_)) hb) | exact Kd.R_mono (Kd.R_below (by (with_reducible repeat (first | apply Kd.R_alloc | apply Kd.R_drewN | apply Kd.R_drew)); exact (Q_HO189 h0_)) hb) (fun _ h_ => by first | trivial | exact h_ | exact h_.1))
            clear HO181
            clear HO185
            clear BK177
            clear HB
            have HO181 := n0_
            have HO185 := n1_
            have BK177 := n2_
            have HB := n3_
            clear n0_ n1_ n2_ n3_
            (try clear hb)
            (try clear hb2)
            (try clear hk)
            (try clear hi)
            refine hK.out _ _ ⟨v180, .slice Ao22 y183.length co22, v188, (by rw [ha.out]; exact putSel_upk 5 hb_ rfl rfl rfl), (by (with_reducible repeat (first | refine blk_drewN ?_ _ | refine blk_drew ?_ | refine blk_alloc ?_ _)); exact BK177.out), (by repeat (first | (with_reducible first | exact HB.out | apply below_alloc | apply pw_below_drewN | apply below_drew1 | refine below_set ?_ GE177.out) | exact HB.out)), fun _ => (by (with_reducible repeat (first | apply Kd.R_alloc | apply Kd.R_drewN | apply Kd.R_drew)); exact HO181.out), fun _ => (by (with_reducible repeat (first | apply Kd.R_alloc | apply Kd.R_drewN | apply Kd.R_drew)); exact HO185.out), z_HO189⟩
          refine steps_cons ?_ ?_
          · rintro b a w' ⟨v180, v184, v188, ha, Q_BK177, Q_HB, Q_HO181, Q_HO185, Q_HO189⟩ hb_ hon hoff
            refine ⟨_, rfl, fun K hK => ?_⟩
            have e11 : a.tmps[11]? = some (.string t182) := by rw [ha]; exact putSel_on (e := (3, 11, .string t182)) 2 rfl rfl (hon 3 (by kernel_rfl)) rfl
            have e15 : a.tmps[15]? = some (.string t186) := by rw [ha]; exact putSel_on (e := (7, 15, .string t186)) 5 rfl rfl (hon 7 (by kernel_rfl)) rfl
            replace ha := Aside0.mk ha
            have BK177 := Aside0.mk Q_BK177
            have HB := Aside0.mk Q_HB
            have HO181 := Aside0.mk (Q_HO181 (hon 2 (by kernel_rfl)))
            have HO185 := Aside0.mk (Q_HO185 (hon 6 (by kernel_rfl)))
            refine value_ (w1 := w') (v := .string (t182 ++ t186)) (by rfl) rfl ?_ ?_
            · go_simp
              (try simp only [i64_w])
              try rfl
              try (with_reducible assumption)
            refine hK.out _ _ ⟨v180, v184, v188, (by rw [ha.out]; exact putSel_upk 6 hb_ rfl rfl rfl), Q_BK177, Q_HB, Q_HO181, Q_HO185, Q_HO189⟩
          refine steps_cons ?_ ?_
          · rintro b a w' ⟨v180, v184, v188, ha, Q_BK177, Q_HB, Q_HO181, Q_HO185, Q_HO189⟩ hb_ hon hoff
            refine ⟨_, rfl, fun K hK => ?_⟩
            have e17 : a.tmps[17]? = some (.pointer (some ⟨gb177, 3, none⟩)) := by rw [ha]; exact (putSel_off rfl).trans rfl
            replace ha := Aside0.mk ha
            have BK177 := Aside0.mk Q_BK177
            have HB := Aside0.mk Q_HB
            have hc0_ : w'.cell? ⟨gb177, 0, none⟩ = some (.int .i64 a0_0) := (blk_cell BK177.out 0).trans rfl
            have hc1_ : w'.cell? ⟨gb177, 1, none⟩ = some (.int .i64 a0_1) := (blk_cell BK177.out 1).trans rfl
            have hc2_ : w'.cell? ⟨gb177, 2, none⟩ = some (.int .i64 a0_2) := (blk_cell BK177.out 2).trans rfl
            have hc3_ : w'.cell? ⟨gb177, 3, none⟩ = some (.int .i64 a0_3) := (blk_cell BK177.out 3).trans rfl
            have hc4_ : w'.cell? ⟨gb177, 4, none⟩ = some (.int .i64 a0_4) := (blk_cell BK177.out 4).trans rfl
            have hc5_ : w'.cell? ⟨gb177, 5, none⟩ = some (.string a0_5) := (blk_cell BK177.out 5).trans rfl
            have hc6_ : w'.cell? ⟨gb177, 6, none⟩ = some (.bool a0_6) := (blk_cell BK177.out 6).trans rfl
            have hc7_ : w'.cell? ⟨gb177, 7, none⟩ = some (.string a0_7) := (blk_cell BK177.out 7).trans rfl
            have hc8_ : w'.cell? ⟨gb177, 8, none⟩ = some (.bool a0_8) := (blk_cell BK177.out 8).trans rfl
            have hc9_ : w'.cell? ⟨gb177, 9, none⟩ = some (.string a0_9) := (blk_cell BK177.out 9).trans rfl
            have hc10_ : w'.cell? ⟨gb177, 10, none⟩ = some (.int .i64 a0_10) := (blk_cell BK177.out 10).trans rfl
            refine value_ (w1 := w') (v := .int .i64 a0_3) (by rfl) rfl ?_ ?_
            · go_simp
              (try simp only [i64_w])
              try rfl
              try (with_reducible assumption)
            refine hK.out _ _ ⟨v180, v184, v188, (by rw [ha.out]; exact putSel_upk 7 hb_ rfl rfl rfl), Q_BK177, Q_HB, Q_HO181, Q_HO185, fun h0_ => absurd ((hoff 11 (by kernel_rfl)).symm.trans h0_) (by decide)⟩
          refine steps_cons ?_ ?_
          · rintro b a w' ⟨v180, v184, v188, ha, Q_BK177, Q_HB, Q_HO181, Q_HO185, Q_HO189⟩ hb_ hon hoff
            refine ⟨_, rfl, fun K hK => ?_⟩
            have e18 : a.tmps[18]? = some (.int .i64 a0_3) := by rw [ha]; exact putSel_on (e := (10, 18, .int .i64 a0_3)) 7 rfl rfl (hon 10 (by kernel_rfl)) rfl
            replace ha := Aside0.mk ha
            have BK177 := Aside0.mk Q_BK177
            have HB := Aside0.mk Q_HB
            refine Kd.R_lit_step (Kd.int .i64) _ 3 ?hg (N := 19) ?hd (xs := ([a0_3] : List Int)) (inner := [.int .i64 a0_3]) (ok := fun _ => True) (okp := fun _ => True) ?hr ?hp (fun _ hk => hk) trivial (Below.refl _ _) (Nat.le_refl _) (by simp) ?_; (case hd => rfl); (case hg => rfl); (case hr => first | (go_simp; done) | (go_simp; rfl)); (case hp => exact (Reps.one (show Kd.M (Kd.int .i64) _ _ _ a0_3 [.int .i64 a0_3] from rfl) (Reps.none _ _)))
            intro v188 w15 ho16 hb hg_ hnew_
            clear hg_ hnew_
            (first | rw [← Ny187.out] at ho16 | (simp only [Int.reduceToNat] at ho16; rw [← Ny187.out] at ho16))
            have n0_ := Aside0.mk (Kd.R_lower ho16 (below_size (by repeat (first | (with_reducible first | exact HB.out | apply below_alloc | apply pw_below_drewN | apply below_drew1 | refine below_set ?_ GE177.out) | exact HB.out))))
            have n1_ := Aside0.mk (blk_below (g := gb177) (o := .cells #[.int .i64 a0_0, .int .i64 a0_1, .int .i64 a0_2, .int .i64 a0_3, .int .i64 a0_4, .string a0_5, .bool a0_6, .string a0_7, .bool a0_8, .string a0_9, .int .i64 a0_10] 25 (0, 0)) (by (with_reducible repeat (first | refine blk_drewN ?_ _ | refine blk_drew ?_ | refine blk_alloc ?_ _)); exact BK177.out) hb)
            have n2_ := Aside0.mk (below_step (by repeat (first | (with_reducible first | exact HB.out | apply below_alloc | apply pw_below_drewN | apply below_drew1 | refine below_set ?_ GE177.out) | exact HB.out)) hb)
            have z_HO181 := fun (h0_ : b 2 = true) => (show Kd.R (Kd.int .i64) 3 w15 w.heap.size (fun _ => True) v180 y179 from by first | exact (Kd.R_elder' (by (with_reducible repeat (first | apply Kd.R_alloc | apply Kd.R_drewN | apply Kd.R_drew)); exact (Q_HO181 h0_)) (Kd.R_base ho16) hb) | exact Kd.R_mono (Kd.R_elder' (by (with_reducible repeat (first | apply Kd.R_alloc | apply Kd.R_drewN | apply Kd.R_drew)); exact (Q_HO181 h0_)) (Kd.R_base ho16) hb) (fun _ h_ => by first | trivial | exact h_ | exact h_.1))
            have z_HO185 := fun (h0_ : b 6 = true) => (show Kd.R (Kd.int .i64) 3 w15 w.heap.size (fun _ => True) v184 y183 from by first | exact (Kd.R_elder' (by (with_reducible repeat (first | apply Kd.R_alloc | apply Kd.R_drewN | apply Kd.R_drew)); exact (Q_HO185 h0_)) (Kd.R_base ho16) hb) | exact Kd.R_mono (Kd.R_elder' (by (with_reducible repeat (first | apply Kd.R_alloc | apply Kd.R_drewN | apply Kd.R_drew)); exact (Q_HO185 h0_)) (Kd.R_base ho16) hb) (fun _ h_ => by first | trivial | exact h_ | exact h_.1))
            clear BK177
            clear HB
            have HO189 := n0_
            have BK177 := n1_
            have HB := n2_
            clear n0_ n1_ n2_
            clear hb ho16
            refine hK.out _ _ ⟨v180, v184, v188, (by rw [ha.out]; exact putSel_upk 8 hb_ rfl rfl rfl), (by (with_reducible repeat (first | refine blk_drewN ?_ _ | refine blk_drew ?_ | refine blk_alloc ?_ _)); exact BK177.out), (by repeat (first | (with_reducible first | exact HB.out | apply below_alloc | apply pw_below_drewN | apply below_drew1 | refine below_set ?_ GE177.out) | exact HB.out)), z_HO181, z_HO185, fun _ => (by (with_reducible repeat (first | apply Kd.R_alloc | apply Kd.R_drewN | apply Kd.R_drew)); exact HO189.out)⟩
          refine steps_cons ?_ ?_
          · rintro b a w' ⟨v180, v184, v188, ha, Q_BK177, Q_HB, Q_HO181, Q_HO185, Q_HO189⟩ hb_ hon hoff
            refine ⟨_, rfl, fun K hK => ?_⟩
            have e19 : a.tmps[19]? = some (v188) := by rw [ha]; exact putSel_on (e := (11, 19, v188)) 8 rfl rfl (hon 11 (by kernel_rfl)) rfl
            replace ha := Aside0.mk ha
            have BK177 := Aside0.mk Q_BK177
            have HB := Aside0.mk Q_HB
            have HO181 := Aside0.mk (Q_HO181 (hon 2 (by kernel_rfl)))
            have HO185 := Aside0.mk (Q_HO185 (hon 6 (by kernel_rfl)))
            have HO189 := Aside0.mk (Q_HO189 (hon 11 (by kernel_rfl)))
            obtain ⟨Ao26, co26, eo26⟩ := Kd.R_slice HO189.out
            (first | subst eo26 | (injection eo26 with f1_ f2_ f3_; have f4_ := f1_.symm; have f5_ := f3_.symm; clear f1_ f2_ f3_; subst f4_; subst f5_))
            refine goes_ Tryd.func39 (by kernel_rfl) rfl #[.int .i64 8, .slice Ao26 y187.length co26] (by rfl) rfl rfl (by first | (simp only [List.map_toArray, List.map_cons, List.map_nil, Act.eval, Array.getD_eq_getD_getElem?, Option.getD_some, e19]; done) | (simp only [List.map_toArray, List.map_cons, List.map_nil, Act.eval, Array.getD_eq_getD_getElem?, Option.getD_some, e19]; rfl)) ?_
            with_reducible refine (nums_Put.calls 8 _ _ y187 t190 _ ?side1 ?side2 A7.out).mono ?_
            (case side1 => repeat (first | exact (Kd.R_reads' HO189.out).2.2 | (with_reducible refine Kd.C_alloc ?_ _) | (with_reducible refine Kd.C_drewN ?_ _) | (with_reducible refine Kd.C_drew ?_)))
            (case side2 => exact (Kd.R_reads' HO189.out).2.1)
            rintro e w27 ⟨rfl, hb⟩
            refine ⟨_, rfl, ?_⟩
            have n0_ := Aside0.mk (Kd.R_below (by (with_reducible repeat (first | apply Kd.R_alloc | apply Kd.R_drewN | apply Kd.R_drew)); exact HO181.out) hb)
            have n1_ := Aside0.mk (Kd.R_below (by (with_reducible repeat (first | apply Kd.R_alloc | apply Kd.R_drewN | apply Kd.R_drew)); exact HO185.out) hb)
            have n2_ := Aside0.mk (Kd.R_below (by (with_reducible repeat (first | apply Kd.R_alloc | apply Kd.R_drewN | apply Kd.R_drew)); exact HO189.out) hb)
            have n3_ := Aside0.mk (blk_below (g := gb177) (o := .cells #[.int .i64 a0_0, .int .i64 a0_1, .int .i64 a0_2, .int .i64 a0_3, .int .i64 a0_4, .string a0_5, .bool a0_6, .string a0_7, .bool a0_8, .string a0_9, .int .i64 a0_10] 25 (0, 0)) (by (with_reducible repeat (first | refine blk_drewN ?_ _ | refine blk_drew ?_ | refine blk_alloc ?_ _)); exact BK177.out) hb)
            have n4_ := Aside0.mk (below_step (by repeat (first | (with_reducible first | exact HB.out | apply below_alloc | apply pw_below_drewN | apply below_drew1 | refine below_set ?_ GE177.out) | exact HB.out)) hb)
            clear HO181
            clear HO185
            clear HO189
            clear BK177
            clear HB
            have HO181 := n0_
            have HO185 := n1_
            have HO189 := n2_
            have BK177 := n3_
            have HB := n4_
            clear n0_ n1_ n2_ n3_ n4_
            (try clear hb)
            (try clear hb2)
            (try clear hk)
            (try clear hi)
            refine hK.out _ _ ⟨v180, v184, .slice Ao26 y187.length co26, (by rw [ha.out]; exact putSel_upk 9 hb_ rfl rfl rfl), (by (with_reducible repeat (first | refine blk_drewN ?_ _ | refine blk_drew ?_ | refine blk_alloc ?_ _)); exact BK177.out), (by repeat (first | (with_reducible first | exact HB.out | apply below_alloc | apply pw_below_drewN | apply below_drew1 | refine below_set ?_ GE177.out) | exact HB.out)), fun _ => (by (with_reducible repeat (first | apply Kd.R_alloc | apply Kd.R_drewN | apply Kd.R_drew)); exact HO181.out), fun _ => (by (with_reducible repeat (first | apply Kd.R_alloc | apply Kd.R_drewN | apply Kd.R_drew)); exact HO185.out), fun _ => (by (with_reducible repeat (first | apply Kd.R_alloc | apply Kd.R_drewN | apply Kd.R_drew)); exact HO189.out)⟩
          refine steps_cons ?_ ?_
          · rintro b a w' ⟨v180, v184, v188, ha, Q_BK177, Q_HB, Q_HO181, Q_HO185, Q_HO189⟩ hb_ hon hoff
            refine ⟨_, rfl, fun K hK => ?_⟩
            have e16 : a.tmps[16]? = some (.string (t182 ++ t186)) := by rw [ha]; exact putSel_on (e := (8, 16, .string (t182 ++ t186))) 6 rfl rfl (hon 8 (by kernel_rfl)) rfl
            have e20 : a.tmps[20]? = some (.string t190) := by rw [ha]; exact putSel_on (e := (12, 20, .string t190)) 9 rfl rfl (hon 12 (by kernel_rfl)) rfl
            replace ha := Aside0.mk ha
            have BK177 := Aside0.mk Q_BK177
            have HB := Aside0.mk Q_HB
            have HO181 := Aside0.mk (Q_HO181 (hon 2 (by kernel_rfl)))
            have HO185 := Aside0.mk (Q_HO185 (hon 6 (by kernel_rfl)))
            have HO189 := Aside0.mk (Q_HO189 (hon 11 (by kernel_rfl)))
            refine value_ (w1 := w') (v := .string ((t182 ++ t186) ++ t190)) (by rfl) rfl ?_ ?_
            · go_simp
              (try simp only [i64_w])
              try rfl
              try (with_reducible assumption)
            refine hK.out _ _ ⟨v180, v184, v188, (by rw [ha.out]; exact putSel_upk 10 hb_ rfl rfl rfl), Q_BK177, Q_HB, Q_HO181, Q_HO185, Q_HO189⟩
          refine steps_cons ?_ ?_
          · rintro b a w' ⟨v180, v184, v188, ha, Q_BK177, Q_HB, Q_HO181, Q_HO185, Q_HO189⟩ hb_ hon hoff
            refine ⟨_, rfl, fun K hK => ?_⟩
            have e21 : a.tmps[21]? = some (.string ((t182 ++ t186) ++ t190)) := by rw [ha]; exact putSel_on (e := (13, 21, .string ((t182 ++ t186) ++ t190))) 10 rfl rfl (hon 13 (by kernel_rfl)) rfl
            replace ha := Aside0.mk ha
            have BK177 := Aside0.mk Q_BK177
            have HB := Aside0.mk Q_HB
            have HO181 := Aside0.mk (Q_HO181 (hon 2 (by kernel_rfl)))
            have HO185 := Aside0.mk (Q_HO185 (hon 6 (by kernel_rfl)))
            have HO189 := Aside0.mk (Q_HO189 (hon 11 (by kernel_rfl)))
            refine value_ (w1 := w') (v := .string ((t182 ++ t186) ++ t190)) (by rfl) rfl ?_ ?_
            · go_simp
              (try simp only [i64_w])
              try rfl
              try (with_reducible assumption)
            refine hK.out _ _ ⟨v180, v184, v188, (by rw [ha.out]; exact putSel_upk 11 hb_ rfl rfl rfl), Q_BK177, Q_HB, Q_HO181, Q_HO185, Q_HO189⟩
          exact steps_nil
        rintro b a w27 hall ⟨v180, v184, v188, ha, Q_BK177, Q_HB, Q_HO181, Q_HO185, Q_HO189⟩
        clear BK177 HB
        have hb1_ := hall 1 (by kernel_rfl)
        have hb2_ := hall 2 (by kernel_rfl)
        have hb3_ := hall 3 (by kernel_rfl)
        have hb5_ := hall 5 (by kernel_rfl)
        have hb6_ := hall 6 (by kernel_rfl)
        have hb7_ := hall 7 (by kernel_rfl)
        have hb8_ := hall 8 (by kernel_rfl)
        have hb10_ := hall 10 (by kernel_rfl)
        have hb11_ := hall 11 (by kernel_rfl)
        have hb12_ := hall 12 (by kernel_rfl)
        have hb13_ := hall 13 (by kernel_rfl)
        have hb14_ := hall 14 (by kernel_rfl)
        subst ha
        simp only [putSel, hb1_, hb2_, hb3_, hb5_, hb6_, hb7_, hb8_, hb10_, hb11_, hb12_, hb13_, hb14_, if_true, Act.put, List.setIfInBounds_toArray, List.set_cons_zero, List.set_cons_succ]
        have BK177 := Aside0.mk Q_BK177
        clear Q_BK177
        have HB := Aside0.mk Q_HB
        clear Q_HB
        have HO181 := Aside0.mk (Q_HO181 hb2_)
        clear Q_HO181
        have HO185 := Aside0.mk (Q_HO185 hb6_)
        clear Q_HO185
        have HO189 := Aside0.mk (Q_HO189 hb11_)
        clear Q_HO189
        clear hall hb1_ hb2_ hb3_ hb5_ hb6_ hb7_ hb8_ hb10_ hb11_ hb12_ hb13_ hb14_
        have hcz28_0 : w27.cell? ⟨gb177, 0, none⟩ = some (.int .i64 a0_0) := (blk_cell BK177.out 0).trans rfl
        have hcz28_1 : w27.cell? ⟨gb177, 1, none⟩ = some (.int .i64 a0_1) := (blk_cell BK177.out 1).trans rfl
        have hcz28_2 : w27.cell? ⟨gb177, 2, none⟩ = some (.int .i64 a0_2) := (blk_cell BK177.out 2).trans rfl
        have hcz28_3 : w27.cell? ⟨gb177, 3, none⟩ = some (.int .i64 a0_3) := (blk_cell BK177.out 3).trans rfl
        have hcz28_4 : w27.cell? ⟨gb177, 4, none⟩ = some (.int .i64 a0_4) := (blk_cell BK177.out 4).trans rfl
        have hcz28_5 : w27.cell? ⟨gb177, 5, none⟩ = some (.string a0_5) := (blk_cell BK177.out 5).trans rfl
        have hcz28_6 : w27.cell? ⟨gb177, 6, none⟩ = some (.bool a0_6) := (blk_cell BK177.out 6).trans rfl
        have hcz28_7 : w27.cell? ⟨gb177, 7, none⟩ = some (.string a0_7) := (blk_cell BK177.out 7).trans rfl
        have hcz28_8 : w27.cell? ⟨gb177, 8, none⟩ = some (.bool a0_8) := (blk_cell BK177.out 8).trans rfl
        have hcz28_9 : w27.cell? ⟨gb177, 9, none⟩ = some (.string a0_9) := (blk_cell BK177.out 9).trans rfl
        have hcz28_10 : w27.cell? ⟨gb177, 10, none⟩ = some (.int .i64 a0_10) := (blk_cell BK177.out 10).trans rfl
        have hfz28_0 := blk_frozen BK177.out 0
        have hfz28_1 := blk_frozen BK177.out 1
        have hfz28_2 := blk_frozen BK177.out 2
        have hfz28_3 := blk_frozen BK177.out 3
        have hfz28_4 := blk_frozen BK177.out 4
        have hfz28_5 := blk_frozen BK177.out 5
        have hfz28_6 := blk_frozen BK177.out 6
        have hfz28_7 := blk_frozen BK177.out 7
        have hfz28_8 := blk_frozen BK177.out 8
        have hfz28_9 := blk_frozen BK177.out 9
        have hfz28_10 := blk_frozen BK177.out 10
        go_upto_if 24 with (first | ((with_reducible refine gate_callee (f := 27) rfl ?_); refine goesL_ (some 24) rfl rfl Tryd.func27 (by kernel_rfl) rfl #[.int .i64 a0_0] rfl (by (try simp only [List.map_toArray, List.map_cons, List.map_nil]); first | done | rfl | (simp only [List.length_drop, List.length_take]; rfl)) ?_; (with_reducible refine (record_changes.calls a0_0 t191 _ A9.out).mono ?_); rintro e w' ⟨rfl, ⟨nd, rfl⟩⟩; refine ⟨_, rfl, ?_⟩))
        (try simp only [Act.put, List.setIfInBounds_toArray, List.set_cons_zero, List.set_cons_succ])
        go_cut [4] (fun v4 wc => ∃ (kq : Nat) (x4_9 : ByteArray), v4 = .string x4_9 ∧ Aside0 (record_Encode.j0 kq x4_9 a0_0 a0_1 a0_2 a0_3 a0_4 a0_5 a0_6 a0_7 a0_8 a0_9 a0_10 = some (r1, r2)) ∧ Aside0 (kq ≤ k) ∧ Aside0 (wc.heap[gb177]? = some (.cells #[.int .i64 a0_0, .int .i64 a0_1, .int .i64 a0_2, .int .i64 a0_3, .int .i64 a0_4, .string a0_5, .bool a0_6, .string a0_7, .bool a0_8, .string a0_9, .int .i64 a0_10] 25 (0, 0))) ∧ Aside0 (Below w.heap.size w wc))
        case first =>
          have H := HC10.out
          clear HC10
          by_cases c29 : t191 = true
          · exact absurd (show record_changes.f 1 = some true from by have e_ := A9.out; rw [hkind.out, c29] at e_; exact e_) (by decide)
          · replace c29 := Bool.eq_false_iff.mpr c29
            subst c29
            have H1 : (record_Encode.j0 k ((t182 ++ t186) ++ t190) a0_0 a0_1 a0_2 a0_3 a0_4 a0_5 a0_6 a0_7 a0_8 a0_9 a0_10) = some (r1, r2) := by rw [if_neg (show ¬ (false = true) by decide)] at H; exact H
            clear H
            have H := H1
            clear H1
            have H' := Aside0.mk H
            clear H
            go_wp2
            go_meet
            case rel => exact ⟨_, ((t182 ++ t186) ++ t190), (by first | rfl | (simp; done) | (simp [*]; done)), H', ⟨by first | omega | exact Nat.le_refl _⟩, ⟨by (with_reducible repeat (first | refine blk_drewN ?_ _ | refine blk_drew ?_ | refine blk_alloc ?_ _)); exact BK177.out⟩, ⟨by repeat (first | (with_reducible first | exact HB.out | apply below_alloc | apply pw_below_drewN | apply below_drew1 | refine below_set ?_ GE177.out) | exact HB.out)⟩⟩
        case rest =>
          clear HC10
          try clear c1
          try clear c2
          try clear p2
          try clear c3
          try clear c4
          try clear c5
          try clear c6
          try clear c7
          try clear c8
          try clear c9
          try clear c10
          try clear c27
          try clear c29
          try clear c31
          try clear c31b0
          try clear c31b1
          try clear c31b2
          try clear c33
          try clear c33b0
          try clear c33b1
          try clear c33b2
          try clear c35
          try clear c35b0
          try clear c35b1
          try clear c35b2
          try clear c36
          try clear c36b0
          try clear c36b1
          try clear c36b2
          try clear c39
          try clear c40
          try clear hcz28_0
          try clear hcz28_1
          try clear hcz28_10
          try clear hcz28_2
          try clear hcz28_3
          try clear hcz28_4
          try clear hcz28_5
          try clear hcz28_6
          try clear hcz28_7
          try clear hcz28_8
          try clear hcz28_9
          try clear hfz28_0
          try clear hfz28_1
          try clear hfz28_10
          try clear hfz28_2
          try clear hfz28_3
          try clear hfz28_4
          try clear hfz28_5
          try clear hfz28_6
          try clear hfz28_7
          try clear hfz28_8
          try clear hfz28_9
          obtain ⟨kq, x4_9, rfl, HA, HJ9, BK177, HB⟩ := hcut
          cases kq with
          | zero => exact absurd HA.out (by simp [record_Encode.j0])
          | succ kj9 =>
            have H := HA.out
            clear HA
            simp only [record_Encode.j0] at H
            by_cases c44 : a0_0 = 3
            · exact absurd (hkind.out.symm.trans c44) (by decide)
            · rw [if_neg c44] at H
              have c44b0 : (a0_0 == 3) = false := beq_eq_false_iff_ne.mpr c44
              have c44b1 : (a0_0 != 3) = true := bne_iff_ne.mpr c44
              by_cases c52 : a0_0 = 4
              · exact absurd (hkind.out.symm.trans c52) (by decide)
              · rw [if_neg c52] at H
                have c52b0 : (a0_0 == 4) = false := beq_eq_false_iff_ne.mpr c52
                have c52b1 : (a0_0 != 4) = true := bne_iff_ne.mpr c52
                simp only [Option.some.injEq, Prod.mk.injEq] at H
                obtain ⟨rfl, rfl⟩ := H
                have hcz60_0 : wc.cell? ⟨gb177, 0, none⟩ = some (.int .i64 a0_0) := (blk_cell BK177.out 0).trans rfl
                have hcz60_1 : wc.cell? ⟨gb177, 1, none⟩ = some (.int .i64 a0_1) := (blk_cell BK177.out 1).trans rfl
                have hcz60_2 : wc.cell? ⟨gb177, 2, none⟩ = some (.int .i64 a0_2) := (blk_cell BK177.out 2).trans rfl
                have hcz60_3 : wc.cell? ⟨gb177, 3, none⟩ = some (.int .i64 a0_3) := (blk_cell BK177.out 3).trans rfl
                have hcz60_4 : wc.cell? ⟨gb177, 4, none⟩ = some (.int .i64 a0_4) := (blk_cell BK177.out 4).trans rfl
                have hcz60_5 : wc.cell? ⟨gb177, 5, none⟩ = some (.string a0_5) := (blk_cell BK177.out 5).trans rfl
                have hcz60_6 : wc.cell? ⟨gb177, 6, none⟩ = some (.bool a0_6) := (blk_cell BK177.out 6).trans rfl
                have hcz60_7 : wc.cell? ⟨gb177, 7, none⟩ = some (.string a0_7) := (blk_cell BK177.out 7).trans rfl
                have hcz60_8 : wc.cell? ⟨gb177, 8, none⟩ = some (.bool a0_8) := (blk_cell BK177.out 8).trans rfl
                have hcz60_9 : wc.cell? ⟨gb177, 9, none⟩ = some (.string a0_9) := (blk_cell BK177.out 9).trans rfl
                have hcz60_10 : wc.cell? ⟨gb177, 10, none⟩ = some (.int .i64 a0_10) := (blk_cell BK177.out 10).trans rfl
                have hfz60_0 := blk_frozen BK177.out 0
                have hfz60_1 := blk_frozen BK177.out 1
                have hfz60_2 := blk_frozen BK177.out 2
                have hfz60_3 := blk_frozen BK177.out 3
                have hfz60_4 := blk_frozen BK177.out 4
                have hfz60_5 := blk_frozen BK177.out 5
                have hfz60_6 := blk_frozen BK177.out 6
                have hfz60_7 := blk_frozen BK177.out 7
                have hfz60_8 := blk_frozen BK177.out 8
                have hfz60_9 := blk_frozen BK177.out 9
                have hfz60_10 := blk_frozen BK177.out 10
                go_wp2
                go_ret2
                exact ⟨by first | rfl | (simp [errW_none, errW_some] <;> rfl) | (simp [*, errW_none, errW_some] <;> rfl), by repeat (first | (with_reducible first | exact HB.out | apply below_alloc | apply pw_below_drewN | apply below_drew1 | refine below_set ?_ GE177.out) | exact HB.out)⟩
      · rw [if_neg c8] at H
        exact absurd H (by simp)
    · rw [if_neg c6] at H
      exact absurd H (by simp)
  · replace c3 := Bool.eq_false_iff.mpr c3
    subst c3
    have H1 : (some ((⟨#[]⟩ : ByteArray), 1)) = some (r1, r2) := by rw [if_neg (show ¬ (false = true) by decide)] at H; exact H
    clear H
    have H := H1
    clear H1
    simp only [Option.some.injEq, Prod.mk.injEq] at H
    obtain ⟨rfl, rfl⟩ := H
    go_enter Tryd.func20, Tryd.ntmps20
    go_wp2_with (first | ((with_reducible refine gate_dst (N := 1) rfl ?_); refine box_event ?hg (N := 1) ?hd (cs := #[.int .i64 a0_0, .int .i64 a0_1, .int .i64 a0_2, .int .i64 a0_3, .int .i64 a0_4, .string a0_5, .bool a0_6, .string a0_7, .bool a0_8, .string a0_9, .int .i64 a0_10]) (t := 25) ?hr ?_; (case hd => rfl); (case hg => rfl); (case hr => first | (go_simp; done) | (go_simp; rfl)); intro gb177 hg w61 hbox hb; have n0_ := Aside0.mk (below_step (by repeat (first | (with_reducible first | exact HB.out | apply below_alloc | apply pw_below_drewN | apply below_drew1) | exact HB.out)) hb); have n1_ := Aside0.mk (hbox); have n2_ := Aside0.mk ((by rw [hg]; exact (below_size (by repeat (first | (with_reducible first | exact HB.out | apply below_alloc | apply pw_below_drewN | apply below_drew1) | exact HB.out))) : w.heap.size ≤ gb177)); have n3_ := Aside0.mk ((by rw [hg]; exact (below_size (by repeat (first | (with_reducible first | exact HB.out | apply below_alloc | apply pw_below_drewN | apply below_drew1) | exact HB.out))) : w.heap.size ≤ gb177)); clear HB; have HB := n0_; have BK177 := n1_; have GW177 := n2_; have GE177 := n3_; clear n0_ n1_ n2_ n3_; clear hb hbox hg; have hcz62_0 : w61.cell? ⟨gb177, 0, none⟩ = some (.int .i64 a0_0) := (blk_cell BK177.out 0).trans rfl; have hcz62_1 : w61.cell? ⟨gb177, 1, none⟩ = some (.int .i64 a0_1) := (blk_cell BK177.out 1).trans rfl; have hcz62_2 : w61.cell? ⟨gb177, 2, none⟩ = some (.int .i64 a0_2) := (blk_cell BK177.out 2).trans rfl; have hcz62_3 : w61.cell? ⟨gb177, 3, none⟩ = some (.int .i64 a0_3) := (blk_cell BK177.out 3).trans rfl; have hcz62_4 : w61.cell? ⟨gb177, 4, none⟩ = some (.int .i64 a0_4) := (blk_cell BK177.out 4).trans rfl; have hcz62_5 : w61.cell? ⟨gb177, 5, none⟩ = some (.string a0_5) := (blk_cell BK177.out 5).trans rfl; have hcz62_6 : w61.cell? ⟨gb177, 6, none⟩ = some (.bool a0_6) := (blk_cell BK177.out 6).trans rfl; have hcz62_7 : w61.cell? ⟨gb177, 7, none⟩ = some (.string a0_7) := (blk_cell BK177.out 7).trans rfl; have hcz62_8 : w61.cell? ⟨gb177, 8, none⟩ = some (.bool a0_8) := (blk_cell BK177.out 8).trans rfl; have hcz62_9 : w61.cell? ⟨gb177, 9, none⟩ = some (.string a0_9) := (blk_cell BK177.out 9).trans rfl; have hcz62_10 : w61.cell? ⟨gb177, 10, none⟩ = some (.int .i64 a0_10) := (blk_cell BK177.out 10).trans rfl; have hfz62_0 := blk_frozen BK177.out 0; have hfz62_1 := blk_frozen BK177.out 1; have hfz62_2 := blk_frozen BK177.out 2; have hfz62_3 := blk_frozen BK177.out 3; have hfz62_4 := blk_frozen BK177.out 4; have hfz62_5 := blk_frozen BK177.out 5; have hfz62_6 := blk_frozen BK177.out 6; have hfz62_7 := blk_frozen BK177.out 7; have hfz62_8 := blk_frozen BK177.out 8; have hfz62_9 := blk_frozen BK177.out 9; have hfz62_10 := blk_frozen BK177.out 10) | ((with_reducible refine gate_callee (f := 24) rfl ?_); refine goesL_ (some 6) rfl rfl Tryd.func24 (by kernel_rfl) rfl #[.agg #[.int .i64 a0_0, .int .i64 a0_1, .int .i64 a0_2, .int .i64 a0_3, .int .i64 a0_4, .string a0_5, .bool a0_6, .string a0_7, .bool a0_8, .string a0_9, .int .i64 a0_10]] rfl (by (try simp only [List.map_toArray, List.map_cons, List.map_nil]); first | done | rfl | (simp only [List.length_drop, List.length_take]; rfl)) ?_; (with_reducible refine (record_right.calls a0_0 a0_1 a0_2 a0_3 a0_4 a0_5 a0_6 a0_7 a0_8 a0_9 a0_10 false _ A2.out).mono ?_); rintro e w63 ⟨rfl, hb⟩; refine ⟨_, rfl, ?_⟩; have n0_ := Aside0.mk (blk_below (g := gb177) (o := .cells #[.int .i64 a0_0, .int .i64 a0_1, .int .i64 a0_2, .int .i64 a0_3, .int .i64 a0_4, .string a0_5, .bool a0_6, .string a0_7, .bool a0_8, .string a0_9, .int .i64 a0_10] 25 (0, 0)) (by (with_reducible repeat (first | refine blk_drewN ?_ _ | refine blk_drew ?_ | refine blk_alloc ?_ _)); exact BK177.out) hb); have n1_ := Aside0.mk (below_step (by repeat (first | (with_reducible first | exact HB.out | apply below_alloc | apply pw_below_drewN | apply below_drew1 | refine below_set ?_ GE177.out) | exact HB.out)) hb); clear BK177; clear HB; have BK177 := n0_; have HB := n1_; clear n0_ n1_; (try clear hb); (try clear hb2); (try clear hk); (try clear hi)))
    go_ret2
    exact ⟨by first | rfl | (simp [errW_none, errW_some] <;> rfl) | (simp [*, errW_none, errW_some] <;> rfl), by repeat (first | (with_reducible first | exact HB.out | apply below_alloc | apply pw_below_drewN | apply below_drew1 | refine below_set ?_ GE177.out) | exact HB.out)⟩

end Go.Proofs.YtlicobfjeajcfaaDoor.Q04
