-- Written by a program of this session (wip/bin/stubprint.py) out of the translation; not trusted: Lean checks it.
import Derived.Test.YtlicobfjeajcfaaDoorQ04x0
import Derived.Test.YtlicobfjeajcfaaDoorQ04x2
import Derived.Test.YtlicobfjeajcfaaDoorQ04x3
import Derived.Test.YtlicobfjeajcfaaDoorRcDigits
import Derived.Test.YtlicobfjeajcfaaDoorRcItoa
import Derived.Test.YtlicobfjeajcfaaDoorRcLine
namespace Go.Proofs.YtlicobfjeajcfaaDoor.Q04
open Go.RowKit Go.Proofs.YtlicobfjeajcfaaDoorW.PrintWords Go.Proofs.YtlicobfjeajcfaaDoorW.PrintLast Go.Proofs.YtlicobfjeajcfaaDoorW.PrintMore
attribute [local go_sem] max2_int min2_int max_two min_two max_three min_three max_four min_four   -- for this text's walks alone
set_option linter.unusedVariables false
set_option linter.unusedSimpArgs false

/-! ### record_Print: function 10 -/
mutual
def record_Print.j0 : Nat → ByteArray → Int → Int → Int → Int → Int → ByteArray → Bool → ByteArray → Bool → ByteArray → Int → Option (ByteArray)
  | 0, _, _, _, _, _, _, _, _, _, _, _, _ => none
  | k + 1, x4, x146000, x146001, x146002, x146003, x146004, x146005, x146006, x146007, x146008, x146009, x146010 => if x146000 = 3 then (record_Print.j1 k x4 true x146000 x146001 x146002 x146003 x146004 x146005 x146006 x146007 x146008 x146009 x146010) else (record_Print.j1 k x4 (x146000 == 4) x146000 x146001 x146002 x146003 x146004 x146005 x146006 x146007 x146008 x146009 x146010)
def record_Print.j1 : Nat → ByteArray → Bool → Int → Int → Int → Int → Int → ByteArray → Bool → ByteArray → Bool → ByteArray → Int → Option (ByteArray)
  | 0, _, _, _, _, _, _, _, _, _, _, _, _, _ => none
  | k + 1, x4, x51, x146000, x146001, x146002, x146003, x146004, x146005, x146006, x146007, x146008, x146009, x146010 => if x51 = true then ((strconv_Itoa_26.f x146010).bind fun t167 => ((record_line.f x4 (([t167] : List ByteArray))).bind fun t171 => (some t171))) else (some x4)
end
def record_Print.f (k : Nat) (a0_0 : Int) (a0_1 : Int) (a0_2 : Int) (a0_3 : Int) (a0_4 : Int) (a0_5 : ByteArray) (a0_6 : Bool) (a0_7 : ByteArray) (a0_8 : Bool) (a0_9 : ByteArray) (a0_10 : Int) : Option (ByteArray) := (record_right.f a0_0 a0_1 a0_2 a0_3 a0_4 a0_5 a0_6 a0_7 a0_8 a0_9 a0_10).bind fun t146 => (if t146 = true then ((some (([(⟨#[98, 101, 103, 105, 110]⟩ : ByteArray), (⟨#[117, 112, 100, 97, 116, 101]⟩ : ByteArray), (⟨#[99, 108, 114]⟩ : ByteArray), (⟨#[115, 97, 118, 101]⟩ : ByteArray), (⟨#[99, 111, 109, 109, 105, 116]⟩ : ByteArray), (⟨#[101, 110, 100]⟩ : ByteArray)] : List ByteArray) : List ByteArray)).bind fun y147 => (if 0 ≤ (wrap64 (a0_0 - 1)) then (if (wrap64 (a0_0 - 1)) < (y147.length : Int) then ((strconv_Itoa_26.f a0_2).bind fun t151 => ((strconv_Itoa_26.f a0_1).bind fun t152 => ((strconv_Itoa_26.f a0_3).bind fun t153 => ((record_line.f (rdOf ByteArray.empty y147 (wrap64 (a0_0 - 1))) (([t151, t152, t153] : List ByteArray))).bind fun t157 => ((record_changes.f a0_0).bind fun t158 => (if t158 = true then ((strconv_Itoa_26.f a0_4).bind fun t159 => ((record_digits.f a0_5).bind fun t160 => ((record_told.f a0_6 a0_7).bind fun t161 => ((record_told.f a0_8 a0_9).bind fun t162 => ((record_line.f t157 (([t159, t160, t161, t162] : List ByteArray))).bind fun t166 => (record_Print.j0 k t166 a0_0 a0_1 a0_2 a0_3 a0_4 a0_5 a0_6 a0_7 a0_8 a0_9 a0_10)))))) else (record_Print.j0 k t157 a0_0 a0_1 a0_2 a0_3 a0_4 a0_5 a0_6 a0_7 a0_8 a0_9 a0_10))))))) else (none)) else (none))) else (some (⟨#[]⟩ : ByteArray)))
def record_Print.T4 : Bool × List (List Nat × List Nat) := (true, [([], []), ([], []), ([1], [1]), ([2], [2]), ([], []), ([4], [4]), ([5, 3], [5]), ([], []), ([7], [7]), ([8, 6], [8]), ([3, 6, 9], [3, 6, 9]), ([0, 10, 9], [0, 10]), ([11, 11, 0, 1, 2, 3, 4, 5, 6, 7, 8, 9, 10, 11], [11])])
def record_Print.B4 : List Nat := [0, 0, 2, 6, 0, 16, 62, 0, 128, 510, 1022, 2047, 4095]
theorem record_Print.tab4 : rtab .any (opsOf Tryd.f10 4) = record_Print.T4 := by kernel_rfl
theorem record_Print.bits4 : waitsOk record_Print.T4.2 record_Print.B4 = true := by kernel_rfl
def record_Print.T6 : Bool × List (List Nat × List Nat) := (true, [([], []), ([], []), ([1], [1]), ([2], [2]), ([], []), ([4], [4]), ([5, 3], [5]), ([], []), ([7], [7]), ([8, 6], [8]), ([], []), ([10], [10]), ([11, 9], [11]), ([3, 6, 9, 12], [3, 6, 9, 12]), ([0, 13, 12], [0, 13]), ([14, 14, 0, 1, 2, 3, 4, 5, 6, 7, 8, 9, 10, 11, 12, 13, 14], [0, 14])])
def record_Print.B6 : List Nat := [0, 0, 2, 6, 0, 16, 62, 0, 128, 510, 0, 1024, 4094, 8190, 16383, 32767]
theorem record_Print.tab6 : rtab .any (opsOf Tryd.f10 6) = record_Print.T6 := by kernel_rfl
theorem record_Print.bits6 : waitsOk record_Print.T6.2 record_Print.B6 = true := by kernel_rfl
set_option maxHeartbeats 8000000 in
set_option maxRecDepth 100000 in
theorem record_Print.calls1 (k : Nat) (a0_0 : Int) (a0_1 : Int) (a0_2 : Int) (a0_3 : Int) (a0_4 : Int) (a0_5 : ByteArray) (a0_6 : Bool) (a0_7 : ByteArray) (a0_8 : Bool) (a0_9 : ByteArray) (a0_10 : Int) (r : ByteArray) (hkind : Aside0 (a0_0 = 1)) (w : World) (h : record_Print.f k a0_0 a0_1 a0_2 a0_3 a0_4 a0_5 a0_6 a0_7 a0_8 a0_9 a0_10 = some r) :
    Calls Tryd.prog 10 #[.agg #[.int .i64 a0_0, .int .i64 a0_1, .int .i64 a0_2, .int .i64 a0_3, .int .i64 a0_4, .string a0_5, .bool a0_6, .string a0_7, .bool a0_8, .string a0_9, .int .i64 a0_10]] w fun e w' => e = .returned (.string r) ∧ Below w.heap.size w w' := by
  have hu25 := Tryd.underlying25
  have hu23 := Tryd.underlying23
  have HB := Aside0.mk (Below.refl w.heap.size w)
  have H : ((record_right.f a0_0 a0_1 a0_2 a0_3 a0_4 a0_5 a0_6 a0_7 a0_8 a0_9 a0_10).bind fun t146 => (if t146 = true then ((some (([(⟨#[98, 101, 103, 105, 110]⟩ : ByteArray), (⟨#[117, 112, 100, 97, 116, 101]⟩ : ByteArray), (⟨#[99, 108, 114]⟩ : ByteArray), (⟨#[115, 97, 118, 101]⟩ : ByteArray), (⟨#[99, 111, 109, 109, 105, 116]⟩ : ByteArray), (⟨#[101, 110, 100]⟩ : ByteArray)] : List ByteArray) : List ByteArray)).bind fun y147 => (if 0 ≤ (wrap64 (a0_0 - 1)) then (if (wrap64 (a0_0 - 1)) < (y147.length : Int) then ((strconv_Itoa_26.f a0_2).bind fun t151 => ((strconv_Itoa_26.f a0_1).bind fun t152 => ((strconv_Itoa_26.f a0_3).bind fun t153 => ((record_line.f (rdOf ByteArray.empty y147 (wrap64 (a0_0 - 1))) (([t151, t152, t153] : List ByteArray))).bind fun t157 => ((record_changes.f a0_0).bind fun t158 => (if t158 = true then ((strconv_Itoa_26.f a0_4).bind fun t159 => ((record_digits.f a0_5).bind fun t160 => ((record_told.f a0_6 a0_7).bind fun t161 => ((record_told.f a0_8 a0_9).bind fun t162 => ((record_line.f t157 (([t159, t160, t161, t162] : List ByteArray))).bind fun t166 => (record_Print.j0 k t166 a0_0 a0_1 a0_2 a0_3 a0_4 a0_5 a0_6 a0_7 a0_8 a0_9 a0_10)))))) else (record_Print.j0 k t157 a0_0 a0_1 a0_2 a0_3 a0_4 a0_5 a0_6 a0_7 a0_8 a0_9 a0_10))))))) else (none)) else (none))) else (some (⟨#[]⟩ : ByteArray)))) = some r := h
  clear h
  replace H := Option.bind_eq_some_iff.mp H
  obtain ⟨t146, A20, H⟩ := H
  replace H : (if t146 = true then ((some (([(⟨#[98, 101, 103, 105, 110]⟩ : ByteArray), (⟨#[117, 112, 100, 97, 116, 101]⟩ : ByteArray), (⟨#[99, 108, 114]⟩ : ByteArray), (⟨#[115, 97, 118, 101]⟩ : ByteArray), (⟨#[99, 111, 109, 109, 105, 116]⟩ : ByteArray), (⟨#[101, 110, 100]⟩ : ByteArray)] : List ByteArray) : List ByteArray)).bind fun y147 => (if 0 ≤ (wrap64 (a0_0 - 1)) then (if (wrap64 (a0_0 - 1)) < (y147.length : Int) then ((strconv_Itoa_26.f a0_2).bind fun t151 => ((strconv_Itoa_26.f a0_1).bind fun t152 => ((strconv_Itoa_26.f a0_3).bind fun t153 => ((record_line.f (rdOf ByteArray.empty y147 (wrap64 (a0_0 - 1))) (([t151, t152, t153] : List ByteArray))).bind fun t157 => ((record_changes.f a0_0).bind fun t158 => (if t158 = true then ((strconv_Itoa_26.f a0_4).bind fun t159 => ((record_digits.f a0_5).bind fun t160 => ((record_told.f a0_6 a0_7).bind fun t161 => ((record_told.f a0_8 a0_9).bind fun t162 => ((record_line.f t157 (([t159, t160, t161, t162] : List ByteArray))).bind fun t166 => (record_Print.j0 k t166 a0_0 a0_1 a0_2 a0_3 a0_4 a0_5 a0_6 a0_7 a0_8 a0_9 a0_10)))))) else (record_Print.j0 k t157 a0_0 a0_1 a0_2 a0_3 a0_4 a0_5 a0_6 a0_7 a0_8 a0_9 a0_10))))))) else (none)) else (none))) else (some (⟨#[]⟩ : ByteArray))) = some r := H
  have A2 := Aside0.mk A20
  clear A20
  by_cases c3 : t146 = true
  · subst c3
    have H1 : ((some (([(⟨#[98, 101, 103, 105, 110]⟩ : ByteArray), (⟨#[117, 112, 100, 97, 116, 101]⟩ : ByteArray), (⟨#[99, 108, 114]⟩ : ByteArray), (⟨#[115, 97, 118, 101]⟩ : ByteArray), (⟨#[99, 111, 109, 109, 105, 116]⟩ : ByteArray), (⟨#[101, 110, 100]⟩ : ByteArray)] : List ByteArray) : List ByteArray)).bind fun y147 => (if 0 ≤ (wrap64 (a0_0 - 1)) then (if (wrap64 (a0_0 - 1)) < (y147.length : Int) then ((strconv_Itoa_26.f a0_2).bind fun t151 => ((strconv_Itoa_26.f a0_1).bind fun t152 => ((strconv_Itoa_26.f a0_3).bind fun t153 => ((record_line.f (rdOf ByteArray.empty y147 (wrap64 (a0_0 - 1))) (([t151, t152, t153] : List ByteArray))).bind fun t157 => ((record_changes.f a0_0).bind fun t158 => (if t158 = true then ((strconv_Itoa_26.f a0_4).bind fun t159 => ((record_digits.f a0_5).bind fun t160 => ((record_told.f a0_6 a0_7).bind fun t161 => ((record_told.f a0_8 a0_9).bind fun t162 => ((record_line.f t157 (([t159, t160, t161, t162] : List ByteArray))).bind fun t166 => (record_Print.j0 k t166 a0_0 a0_1 a0_2 a0_3 a0_4 a0_5 a0_6 a0_7 a0_8 a0_9 a0_10)))))) else (record_Print.j0 k t157 a0_0 a0_1 a0_2 a0_3 a0_4 a0_5 a0_6 a0_7 a0_8 a0_9 a0_10))))))) else (none)) else (none))) = some r := by rw [if_pos rfl] at H; exact H
    clear H
    have H := H1
    clear H1
    obtain ⟨y147, hy147⟩ : ∃ y_ : List ByteArray, y_ = (([(⟨#[98, 101, 103, 105, 110]⟩ : ByteArray), (⟨#[117, 112, 100, 97, 116, 101]⟩ : ByteArray), (⟨#[99, 108, 114]⟩ : ByteArray), (⟨#[115, 97, 118, 101]⟩ : ByteArray), (⟨#[99, 111, 109, 109, 105, 116]⟩ : ByteArray), (⟨#[101, 110, 100]⟩ : ByteArray)] : List ByteArray)) := ⟨_, rfl⟩
    replace H : (if 0 ≤ (wrap64 (a0_0 - 1)) then (if (wrap64 (a0_0 - 1)) < (y147.length : Int) then ((strconv_Itoa_26.f a0_2).bind fun t151 => ((strconv_Itoa_26.f a0_1).bind fun t152 => ((strconv_Itoa_26.f a0_3).bind fun t153 => ((record_line.f (rdOf ByteArray.empty y147 (wrap64 (a0_0 - 1))) (([t151, t152, t153] : List ByteArray))).bind fun t157 => ((record_changes.f a0_0).bind fun t158 => (if t158 = true then ((strconv_Itoa_26.f a0_4).bind fun t159 => ((record_digits.f a0_5).bind fun t160 => ((record_told.f a0_6 a0_7).bind fun t161 => ((record_told.f a0_8 a0_9).bind fun t162 => ((record_line.f t157 (([t159, t160, t161, t162] : List ByteArray))).bind fun t166 => (record_Print.j0 k t166 a0_0 a0_1 a0_2 a0_3 a0_4 a0_5 a0_6 a0_7 a0_8 a0_9 a0_10)))))) else (record_Print.j0 k t157 a0_0 a0_1 a0_2 a0_3 a0_4 a0_5 a0_6 a0_7 a0_8 a0_9 a0_10))))))) else (none)) else (none)) = some r := by first | (rw [hy147]; with_reducible exact H) | (have H2_ := (Option.bind_some _ _).symm.trans H; rw [hy147]; with_reducible exact H2_) | (have H2_ := (Option.bind_some _ _).symm.trans H; with_reducible exact H2_) | with_reducible exact H | (rw [hy147]; exact H) | exact H
    have Ny147 := Aside0.mk hy147
    clear hy147
    obtain ⟨ji4, hji4⟩ : ∃ j_ : Int, (wrap64 (a0_0 - 1)) = j_ := ⟨_, rfl⟩
    replace H : (if 0 ≤ (ji4) then (if (ji4) < (y147.length : Int) then ((strconv_Itoa_26.f a0_2).bind fun t151 => ((strconv_Itoa_26.f a0_1).bind fun t152 => ((strconv_Itoa_26.f a0_3).bind fun t153 => ((record_line.f (rdOf ByteArray.empty y147 (ji4)) (([t151, t152, t153] : List ByteArray))).bind fun t157 => ((record_changes.f a0_0).bind fun t158 => (if t158 = true then ((strconv_Itoa_26.f a0_4).bind fun t159 => ((record_digits.f a0_5).bind fun t160 => ((record_told.f a0_6 a0_7).bind fun t161 => ((record_told.f a0_8 a0_9).bind fun t162 => ((record_line.f t157 (([t159, t160, t161, t162] : List ByteArray))).bind fun t166 => (record_Print.j0 k t166 a0_0 a0_1 a0_2 a0_3 a0_4 a0_5 a0_6 a0_7 a0_8 a0_9 a0_10)))))) else (record_Print.j0 k t157 a0_0 a0_1 a0_2 a0_3 a0_4 a0_5 a0_6 a0_7 a0_8 a0_9 a0_10))))))) else (none)) else (none)) = some r := by first | (rw [hji4] at H; exact H) | (simp only [hji4] at H ⊢; exact H)
    (try rw [hji4] at A2)
    have hji4w : (IntKind.i64.wrap (a0_0 - 1)) = ji4 := (i64_w _).trans hji4
    by_cases c5 : 0 ≤ (ji4)
    · rw [if_pos c5] at H
      have c5b0 : decide (0 ≤ (ji4)) = true := decide_eq_true c5
      clear c5
      by_cases c6 : (ji4) < (y147.length : Int)
      · rw [if_pos c6] at H
        have c6b0 : decide ((ji4) < (y147.length : Int)) = true := decide_eq_true c6
        clear c6
        replace H := Option.bind_eq_some_iff.mp H
        obtain ⟨t151, A70, H⟩ := H
        replace H : ((strconv_Itoa_26.f a0_1).bind fun t152 => ((strconv_Itoa_26.f a0_3).bind fun t153 => ((record_line.f (rdOf ByteArray.empty y147 (ji4)) (([t151, t152, t153] : List ByteArray))).bind fun t157 => ((record_changes.f a0_0).bind fun t158 => (if t158 = true then ((strconv_Itoa_26.f a0_4).bind fun t159 => ((record_digits.f a0_5).bind fun t160 => ((record_told.f a0_6 a0_7).bind fun t161 => ((record_told.f a0_8 a0_9).bind fun t162 => ((record_line.f t157 (([t159, t160, t161, t162] : List ByteArray))).bind fun t166 => (record_Print.j0 k t166 a0_0 a0_1 a0_2 a0_3 a0_4 a0_5 a0_6 a0_7 a0_8 a0_9 a0_10)))))) else (record_Print.j0 k t157 a0_0 a0_1 a0_2 a0_3 a0_4 a0_5 a0_6 a0_7 a0_8 a0_9 a0_10)))))) = some r := H
        have A7 := Aside0.mk A70
        clear A70
        replace H := Option.bind_eq_some_iff.mp H
        obtain ⟨t152, A80, H⟩ := H
        replace H : ((strconv_Itoa_26.f a0_3).bind fun t153 => ((record_line.f (rdOf ByteArray.empty y147 (ji4)) (([t151, t152, t153] : List ByteArray))).bind fun t157 => ((record_changes.f a0_0).bind fun t158 => (if t158 = true then ((strconv_Itoa_26.f a0_4).bind fun t159 => ((record_digits.f a0_5).bind fun t160 => ((record_told.f a0_6 a0_7).bind fun t161 => ((record_told.f a0_8 a0_9).bind fun t162 => ((record_line.f t157 (([t159, t160, t161, t162] : List ByteArray))).bind fun t166 => (record_Print.j0 k t166 a0_0 a0_1 a0_2 a0_3 a0_4 a0_5 a0_6 a0_7 a0_8 a0_9 a0_10)))))) else (record_Print.j0 k t157 a0_0 a0_1 a0_2 a0_3 a0_4 a0_5 a0_6 a0_7 a0_8 a0_9 a0_10))))) = some r := H
        have A8 := Aside0.mk A80
        clear A80
        replace H := Option.bind_eq_some_iff.mp H
        obtain ⟨t153, A90, H⟩ := H
        replace H : ((record_line.f (rdOf ByteArray.empty y147 (ji4)) (([t151, t152, t153] : List ByteArray))).bind fun t157 => ((record_changes.f a0_0).bind fun t158 => (if t158 = true then ((strconv_Itoa_26.f a0_4).bind fun t159 => ((record_digits.f a0_5).bind fun t160 => ((record_told.f a0_6 a0_7).bind fun t161 => ((record_told.f a0_8 a0_9).bind fun t162 => ((record_line.f t157 (([t159, t160, t161, t162] : List ByteArray))).bind fun t166 => (record_Print.j0 k t166 a0_0 a0_1 a0_2 a0_3 a0_4 a0_5 a0_6 a0_7 a0_8 a0_9 a0_10)))))) else (record_Print.j0 k t157 a0_0 a0_1 a0_2 a0_3 a0_4 a0_5 a0_6 a0_7 a0_8 a0_9 a0_10)))) = some r := H
        have A9 := Aside0.mk A90
        clear A90
        obtain ⟨y154, hy154⟩ : ∃ y_ : List ByteArray, y_ = (([t151, t152, t153] : List ByteArray)) := ⟨_, rfl⟩
        replace H : ((record_line.f (rdOf ByteArray.empty y147 (ji4)) y154).bind fun t157 => ((record_changes.f a0_0).bind fun t158 => (if t158 = true then ((strconv_Itoa_26.f a0_4).bind fun t159 => ((record_digits.f a0_5).bind fun t160 => ((record_told.f a0_6 a0_7).bind fun t161 => ((record_told.f a0_8 a0_9).bind fun t162 => ((record_line.f t157 (([t159, t160, t161, t162] : List ByteArray))).bind fun t166 => (record_Print.j0 k t166 a0_0 a0_1 a0_2 a0_3 a0_4 a0_5 a0_6 a0_7 a0_8 a0_9 a0_10)))))) else (record_Print.j0 k t157 a0_0 a0_1 a0_2 a0_3 a0_4 a0_5 a0_6 a0_7 a0_8 a0_9 a0_10)))) = some r := by first | (rw [hy154]; with_reducible exact H) | (have H2_ := (Option.bind_some _ _).symm.trans H; rw [hy154]; with_reducible exact H2_) | (have H2_ := (Option.bind_some _ _).symm.trans H; with_reducible exact H2_) | with_reducible exact H | (rw [hy154]; exact H) | exact H
        have Ny154 := Aside0.mk hy154
        clear hy154
        replace H := Option.bind_eq_some_iff.mp H
        obtain ⟨t157, A100, H⟩ := H
        replace H : ((record_changes.f a0_0).bind fun t158 => (if t158 = true then ((strconv_Itoa_26.f a0_4).bind fun t159 => ((record_digits.f a0_5).bind fun t160 => ((record_told.f a0_6 a0_7).bind fun t161 => ((record_told.f a0_8 a0_9).bind fun t162 => ((record_line.f t157 (([t159, t160, t161, t162] : List ByteArray))).bind fun t166 => (record_Print.j0 k t166 a0_0 a0_1 a0_2 a0_3 a0_4 a0_5 a0_6 a0_7 a0_8 a0_9 a0_10)))))) else (record_Print.j0 k t157 a0_0 a0_1 a0_2 a0_3 a0_4 a0_5 a0_6 a0_7 a0_8 a0_9 a0_10))) = some r := H
        have A10 := Aside0.mk A100
        clear A100
        replace H := Option.bind_eq_some_iff.mp H
        obtain ⟨t158, A110, H⟩ := H
        replace H : (if t158 = true then ((strconv_Itoa_26.f a0_4).bind fun t159 => ((record_digits.f a0_5).bind fun t160 => ((record_told.f a0_6 a0_7).bind fun t161 => ((record_told.f a0_8 a0_9).bind fun t162 => ((record_line.f t157 (([t159, t160, t161, t162] : List ByteArray))).bind fun t166 => (record_Print.j0 k t166 a0_0 a0_1 a0_2 a0_3 a0_4 a0_5 a0_6 a0_7 a0_8 a0_9 a0_10)))))) else (record_Print.j0 k t157 a0_0 a0_1 a0_2 a0_3 a0_4 a0_5 a0_6 a0_7 a0_8 a0_9 a0_10)) = some r := H
        have A11 := Aside0.mk A110
        clear A110
        have HC12 := Aside0.mk H
        clear H
        go_enter Tryd.func10, Tryd.ntmps10
        try go_wp2_with (first | ((with_reducible refine gate_dst (N := 1) rfl ?_); refine box_event ?hg (N := 1) ?hd (cs := #[.int .i64 a0_0, .int .i64 a0_1, .int .i64 a0_2, .int .i64 a0_3, .int .i64 a0_4, .string a0_5, .bool a0_6, .string a0_7, .bool a0_8, .string a0_9, .int .i64 a0_10]) (t := 25) ?hr ?_; (case hd => rfl); (case hg => rfl); (case hr => first | (go_simp; done) | (go_simp; rfl)); intro gb145 hg w13 hbox hb; have n0_ := Aside0.mk (below_step (by repeat (first | (with_reducible first | exact HB.out | apply below_alloc | apply pw_below_drewN | apply below_drew1) | exact HB.out)) hb); have n1_ := Aside0.mk (hbox); have n2_ := Aside0.mk ((by rw [hg]; exact (below_size (by repeat (first | (with_reducible first | exact HB.out | apply below_alloc | apply pw_below_drewN | apply below_drew1) | exact HB.out))) : w.heap.size ≤ gb145)); have n3_ := Aside0.mk ((by rw [hg]; exact (below_size (by repeat (first | (with_reducible first | exact HB.out | apply below_alloc | apply pw_below_drewN | apply below_drew1) | exact HB.out))) : w.heap.size ≤ gb145)); clear HB; have HB := n0_; have BK145 := n1_; have GW145 := n2_; have GE145 := n3_; clear n0_ n1_ n2_ n3_; clear hb hbox hg; have hcz14_0 : w13.cell? ⟨gb145, 0, none⟩ = some (.int .i64 a0_0) := (blk_cell BK145.out 0).trans rfl; have hcz14_1 : w13.cell? ⟨gb145, 1, none⟩ = some (.int .i64 a0_1) := (blk_cell BK145.out 1).trans rfl; have hcz14_2 : w13.cell? ⟨gb145, 2, none⟩ = some (.int .i64 a0_2) := (blk_cell BK145.out 2).trans rfl; have hcz14_3 : w13.cell? ⟨gb145, 3, none⟩ = some (.int .i64 a0_3) := (blk_cell BK145.out 3).trans rfl; have hcz14_4 : w13.cell? ⟨gb145, 4, none⟩ = some (.int .i64 a0_4) := (blk_cell BK145.out 4).trans rfl; have hcz14_5 : w13.cell? ⟨gb145, 5, none⟩ = some (.string a0_5) := (blk_cell BK145.out 5).trans rfl; have hcz14_6 : w13.cell? ⟨gb145, 6, none⟩ = some (.bool a0_6) := (blk_cell BK145.out 6).trans rfl; have hcz14_7 : w13.cell? ⟨gb145, 7, none⟩ = some (.string a0_7) := (blk_cell BK145.out 7).trans rfl; have hcz14_8 : w13.cell? ⟨gb145, 8, none⟩ = some (.bool a0_8) := (blk_cell BK145.out 8).trans rfl; have hcz14_9 : w13.cell? ⟨gb145, 9, none⟩ = some (.string a0_9) := (blk_cell BK145.out 9).trans rfl; have hcz14_10 : w13.cell? ⟨gb145, 10, none⟩ = some (.int .i64 a0_10) := (blk_cell BK145.out 10).trans rfl; have hfz14_0 := blk_frozen BK145.out 0; have hfz14_1 := blk_frozen BK145.out 1; have hfz14_2 := blk_frozen BK145.out 2; have hfz14_3 := blk_frozen BK145.out 3; have hfz14_4 := blk_frozen BK145.out 4; have hfz14_5 := blk_frozen BK145.out 5; have hfz14_6 := blk_frozen BK145.out 6; have hfz14_7 := blk_frozen BK145.out 7; have hfz14_8 := blk_frozen BK145.out 8; have hfz14_9 := blk_frozen BK145.out 9; have hfz14_10 := blk_frozen BK145.out 10) | ((with_reducible refine gate_callee (f := 24) rfl ?_); refine goesL_ (some 6) rfl rfl Tryd.func24 (by kernel_rfl) rfl #[.agg #[.int .i64 a0_0, .int .i64 a0_1, .int .i64 a0_2, .int .i64 a0_3, .int .i64 a0_4, .string a0_5, .bool a0_6, .string a0_7, .bool a0_8, .string a0_9, .int .i64 a0_10]] rfl (by (try simp only [List.map_toArray, List.map_cons, List.map_nil]); first | done | rfl | (simp only [List.length_drop, List.length_take]; rfl)) ?_; (with_reducible refine (record_right.calls a0_0 a0_1 a0_2 a0_3 a0_4 a0_5 a0_6 a0_7 a0_8 a0_9 a0_10 true _ A2.out).mono ?_); rintro e w15 ⟨rfl, hb⟩; refine ⟨_, rfl, ?_⟩; have n0_ := Aside0.mk (blk_below (g := gb145) (o := .cells #[.int .i64 a0_0, .int .i64 a0_1, .int .i64 a0_2, .int .i64 a0_3, .int .i64 a0_4, .string a0_5, .bool a0_6, .string a0_7, .bool a0_8, .string a0_9, .int .i64 a0_10] 25 (0, 0)) (by (with_reducible repeat (first | refine blk_drewN ?_ _ | refine blk_drew ?_ | refine blk_alloc ?_ _)); exact BK145.out) hb); have n1_ := Aside0.mk (below_step (by repeat (first | (with_reducible first | exact HB.out | apply below_alloc | apply pw_below_drewN | apply below_drew1 | refine below_set ?_ GE145.out) | exact HB.out)) hb); clear BK145; clear HB; have BK145 := n0_; have HB := n1_; clear n0_ n1_; (try clear hb); (try clear hb2); (try clear hk); (try clear hi)) | ((with_reducible refine gate_dst (N := 8) rfl ?_); refine Kd.R_lit Kd.string _ 9 ?hg (N := 8) ?hd (xs := ([(⟨#[98, 101, 103, 105, 110]⟩ : ByteArray), (⟨#[117, 112, 100, 97, 116, 101]⟩ : ByteArray), (⟨#[99, 108, 114]⟩ : ByteArray), (⟨#[115, 97, 118, 101]⟩ : ByteArray), (⟨#[99, 111, 109, 109, 105, 116]⟩ : ByteArray), (⟨#[101, 110, 100]⟩ : ByteArray)] : List ByteArray)) (inner := [.string (⟨#[98, 101, 103, 105, 110]⟩ : ByteArray), .string (⟨#[117, 112, 100, 97, 116, 101]⟩ : ByteArray), .string (⟨#[99, 108, 114]⟩ : ByteArray), .string (⟨#[115, 97, 118, 101]⟩ : ByteArray), .string (⟨#[99, 111, 109, 109, 105, 116]⟩ : ByteArray), .string (⟨#[101, 110, 100]⟩ : ByteArray)]) (ok := fun _ => True) (okp := fun _ => True) ?hr ?hp (fun _ hk => hk) trivial (Below.refl _ _) (Nat.le_refl _) (by simp) ?_; (case hd => rfl); (case hg => rfl); (case hr => first | (go_simp; done) | (go_simp; rfl)); (case hp => exact (Reps.one (show Kd.M Kd.string _ _ _ (⟨#[98, 101, 103, 105, 110]⟩ : ByteArray) [.string (⟨#[98, 101, 103, 105, 110]⟩ : ByteArray)] from rfl) (Reps.one (show Kd.M Kd.string _ _ _ (⟨#[117, 112, 100, 97, 116, 101]⟩ : ByteArray) [.string (⟨#[117, 112, 100, 97, 116, 101]⟩ : ByteArray)] from rfl) (Reps.one (show Kd.M Kd.string _ _ _ (⟨#[99, 108, 114]⟩ : ByteArray) [.string (⟨#[99, 108, 114]⟩ : ByteArray)] from rfl) (Reps.one (show Kd.M Kd.string _ _ _ (⟨#[115, 97, 118, 101]⟩ : ByteArray) [.string (⟨#[115, 97, 118, 101]⟩ : ByteArray)] from rfl) (Reps.one (show Kd.M Kd.string _ _ _ (⟨#[99, 111, 109, 109, 105, 116]⟩ : ByteArray) [.string (⟨#[99, 111, 109, 109, 105, 116]⟩ : ByteArray)] from rfl) (Reps.one (show Kd.M Kd.string _ _ _ (⟨#[101, 110, 100]⟩ : ByteArray) [.string (⟨#[101, 110, 100]⟩ : ByteArray)] from rfl) (Reps.none _ _)))))))); intro v148 w16 ho17 hb hg_ hnew_; clear hg_ hnew_; (first | rw [← Ny147.out] at ho17 | (simp only [Int.reduceToNat] at ho17; rw [← Ny147.out] at ho17)); have n0_ := Aside0.mk (Kd.R_lower ho17 (below_size (by repeat (first | (with_reducible first | exact HB.out | apply below_alloc | apply pw_below_drewN | apply below_drew1 | refine below_set ?_ GE145.out) | exact HB.out)))); have n1_ := Aside0.mk (blk_below (g := gb145) (o := .cells #[.int .i64 a0_0, .int .i64 a0_1, .int .i64 a0_2, .int .i64 a0_3, .int .i64 a0_4, .string a0_5, .bool a0_6, .string a0_7, .bool a0_8, .string a0_9, .int .i64 a0_10] 25 (0, 0)) (by (with_reducible repeat (first | refine blk_drewN ?_ _ | refine blk_drew ?_ | refine blk_alloc ?_ _)); exact BK145.out) hb); have n2_ := Aside0.mk (below_step (by repeat (first | (with_reducible first | exact HB.out | apply below_alloc | apply pw_below_drewN | apply below_drew1 | refine below_set ?_ GE145.out) | exact HB.out)) hb); clear BK145; clear HB; have HO149 := n0_; have BK145 := n1_; have HB := n2_; clear n0_ n1_ n2_; clear hb ho17; have hcz18_0 : w16.cell? ⟨gb145, 0, none⟩ = some (.int .i64 a0_0) := (blk_cell BK145.out 0).trans rfl; have hcz18_1 : w16.cell? ⟨gb145, 1, none⟩ = some (.int .i64 a0_1) := (blk_cell BK145.out 1).trans rfl; have hcz18_2 : w16.cell? ⟨gb145, 2, none⟩ = some (.int .i64 a0_2) := (blk_cell BK145.out 2).trans rfl; have hcz18_3 : w16.cell? ⟨gb145, 3, none⟩ = some (.int .i64 a0_3) := (blk_cell BK145.out 3).trans rfl; have hcz18_4 : w16.cell? ⟨gb145, 4, none⟩ = some (.int .i64 a0_4) := (blk_cell BK145.out 4).trans rfl; have hcz18_5 : w16.cell? ⟨gb145, 5, none⟩ = some (.string a0_5) := (blk_cell BK145.out 5).trans rfl; have hcz18_6 : w16.cell? ⟨gb145, 6, none⟩ = some (.bool a0_6) := (blk_cell BK145.out 6).trans rfl; have hcz18_7 : w16.cell? ⟨gb145, 7, none⟩ = some (.string a0_7) := (blk_cell BK145.out 7).trans rfl; have hcz18_8 : w16.cell? ⟨gb145, 8, none⟩ = some (.bool a0_8) := (blk_cell BK145.out 8).trans rfl; have hcz18_9 : w16.cell? ⟨gb145, 9, none⟩ = some (.string a0_9) := (blk_cell BK145.out 9).trans rfl; have hcz18_10 : w16.cell? ⟨gb145, 10, none⟩ = some (.int .i64 a0_10) := (blk_cell BK145.out 10).trans rfl; have hfz18_0 := blk_frozen BK145.out 0; have hfz18_1 := blk_frozen BK145.out 1; have hfz18_2 := blk_frozen BK145.out 2; have hfz18_3 := blk_frozen BK145.out 3; have hfz18_4 := blk_frozen BK145.out 4; have hfz18_5 := blk_frozen BK145.out 5; have hfz18_6 := blk_frozen BK145.out 6; have hfz18_7 := blk_frozen BK145.out 7; have hfz18_8 := blk_frozen BK145.out 8; have hfz18_9 := blk_frozen BK145.out 9; have hfz18_10 := blk_frozen BK145.out 10; obtain ⟨Ao19, co19, eo19⟩ := Kd.R_slice HO149.out; subst eo19; have p150 : 0 ≤ ((ji4) : Int) := of_decide_eq_true (by first | (with_reducible assumption) | assumption); have q150 : (ji4) < (y147.length : Int) := of_decide_eq_true (by first | (with_reducible assumption) | assumption); obtain ⟨ad150, e150, hx150_0⟩ := Kd.at_string (Kd.R_reads' HO149.out).2.2 (ji4) p150 q150; cases e150; replace p150 := eq_true p150; replace q150 := eq_true q150))
        have n0_ := Aside0.mk (Kd.R_drew HO149.out)
        have n1_ := Aside0.mk (blk_drew BK145.out)
        have n2_ := Aside0.mk (below_drew1 HB.out)
        clear HO149
        clear BK145
        clear HB
        have HO149 := n0_
        have BK145 := n1_
        have HB := n2_
        clear n0_ n1_ n2_
        refine start_ (n := 13) (S := fun w' => w'.cell? ⟨gb145, 0, none⟩ = some (.int .i64 a0_0) ∧ w'.cell? ⟨gb145, 1, none⟩ = some (.int .i64 a0_1) ∧ w'.cell? ⟨gb145, 2, none⟩ = some (.int .i64 a0_2) ∧ w'.cell? ⟨gb145, 3, none⟩ = some (.int .i64 a0_3) ∧ w'.cell? ⟨gb145, 4, none⟩ = some (.int .i64 a0_4) ∧ w'.cell? ⟨gb145, 5, none⟩ = some (.string a0_5) ∧ w'.cell? ⟨gb145, 6, none⟩ = some (.bool a0_6) ∧ w'.cell? ⟨gb145, 7, none⟩ = some (.string a0_7) ∧ w'.cell? ⟨gb145, 8, none⟩ = some (.bool a0_8) ∧ w'.cell? ⟨gb145, 9, none⟩ = some (.string a0_9) ∧ w'.cell? ⟨gb145, 10, none⟩ = some (.int .i64 a0_10)) (ds := []) #[false, false, false, false, false, false, false, false, false, false, false, false, false] (by kernel_rfl) rfl rfl ⟨(blk_cell BK145.out 0).trans rfl, (blk_cell BK145.out 1).trans rfl, (blk_cell BK145.out 2).trans rfl, (blk_cell BK145.out 3).trans rfl, (blk_cell BK145.out 4).trans rfl, (blk_cell BK145.out 5).trans rfl, (blk_cell BK145.out 6).trans rfl, (blk_cell BK145.out 7).trans rfl, (blk_cell BK145.out 8).trans rfl, (blk_cell BK145.out 9).trans rfl, (blk_cell BK145.out 10).trans rfl⟩ (fun hHeld => ?_); refine with_tabW record_Print.tab4 record_Print.bits4 (fun HT_ HW_ => ?_)
        generalize w16.drew = w20 at HO149 BK145 HB hHeld ⊢
        refine pure_ (i := 0) (N := some 14) (v := ?_) (a' := ?_) #[true, false, false, false, false, false, false, false, false, false, false, false, false] rfl rfl (any_of HT_.out (by kernel_rfl)) (fun _ _ _ h => h) (Or.inl ⟨by rfl, ?_⟩) ?_ ?_
        rotate_left
        · intro w'
          go_simp
          with_reducible rfl
        rotate_left
        · simp only [Act.put, List.setIfInBounds_toArray, List.set_cons_zero, List.set_cons_succ, i64_w, i32_w]
          rfl
        refine pure_ (i := 1) (N := some 15) (v := ?_) (a' := ?_) #[true, true, false, false, false, false, false, false, false, false, false, false, false] rfl rfl (any_of HT_.out (by kernel_rfl)) (fun _ _ _ h => h) (Or.inl ⟨by rfl, ?_⟩) ?_ ?_
        rotate_left
        · intro w'
          go_simp
          with_reducible rfl
        rotate_left
        · simp only [Act.put, List.setIfInBounds_toArray, List.set_cons_zero, List.set_cons_succ, i64_w, i32_w]
          rfl
        refine pure_ (i := 4) (N := some 18) (v := ?_) (a' := ?_) #[true, true, false, false, true, false, false, false, false, false, false, false, false] rfl rfl (any_of HT_.out (by kernel_rfl)) (fun _ _ _ h => h) (Or.inl ⟨by rfl, ?_⟩) ?_ ?_
        rotate_left
        · intro w'
          go_simp
          with_reducible rfl
        rotate_left
        · simp only [Act.put, List.setIfInBounds_toArray, List.set_cons_zero, List.set_cons_succ, i64_w, i32_w]
          rfl
        refine pure_ (i := 7) (N := some 21) (v := ?_) (a' := ?_) #[true, true, false, false, true, false, false, true, false, false, false, false, false] rfl rfl (any_of HT_.out (by kernel_rfl)) (fun _ _ _ h => h) (Or.inl ⟨by rfl, ?_⟩) ?_ ?_
        rotate_left
        · intro w'
          go_simp
          with_reducible rfl
        rotate_left
        · simp only [Act.put, List.setIfInBounds_toArray, List.set_cons_zero, List.set_cons_succ, i64_w, i32_w]
          rfl
        refine take_ (i := 2) (N := some 16) (v := ?_) (a' := ?_) #[true, true, true, false, true, false, false, true, false, false, false, false, false] rfl rfl (take_ofW HT_.out HW_.out (by kernel_rfl)) (fun _ _ _ h => h) (Or.inl ⟨by rfl, ?_⟩) hHeld ?_ ?_
        rotate_left
        · rintro w' ⟨s0, s1, s2, s3, s4, s5, s6, s7, s8, s9, s10⟩
          go_simp
          with_reducible rfl
        rotate_left
        · simp only [Act.put, List.setIfInBounds_toArray, List.set_cons_zero, List.set_cons_succ, i64_w, i32_w]
          rfl
        refine take_ (i := 5) (N := some 19) (v := ?_) (a' := ?_) #[true, true, true, false, true, true, false, true, false, false, false, false, false] rfl rfl (take_ofW HT_.out HW_.out (by kernel_rfl)) (fun _ _ _ h => h) (Or.inl ⟨by rfl, ?_⟩) hHeld ?_ ?_
        rotate_left
        · rintro w' ⟨s0, s1, s2, s3, s4, s5, s6, s7, s8, s9, s10⟩
          go_simp
          with_reducible rfl
        rotate_left
        · simp only [Act.put, List.setIfInBounds_toArray, List.set_cons_zero, List.set_cons_succ, i64_w, i32_w]
          rfl
        refine take_ (i := 8) (N := some 22) (v := ?_) (a' := ?_) #[true, true, true, false, true, true, false, true, true, false, false, false, false] rfl rfl (take_ofW HT_.out HW_.out (by kernel_rfl)) (fun _ _ _ h => h) (Or.inl ⟨by rfl, ?_⟩) hHeld ?_ ?_
        rotate_left
        · rintro w' ⟨s0, s1, s2, s3, s4, s5, s6, s7, s8, s9, s10⟩
          go_simp
          with_reducible rfl
        rotate_left
        · simp only [Act.put, List.setIfInBounds_toArray, List.set_cons_zero, List.set_cons_succ, i64_w, i32_w]
          rfl
        refine one_ (i := 3) (N := some 17) #[true, true, true, true, true, true, false, true, true, false, false, false, false] rfl rfl (one_of HT_.out (by kernel_rfl)) (by decide) (fun K hK => ?_)
        refine goes_ Tryd.func26 (by kernel_rfl) rfl #[.int .i64 a0_2] (by rfl) rfl rfl (by (try simp only [List.map_toArray, List.map_cons, List.map_nil]); first | done | rfl | (simp only [List.length_drop, List.length_take]; rfl)) ?_
        with_reducible refine (strconv_Itoa_26.calls a0_2 t151 _ A7.out).mono ?_
        rintro e w21 ⟨rfl, hb⟩
        refine ⟨_, rfl, ?_⟩
        have n0_ := Aside0.mk (Kd.R_below (by (with_reducible repeat (first | apply Kd.R_alloc | apply Kd.R_drewN | apply Kd.R_drew)); exact HO149.out) hb)
        have n1_ := Aside0.mk (blk_below (g := gb145) (o := .cells #[.int .i64 a0_0, .int .i64 a0_1, .int .i64 a0_2, .int .i64 a0_3, .int .i64 a0_4, .string a0_5, .bool a0_6, .string a0_7, .bool a0_8, .string a0_9, .int .i64 a0_10] 25 (0, 0)) (by (with_reducible repeat (first | refine blk_drewN ?_ _ | refine blk_drew ?_ | refine blk_alloc ?_ _)); exact BK145.out) hb)
        have n2_ := Aside0.mk (below_step (by repeat (first | (with_reducible first | exact HB.out | apply below_alloc | apply pw_below_drewN | apply below_drew1 | refine below_set ?_ GE145.out) | exact HB.out)) hb)
        clear HO149
        clear BK145
        clear HB
        have HO149 := n0_
        have BK145 := n1_
        have HB := n2_
        clear n0_ n1_ n2_
        (try clear hb)
        (try clear hb2)
        (try clear hk)
        (try clear hi)
        refine hK.out _ _ ⟨(blk_cell BK145.out 0).trans rfl, (blk_cell BK145.out 1).trans rfl, (blk_cell BK145.out 2).trans rfl, (blk_cell BK145.out 3).trans rfl, (blk_cell BK145.out 4).trans rfl, (blk_cell BK145.out 5).trans rfl, (blk_cell BK145.out 6).trans rfl, (blk_cell BK145.out 7).trans rfl, (blk_cell BK145.out 8).trans rfl, (blk_cell BK145.out 9).trans rfl, (blk_cell BK145.out 10).trans rfl⟩ (fun hHeld => ?_)
        clear hK K
        refine norm_ (a' := ?_) ?_ ?_
        rotate_left
        · show Act.put _ (some 17) _ = _
          simp only [Act.put, List.setIfInBounds_toArray, List.set_cons_zero, List.set_cons_succ, i64_w, i32_w]
          rfl
        refine one_ (i := 6) (N := some 20) #[true, true, true, true, true, true, true, true, true, false, false, false, false] rfl rfl (one_of HT_.out (by kernel_rfl)) (by decide) (fun K hK => ?_)
        refine goes_ Tryd.func26 (by kernel_rfl) rfl #[.int .i64 a0_1] (by rfl) rfl rfl (by (try simp only [List.map_toArray, List.map_cons, List.map_nil]); first | done | rfl | (simp only [List.length_drop, List.length_take]; rfl)) ?_
        with_reducible refine (strconv_Itoa_26.calls a0_1 t152 _ A8.out).mono ?_
        rintro e w22 ⟨rfl, hb⟩
        refine ⟨_, rfl, ?_⟩
        have n0_ := Aside0.mk (Kd.R_below (by (with_reducible repeat (first | apply Kd.R_alloc | apply Kd.R_drewN | apply Kd.R_drew)); exact HO149.out) hb)
        have n1_ := Aside0.mk (blk_below (g := gb145) (o := .cells #[.int .i64 a0_0, .int .i64 a0_1, .int .i64 a0_2, .int .i64 a0_3, .int .i64 a0_4, .string a0_5, .bool a0_6, .string a0_7, .bool a0_8, .string a0_9, .int .i64 a0_10] 25 (0, 0)) (by (with_reducible repeat (first | refine blk_drewN ?_ _ | refine blk_drew ?_ | refine blk_alloc ?_ _)); exact BK145.out) hb)
        have n2_ := Aside0.mk (below_step (by repeat (first | (with_reducible first | exact HB.out | apply below_alloc | apply pw_below_drewN | apply below_drew1 | refine below_set ?_ GE145.out) | exact HB.out)) hb)
        clear HO149
        clear BK145
        clear HB
        have HO149 := n0_
        have BK145 := n1_
        have HB := n2_
        clear n0_ n1_ n2_
        (try clear hb)
        (try clear hb2)
        (try clear hk)
        (try clear hi)
        refine hK.out _ _ ⟨(blk_cell BK145.out 0).trans rfl, (blk_cell BK145.out 1).trans rfl, (blk_cell BK145.out 2).trans rfl, (blk_cell BK145.out 3).trans rfl, (blk_cell BK145.out 4).trans rfl, (blk_cell BK145.out 5).trans rfl, (blk_cell BK145.out 6).trans rfl, (blk_cell BK145.out 7).trans rfl, (blk_cell BK145.out 8).trans rfl, (blk_cell BK145.out 9).trans rfl, (blk_cell BK145.out 10).trans rfl⟩ (fun hHeld => ?_)
        clear hK K
        refine norm_ (a' := ?_) ?_ ?_
        rotate_left
        · show Act.put _ (some 20) _ = _
          simp only [Act.put, List.setIfInBounds_toArray, List.set_cons_zero, List.set_cons_succ, i64_w, i32_w]
          rfl
        refine one_ (i := 9) (N := some 23) #[true, true, true, true, true, true, true, true, true, true, false, false, false] rfl rfl (one_of HT_.out (by kernel_rfl)) (by decide) (fun K hK => ?_)
        refine goes_ Tryd.func26 (by kernel_rfl) rfl #[.int .i64 a0_3] (by rfl) rfl rfl (by (try simp only [List.map_toArray, List.map_cons, List.map_nil]); first | done | rfl | (simp only [List.length_drop, List.length_take]; rfl)) ?_
        with_reducible refine (strconv_Itoa_26.calls a0_3 t153 _ A9.out).mono ?_
        rintro e w23 ⟨rfl, hb⟩
        refine ⟨_, rfl, ?_⟩
        have n0_ := Aside0.mk (Kd.R_below (by (with_reducible repeat (first | apply Kd.R_alloc | apply Kd.R_drewN | apply Kd.R_drew)); exact HO149.out) hb)
        have n1_ := Aside0.mk (blk_below (g := gb145) (o := .cells #[.int .i64 a0_0, .int .i64 a0_1, .int .i64 a0_2, .int .i64 a0_3, .int .i64 a0_4, .string a0_5, .bool a0_6, .string a0_7, .bool a0_8, .string a0_9, .int .i64 a0_10] 25 (0, 0)) (by (with_reducible repeat (first | refine blk_drewN ?_ _ | refine blk_drew ?_ | refine blk_alloc ?_ _)); exact BK145.out) hb)
        have n2_ := Aside0.mk (below_step (by repeat (first | (with_reducible first | exact HB.out | apply below_alloc | apply pw_below_drewN | apply below_drew1 | refine below_set ?_ GE145.out) | exact HB.out)) hb)
        clear HO149
        clear BK145
        clear HB
        have HO149 := n0_
        have BK145 := n1_
        have HB := n2_
        clear n0_ n1_ n2_
        (try clear hb)
        (try clear hb2)
        (try clear hk)
        (try clear hi)
        refine hK.out _ _ ⟨(blk_cell BK145.out 0).trans rfl, (blk_cell BK145.out 1).trans rfl, (blk_cell BK145.out 2).trans rfl, (blk_cell BK145.out 3).trans rfl, (blk_cell BK145.out 4).trans rfl, (blk_cell BK145.out 5).trans rfl, (blk_cell BK145.out 6).trans rfl, (blk_cell BK145.out 7).trans rfl, (blk_cell BK145.out 8).trans rfl, (blk_cell BK145.out 9).trans rfl, (blk_cell BK145.out 10).trans rfl⟩ (fun hHeld => ?_)
        clear hK K
        refine norm_ (a' := ?_) ?_ ?_
        rotate_left
        · show Act.put _ (some 23) _ = _
          simp only [Act.put, List.setIfInBounds_toArray, List.set_cons_zero, List.set_cons_succ, i64_w, i32_w]
          rfl
        refine one_ (i := 10) (N := some 24) #[true, true, true, true, true, true, true, true, true, true, true, false, false] rfl rfl (one_of HT_.out (by kernel_rfl)) (by decide) (fun K hK => ?_)
        refine Kd.R_lit_step Kd.string _ 9 ?hg (N := 24) ?hd (xs := ([t151, t152, t153] : List ByteArray)) (inner := [.string t151, .string t152, .string t153]) (ok := fun _ => True) (okp := fun _ => True) ?hr ?hp (fun _ hk => hk) trivial (Below.refl _ _) (Nat.le_refl _) (by simp) ?_; (case hd => rfl); (case hg => rfl); (case hr => first | (go_simp; done) | (go_simp; rfl)); (case hp => exact (Reps.one (show Kd.M Kd.string _ _ _ t151 [.string t151] from rfl) (Reps.one (show Kd.M Kd.string _ _ _ t152 [.string t152] from rfl) (Reps.one (show Kd.M Kd.string _ _ _ t153 [.string t153] from rfl) (Reps.none _ _)))))
        intro v155 w24 ho25 hb hg_ hnew_
        clear hg_ hnew_
        (first | rw [← Ny154.out] at ho25 | (simp only [Int.reduceToNat] at ho25; rw [← Ny154.out] at ho25))
        have n0_ := Aside0.mk (Kd.R_elder' (by (with_reducible repeat (first | apply Kd.R_alloc | apply Kd.R_drewN | apply Kd.R_drew)); exact HO149.out) (Kd.R_base ho25) hb)
        have n1_ := Aside0.mk (Kd.R_lower (Kd.R_new' ho25 (Kd.R_lt (by (with_reducible repeat (first | apply Kd.R_alloc | apply Kd.R_drewN | apply Kd.R_drew)); exact HO149.out))) (below_size (by repeat (first | (with_reducible first | exact HB.out | apply below_alloc | apply pw_below_drewN | apply below_drew1 | refine below_set ?_ GE145.out) | exact HB.out))))
        have n2_ := Aside0.mk (blk_below (g := gb145) (o := .cells #[.int .i64 a0_0, .int .i64 a0_1, .int .i64 a0_2, .int .i64 a0_3, .int .i64 a0_4, .string a0_5, .bool a0_6, .string a0_7, .bool a0_8, .string a0_9, .int .i64 a0_10] 25 (0, 0)) (by (with_reducible repeat (first | refine blk_drewN ?_ _ | refine blk_drew ?_ | refine blk_alloc ?_ _)); exact BK145.out) hb)
        have n3_ := Aside0.mk (below_step (by repeat (first | (with_reducible first | exact HB.out | apply below_alloc | apply pw_below_drewN | apply below_drew1 | refine below_set ?_ GE145.out) | exact HB.out)) hb)
        clear HO149
        clear BK145
        clear HB
        have HO149 := n0_
        have HO156 := n1_
        have BK145 := n2_
        have HB := n3_
        clear n0_ n1_ n2_ n3_
        clear hb ho25
        obtain ⟨Ao26, co26, eo26⟩ := Kd.R_slice HO156.out
        (first | subst eo26 | (injection eo26 with f1_ f2_ f3_; have f4_ := f1_.symm; have f5_ := f3_.symm; clear f1_ f2_ f3_; subst f4_; subst f5_))
        refine hK.out _ _ ⟨(blk_cell BK145.out 0).trans rfl, (blk_cell BK145.out 1).trans rfl, (blk_cell BK145.out 2).trans rfl, (blk_cell BK145.out 3).trans rfl, (blk_cell BK145.out 4).trans rfl, (blk_cell BK145.out 5).trans rfl, (blk_cell BK145.out 6).trans rfl, (blk_cell BK145.out 7).trans rfl, (blk_cell BK145.out 8).trans rfl, (blk_cell BK145.out 9).trans rfl, (blk_cell BK145.out 10).trans rfl⟩ (fun hHeld => ?_)
        clear hK K
        refine norm_ (a' := ?_) ?_ ?_
        rotate_left
        · show Act.put _ (some 24) _ = _
          simp only [Act.put, List.setIfInBounds_toArray, List.set_cons_zero, List.set_cons_succ, i64_w, i32_w]
          rfl
        refine one_ (i := 11) (N := some 25) #[true, true, true, true, true, true, true, true, true, true, true, true, false] rfl rfl (one_of HT_.out (by kernel_rfl)) (by decide) (fun K hK => ?_)
        refine goes_ Tryd.func25 (by kernel_rfl) rfl #[.string (rdOf ByteArray.empty y147 (ji4)), .slice Ao26 y154.length co26] (by rfl) rfl rfl (by (try simp only [List.map_toArray, List.map_cons, List.map_nil]); first | done | (simp only [hji4]; rfl) | rfl | (simp only [List.length_drop, List.length_take]; rfl)) ?_
        with_reducible refine (record_line.calls (rdOf ByteArray.empty y147 (ji4)) _ _ y154 t157 _ ?side1 ?side2 A10.out).mono ?_
        (case side1 => repeat (first | exact (Kd.R_reads' HO156.out).2.2 | (with_reducible refine Kd.C_alloc ?_ _) | (with_reducible refine Kd.C_drewN ?_ _) | (with_reducible refine Kd.C_drew ?_)))
        (case side2 => exact (Kd.R_reads' HO156.out).2.1)
        rintro e w27 ⟨rfl, hb⟩
        refine ⟨_, rfl, ?_⟩
        have n0_ := Aside0.mk (Kd.R_below (by (with_reducible repeat (first | apply Kd.R_alloc | apply Kd.R_drewN | apply Kd.R_drew)); exact HO149.out) hb)
        have n1_ := Aside0.mk (Kd.R_below (by (with_reducible repeat (first | apply Kd.R_alloc | apply Kd.R_drewN | apply Kd.R_drew)); exact HO156.out) hb)
        have n2_ := Aside0.mk (blk_below (g := gb145) (o := .cells #[.int .i64 a0_0, .int .i64 a0_1, .int .i64 a0_2, .int .i64 a0_3, .int .i64 a0_4, .string a0_5, .bool a0_6, .string a0_7, .bool a0_8, .string a0_9, .int .i64 a0_10] 25 (0, 0)) (by (with_reducible repeat (first | refine blk_drewN ?_ _ | refine blk_drew ?_ | refine blk_alloc ?_ _)); exact BK145.out) hb)
        have n3_ := Aside0.mk (below_step (by repeat (first | (with_reducible first | exact HB.out | apply below_alloc | apply pw_below_drewN | apply below_drew1 | refine below_set ?_ GE145.out) | exact HB.out)) hb)
        clear HO149
        clear HO156
        clear BK145
        clear HB
        have HO149 := n0_
        have HO156 := n1_
        have BK145 := n2_
        have HB := n3_
        clear n0_ n1_ n2_ n3_
        (try clear hb)
        (try clear hb2)
        (try clear hk)
        (try clear hi)
        refine hK.out _ _ ⟨(blk_cell BK145.out 0).trans rfl, (blk_cell BK145.out 1).trans rfl, (blk_cell BK145.out 2).trans rfl, (blk_cell BK145.out 3).trans rfl, (blk_cell BK145.out 4).trans rfl, (blk_cell BK145.out 5).trans rfl, (blk_cell BK145.out 6).trans rfl, (blk_cell BK145.out 7).trans rfl, (blk_cell BK145.out 8).trans rfl, (blk_cell BK145.out 9).trans rfl, (blk_cell BK145.out 10).trans rfl⟩ (fun hHeld => ?_)
        clear hK K
        refine norm_ (a' := ?_) ?_ ?_
        rotate_left
        · show Act.put _ (some 25) _ = _
          simp only [Act.put, List.setIfInBounds_toArray, List.set_cons_zero, List.set_cons_succ, i64_w, i32_w]
          rfl
        refine pure_ (i := 12) (N := some 4) (v := ?_) (a' := ?_) #[true, true, true, true, true, true, true, true, true, true, true, true, true] rfl rfl (any_of HT_.out (by kernel_rfl)) (fun _ _ _ h => h) (Or.inl ⟨by rfl, ?_⟩) ?_ ?_
        rotate_left
        · intro w'
          go_simp
          with_reducible rfl
        rotate_left
        · simp only [Act.put, List.setIfInBounds_toArray, List.set_cons_zero, List.set_cons_succ, i64_w, i32_w]
          rfl
        refine done_ (done_of HT_.out (by kernel_rfl)) ?_
        have hcz28_0 : w27.cell? ⟨gb145, 0, none⟩ = some (.int .i64 a0_0) := (blk_cell BK145.out 0).trans rfl
        have hcz28_1 : w27.cell? ⟨gb145, 1, none⟩ = some (.int .i64 a0_1) := (blk_cell BK145.out 1).trans rfl
        have hcz28_2 : w27.cell? ⟨gb145, 2, none⟩ = some (.int .i64 a0_2) := (blk_cell BK145.out 2).trans rfl
        have hcz28_3 : w27.cell? ⟨gb145, 3, none⟩ = some (.int .i64 a0_3) := (blk_cell BK145.out 3).trans rfl
        have hcz28_4 : w27.cell? ⟨gb145, 4, none⟩ = some (.int .i64 a0_4) := (blk_cell BK145.out 4).trans rfl
        have hcz28_5 : w27.cell? ⟨gb145, 5, none⟩ = some (.string a0_5) := (blk_cell BK145.out 5).trans rfl
        have hcz28_6 : w27.cell? ⟨gb145, 6, none⟩ = some (.bool a0_6) := (blk_cell BK145.out 6).trans rfl
        have hcz28_7 : w27.cell? ⟨gb145, 7, none⟩ = some (.string a0_7) := (blk_cell BK145.out 7).trans rfl
        have hcz28_8 : w27.cell? ⟨gb145, 8, none⟩ = some (.bool a0_8) := (blk_cell BK145.out 8).trans rfl
        have hcz28_9 : w27.cell? ⟨gb145, 9, none⟩ = some (.string a0_9) := (blk_cell BK145.out 9).trans rfl
        have hcz28_10 : w27.cell? ⟨gb145, 10, none⟩ = some (.int .i64 a0_10) := (blk_cell BK145.out 10).trans rfl
        have hfz28_0 := blk_frozen BK145.out 0
        have hfz28_1 := blk_frozen BK145.out 1
        have hfz28_2 := blk_frozen BK145.out 2
        have hfz28_3 := blk_frozen BK145.out 3
        have hfz28_4 := blk_frozen BK145.out 4
        have hfz28_5 := blk_frozen BK145.out 5
        have hfz28_6 := blk_frozen BK145.out 6
        have hfz28_7 := blk_frozen BK145.out 7
        have hfz28_8 := blk_frozen BK145.out 8
        have hfz28_9 := blk_frozen BK145.out 9
        have hfz28_10 := blk_frozen BK145.out 10
        go_upto_if 28 with (first | ((with_reducible refine gate_callee (f := 27) rfl ?_); refine goesL_ (some 28) rfl rfl Tryd.func27 (by kernel_rfl) rfl #[.int .i64 a0_0] rfl (by (try simp only [List.map_toArray, List.map_cons, List.map_nil]); first | done | rfl | (simp only [List.length_drop, List.length_take]; rfl)) ?_; (with_reducible refine (record_changes.calls a0_0 t158 _ A11.out).mono ?_); rintro e w' ⟨rfl, ⟨nd, rfl⟩⟩; refine ⟨_, rfl, ?_⟩))
        (try simp only [Act.put, List.setIfInBounds_toArray, List.set_cons_zero, List.set_cons_succ])
        go_cut [4] (fun v4 wc => ∃ (kq : Nat) (x4_11 : ByteArray), v4 = .string x4_11 ∧ Aside0 (record_Print.j0 kq x4_11 a0_0 a0_1 a0_2 a0_3 a0_4 a0_5 a0_6 a0_7 a0_8 a0_9 a0_10 = some r) ∧ Aside0 (kq ≤ k) ∧ Aside0 (wc.heap[gb145]? = some (.cells #[.int .i64 a0_0, .int .i64 a0_1, .int .i64 a0_2, .int .i64 a0_3, .int .i64 a0_4, .string a0_5, .bool a0_6, .string a0_7, .bool a0_8, .string a0_9, .int .i64 a0_10] 25 (0, 0))) ∧ Aside0 (Below w.heap.size w wc))
        case first =>
          have H := HC12.out
          clear HC12
          by_cases c29 : t158 = true
          · exact absurd (show record_changes.f 1 = some true from by have e_ := A11.out; rw [hkind.out, c29] at e_; exact e_) (by decide)
          · replace c29 := Bool.eq_false_iff.mpr c29
            subst c29
            have H1 : (record_Print.j0 k t157 a0_0 a0_1 a0_2 a0_3 a0_4 a0_5 a0_6 a0_7 a0_8 a0_9 a0_10) = some r := by rw [if_neg (show ¬ (false = true) by decide)] at H; exact H
            clear H
            have H := H1
            clear H1
            have H' := Aside0.mk H
            clear H
            go_wp2
            go_meet
            case rel => exact ⟨_, (t157), (by first | rfl | (simp; done) | (simp [*]; done)), H', ⟨by first | omega | exact Nat.le_refl _⟩, ⟨by (with_reducible repeat (first | refine blk_drewN ?_ _ | refine blk_drew ?_ | refine blk_alloc ?_ _)); exact BK145.out⟩, ⟨by repeat (first | (with_reducible first | exact HB.out | apply below_alloc | apply pw_below_drewN | apply below_drew1 | refine below_set ?_ GE145.out) | exact HB.out)⟩⟩
        case rest =>
          clear HC12
          try clear c1
          try clear p1
          try clear q1
          try clear hx1
          try clear c2
          try clear p2
          try clear c10
          try clear p15
          try clear q15
          try clear hx15
          try clear c24
          try clear c25
          try clear c26
          try clear c27
          try clear c28
          try clear c29
          try clear hcz14_0
          try clear hcz14_1
          try clear hcz14_10
          try clear hcz14_2
          try clear hcz14_3
          try clear hcz14_4
          try clear hcz14_5
          try clear hcz14_6
          try clear hcz14_7
          try clear hcz14_8
          try clear hcz14_9
          try clear hcz18_0
          try clear hcz18_1
          try clear hcz18_10
          try clear hcz18_2
          try clear hcz18_3
          try clear hcz18_4
          try clear hcz18_5
          try clear hcz18_6
          try clear hcz18_7
          try clear hcz18_8
          try clear hcz18_9
          try clear hcz28_0
          try clear hcz28_1
          try clear hcz28_10
          try clear hcz28_2
          try clear hcz28_3
          try clear hcz28_4
          try clear hcz28_5
          try clear hcz28_6
          try clear hcz28_7
          try clear hcz28_8
          try clear hcz28_9
          try clear hfz14_0
          try clear hfz14_1
          try clear hfz14_10
          try clear hfz14_2
          try clear hfz14_3
          try clear hfz14_4
          try clear hfz14_5
          try clear hfz14_6
          try clear hfz14_7
          try clear hfz14_8
          try clear hfz14_9
          try clear hfz18_0
          try clear hfz18_1
          try clear hfz18_10
          try clear hfz18_2
          try clear hfz18_3
          try clear hfz18_4
          try clear hfz18_5
          try clear hfz18_6
          try clear hfz18_7
          try clear hfz18_8
          try clear hfz18_9
          try clear hfz28_0
          try clear hfz28_1
          try clear hfz28_10
          try clear hfz28_2
          try clear hfz28_3
          try clear hfz28_4
          try clear hfz28_5
          try clear hfz28_6
          try clear hfz28_7
          try clear hfz28_8
          try clear hfz28_9
          try clear hx150_0
          try clear p150
          try clear q150
          obtain ⟨kq, x4_11, rfl, HA, HJ11, BK145, HB⟩ := hcut
          cases kq with
          | zero => exact absurd HA.out (by simp [record_Print.j0])
          | succ kj11 =>
            have H := HA.out
            clear HA
            simp only [record_Print.j0] at H
            have HC44 := Aside0.mk H
            clear H
            go_upto_region 7 with (fail)
            go_cut [51] (fun v51 wc => ∃ (kq : Nat) (x51_43 : Bool), v51 = .bool x51_43 ∧ Aside0 (record_Print.j1 kq x4_11 x51_43 a0_0 a0_1 a0_2 a0_3 a0_4 a0_5 a0_6 a0_7 a0_8 a0_9 a0_10 = some r) ∧ Aside0 (kq ≤ kj11) ∧ Aside0 (wc.heap[gb145]? = some (.cells #[.int .i64 a0_0, .int .i64 a0_1, .int .i64 a0_2, .int .i64 a0_3, .int .i64 a0_4, .string a0_5, .bool a0_6, .string a0_7, .bool a0_8, .string a0_9, .int .i64 a0_10] 25 (0, 0))) ∧ Aside0 (Below w.heap.size w wc))
            case first =>
              have H := HC44.out
              clear HC44
              by_cases c45 : a0_0 = 3
              · exact absurd (hkind.out.symm.trans c45) (by decide)
              · rw [if_neg c45] at H
                have c45b0 : (a0_0 == 3) = false := beq_eq_false_iff_ne.mpr c45
                have c45b1 : (a0_0 != 3) = true := bne_iff_ne.mpr c45
                (first | rw [c45b0] | (simp only [i64_w, i32_w]; rw [c45b0]) | skip)
                have H' := Aside0.mk H
                clear H
                have hcz47_0 : wc.cell? ⟨gb145, 0, none⟩ = some (.int .i64 a0_0) := (blk_cell BK145.out 0).trans rfl
                have hcz47_1 : wc.cell? ⟨gb145, 1, none⟩ = some (.int .i64 a0_1) := (blk_cell BK145.out 1).trans rfl
                have hcz47_2 : wc.cell? ⟨gb145, 2, none⟩ = some (.int .i64 a0_2) := (blk_cell BK145.out 2).trans rfl
                have hcz47_3 : wc.cell? ⟨gb145, 3, none⟩ = some (.int .i64 a0_3) := (blk_cell BK145.out 3).trans rfl
                have hcz47_4 : wc.cell? ⟨gb145, 4, none⟩ = some (.int .i64 a0_4) := (blk_cell BK145.out 4).trans rfl
                have hcz47_5 : wc.cell? ⟨gb145, 5, none⟩ = some (.string a0_5) := (blk_cell BK145.out 5).trans rfl
                have hcz47_6 : wc.cell? ⟨gb145, 6, none⟩ = some (.bool a0_6) := (blk_cell BK145.out 6).trans rfl
                have hcz47_7 : wc.cell? ⟨gb145, 7, none⟩ = some (.string a0_7) := (blk_cell BK145.out 7).trans rfl
                have hcz47_8 : wc.cell? ⟨gb145, 8, none⟩ = some (.bool a0_8) := (blk_cell BK145.out 8).trans rfl
                have hcz47_9 : wc.cell? ⟨gb145, 9, none⟩ = some (.string a0_9) := (blk_cell BK145.out 9).trans rfl
                have hcz47_10 : wc.cell? ⟨gb145, 10, none⟩ = some (.int .i64 a0_10) := (blk_cell BK145.out 10).trans rfl
                have hfz47_0 := blk_frozen BK145.out 0
                have hfz47_1 := blk_frozen BK145.out 1
                have hfz47_2 := blk_frozen BK145.out 2
                have hfz47_3 := blk_frozen BK145.out 3
                have hfz47_4 := blk_frozen BK145.out 4
                have hfz47_5 := blk_frozen BK145.out 5
                have hfz47_6 := blk_frozen BK145.out 6
                have hfz47_7 := blk_frozen BK145.out 7
                have hfz47_8 := blk_frozen BK145.out 8
                have hfz47_9 := blk_frozen BK145.out 9
                have hfz47_10 := blk_frozen BK145.out 10
                go_wp2
                go_meet
                case rel => exact ⟨_, ((a0_0 == 4)), (by first | rfl | (simp; done) | (simp [*]; done)), H', ⟨by have := HJ11.out; first | omega | exact Nat.le_refl _⟩, ⟨by (with_reducible repeat (first | refine blk_drewN ?_ _ | refine blk_drew ?_ | refine blk_alloc ?_ _)); exact BK145.out⟩, ⟨by repeat (first | (with_reducible first | exact HB.out | apply below_alloc | apply pw_below_drewN | apply below_drew1 | refine below_set ?_ GE145.out) | exact HB.out)⟩⟩
            case rest =>
              clear HC44
              try clear c1
              try clear p1
              try clear q1
              try clear hx1
              try clear c2
              try clear p2
              try clear c4
              try clear c10
              try clear p15
              try clear q15
              try clear hx15
              try clear c24
              try clear c25
              try clear c26
              try clear c27
              try clear c28
              try clear c29
              try clear c45
              try clear c45b0
              try clear c45b1
              try clear hcz14_0
              try clear hcz14_1
              try clear hcz14_10
              try clear hcz14_2
              try clear hcz14_3
              try clear hcz14_4
              try clear hcz14_5
              try clear hcz14_6
              try clear hcz14_7
              try clear hcz14_8
              try clear hcz14_9
              try clear hcz18_0
              try clear hcz18_1
              try clear hcz18_10
              try clear hcz18_2
              try clear hcz18_3
              try clear hcz18_4
              try clear hcz18_5
              try clear hcz18_6
              try clear hcz18_7
              try clear hcz18_8
              try clear hcz18_9
              try clear hcz28_0
              try clear hcz28_1
              try clear hcz28_10
              try clear hcz28_2
              try clear hcz28_3
              try clear hcz28_4
              try clear hcz28_5
              try clear hcz28_6
              try clear hcz28_7
              try clear hcz28_8
              try clear hcz28_9
              try clear hcz46_0
              try clear hcz46_1
              try clear hcz46_10
              try clear hcz46_2
              try clear hcz46_3
              try clear hcz46_4
              try clear hcz46_5
              try clear hcz46_6
              try clear hcz46_7
              try clear hcz46_8
              try clear hcz46_9
              try clear hcz47_0
              try clear hcz47_1
              try clear hcz47_10
              try clear hcz47_2
              try clear hcz47_3
              try clear hcz47_4
              try clear hcz47_5
              try clear hcz47_6
              try clear hcz47_7
              try clear hcz47_8
              try clear hcz47_9
              try clear hfz14_0
              try clear hfz14_1
              try clear hfz14_10
              try clear hfz14_2
              try clear hfz14_3
              try clear hfz14_4
              try clear hfz14_5
              try clear hfz14_6
              try clear hfz14_7
              try clear hfz14_8
              try clear hfz14_9
              try clear hfz18_0
              try clear hfz18_1
              try clear hfz18_10
              try clear hfz18_2
              try clear hfz18_3
              try clear hfz18_4
              try clear hfz18_5
              try clear hfz18_6
              try clear hfz18_7
              try clear hfz18_8
              try clear hfz18_9
              try clear hfz28_0
              try clear hfz28_1
              try clear hfz28_10
              try clear hfz28_2
              try clear hfz28_3
              try clear hfz28_4
              try clear hfz28_5
              try clear hfz28_6
              try clear hfz28_7
              try clear hfz28_8
              try clear hfz28_9
              try clear hfz46_0
              try clear hfz46_1
              try clear hfz46_10
              try clear hfz46_2
              try clear hfz46_3
              try clear hfz46_4
              try clear hfz46_5
              try clear hfz46_6
              try clear hfz46_7
              try clear hfz46_8
              try clear hfz46_9
              try clear hfz47_0
              try clear hfz47_1
              try clear hfz47_10
              try clear hfz47_2
              try clear hfz47_3
              try clear hfz47_4
              try clear hfz47_5
              try clear hfz47_6
              try clear hfz47_7
              try clear hfz47_8
              try clear hfz47_9
              try clear hx150_0
              try clear p1
              try clear p15
              try clear p150
              try clear p2
              try clear q1
              try clear q15
              try clear q150
              obtain ⟨kq, x51_43, rfl, HA, HJ43, BK145, HB⟩ := hcut
              cases kq with
              | zero => exact absurd HA.out (by simp [record_Print.j1])
              | succ kj43 =>
                have H := HA.out
                clear HA
                simp only [record_Print.j1] at H
                by_cases c48 : x51_43 = true
                · subst c48
                  have H1 : ((strconv_Itoa_26.f a0_10).bind fun t167 => ((record_line.f x4_11 (([t167] : List ByteArray))).bind fun t171 => (some t171))) = some r := by rw [if_pos rfl] at H; exact H
                  clear H
                  have H := H1
                  clear H1
                  replace H := Option.bind_eq_some_iff.mp H
                  obtain ⟨t167, A490, H⟩ := H
                  replace H : ((record_line.f x4_11 (([t167] : List ByteArray))).bind fun t171 => (some t171)) = some r := H
                  have A49 := Aside0.mk A490
                  clear A490
                  obtain ⟨y168, hy168⟩ : ∃ y_ : List ByteArray, y_ = (([t167] : List ByteArray)) := ⟨_, rfl⟩
                  replace H : ((record_line.f x4_11 y168).bind fun t171 => (some t171)) = some r := by first | (rw [hy168]; with_reducible exact H) | (have H2_ := (Option.bind_some _ _).symm.trans H; rw [hy168]; with_reducible exact H2_) | (have H2_ := (Option.bind_some _ _).symm.trans H; with_reducible exact H2_) | with_reducible exact H | (rw [hy168]; exact H) | exact H
                  have Ny168 := Aside0.mk hy168
                  clear hy168
                  replace H := Option.bind_eq_some_iff.mp H
                  obtain ⟨t171, A500, H⟩ := H
                  replace H : (some t171) = some r := H
                  have A50 := Aside0.mk A500
                  clear A500
                  obtain rfl := Option.some.inj H
                  have hcz51_0 : wc.cell? ⟨gb145, 0, none⟩ = some (.int .i64 a0_0) := (blk_cell BK145.out 0).trans rfl
                  have hcz51_1 : wc.cell? ⟨gb145, 1, none⟩ = some (.int .i64 a0_1) := (blk_cell BK145.out 1).trans rfl
                  have hcz51_2 : wc.cell? ⟨gb145, 2, none⟩ = some (.int .i64 a0_2) := (blk_cell BK145.out 2).trans rfl
                  have hcz51_3 : wc.cell? ⟨gb145, 3, none⟩ = some (.int .i64 a0_3) := (blk_cell BK145.out 3).trans rfl
                  have hcz51_4 : wc.cell? ⟨gb145, 4, none⟩ = some (.int .i64 a0_4) := (blk_cell BK145.out 4).trans rfl
                  have hcz51_5 : wc.cell? ⟨gb145, 5, none⟩ = some (.string a0_5) := (blk_cell BK145.out 5).trans rfl
                  have hcz51_6 : wc.cell? ⟨gb145, 6, none⟩ = some (.bool a0_6) := (blk_cell BK145.out 6).trans rfl
                  have hcz51_7 : wc.cell? ⟨gb145, 7, none⟩ = some (.string a0_7) := (blk_cell BK145.out 7).trans rfl
                  have hcz51_8 : wc.cell? ⟨gb145, 8, none⟩ = some (.bool a0_8) := (blk_cell BK145.out 8).trans rfl
                  have hcz51_9 : wc.cell? ⟨gb145, 9, none⟩ = some (.string a0_9) := (blk_cell BK145.out 9).trans rfl
                  have hcz51_10 : wc.cell? ⟨gb145, 10, none⟩ = some (.int .i64 a0_10) := (blk_cell BK145.out 10).trans rfl
                  have hfz51_0 := blk_frozen BK145.out 0
                  have hfz51_1 := blk_frozen BK145.out 1
                  have hfz51_2 := blk_frozen BK145.out 2
                  have hfz51_3 := blk_frozen BK145.out 3
                  have hfz51_4 := blk_frozen BK145.out 4
                  have hfz51_5 := blk_frozen BK145.out 5
                  have hfz51_6 := blk_frozen BK145.out 6
                  have hfz51_7 := blk_frozen BK145.out 7
                  have hfz51_8 := blk_frozen BK145.out 8
                  have hfz51_9 := blk_frozen BK145.out 9
                  have hfz51_10 := blk_frozen BK145.out 10
                  go_wp2_with (first | ((with_reducible refine gate_callee (f := 26) rfl ?_); refine goesL_ (some 55) rfl rfl Tryd.func26 (by kernel_rfl) rfl #[.int .i64 a0_10] rfl (by (try simp only [List.map_toArray, List.map_cons, List.map_nil]); first | done | rfl | (simp only [List.length_drop, List.length_take]; rfl)) ?_; (with_reducible refine (strconv_Itoa_26.calls a0_10 t167 _ A49.out).mono ?_); rintro e w52 ⟨rfl, hb⟩; refine ⟨_, rfl, ?_⟩; have n0_ := Aside0.mk (blk_below (g := gb145) (o := .cells #[.int .i64 a0_0, .int .i64 a0_1, .int .i64 a0_2, .int .i64 a0_3, .int .i64 a0_4, .string a0_5, .bool a0_6, .string a0_7, .bool a0_8, .string a0_9, .int .i64 a0_10] 25 (0, 0)) (by (with_reducible repeat (first | refine blk_drewN ?_ _ | refine blk_drew ?_ | refine blk_alloc ?_ _)); exact BK145.out) hb); have n1_ := Aside0.mk (below_step (by repeat (first | (with_reducible first | exact HB.out | apply below_alloc | apply pw_below_drewN | apply below_drew1 | refine below_set ?_ GE145.out) | exact HB.out)) hb); clear BK145; clear HB; have BK145 := n0_; have HB := n1_; clear n0_ n1_; (try clear hb); (try clear hb2); (try clear hk); (try clear hi)) | ((with_reducible refine gate_dst (N := 56) rfl ?_); refine Kd.R_lit Kd.string _ 9 ?hg (N := 56) ?hd (xs := ([t167] : List ByteArray)) (inner := [.string t167]) (ok := fun _ => True) (okp := fun _ => True) ?hr ?hp (fun _ hk => hk) trivial (Below.refl _ _) (Nat.le_refl _) (by simp) ?_; (case hd => rfl); (case hg => rfl); (case hr => first | (go_simp; done) | (go_simp; rfl)); (case hp => exact (Reps.one (show Kd.M Kd.string _ _ _ t167 [.string t167] from rfl) (Reps.none _ _))); intro v169 w53 ho54 hb hg_ hnew_; clear hg_ hnew_; (first | rw [← Ny168.out] at ho54 | (simp only [Int.reduceToNat] at ho54; rw [← Ny168.out] at ho54)); have n0_ := Aside0.mk (Kd.R_lower ho54 (below_size (by repeat (first | (with_reducible first | exact HB.out | apply below_alloc | apply pw_below_drewN | apply below_drew1 | refine below_set ?_ GE145.out) | exact HB.out)))); have n1_ := Aside0.mk (blk_below (g := gb145) (o := .cells #[.int .i64 a0_0, .int .i64 a0_1, .int .i64 a0_2, .int .i64 a0_3, .int .i64 a0_4, .string a0_5, .bool a0_6, .string a0_7, .bool a0_8, .string a0_9, .int .i64 a0_10] 25 (0, 0)) (by (with_reducible repeat (first | refine blk_drewN ?_ _ | refine blk_drew ?_ | refine blk_alloc ?_ _)); exact BK145.out) hb); have n2_ := Aside0.mk (below_step (by repeat (first | (with_reducible first | exact HB.out | apply below_alloc | apply pw_below_drewN | apply below_drew1 | refine below_set ?_ GE145.out) | exact HB.out)) hb); clear BK145; clear HB; have HO170 := n0_; have BK145 := n1_; have HB := n2_; clear n0_ n1_ n2_; clear hb ho54; obtain ⟨Ao55, co55, eo55⟩ := Kd.R_slice HO170.out; subst eo55) | ((with_reducible refine gate_callee (f := 25) rfl ?_); refine goesL_ (some 57) rfl rfl Tryd.func25 (by kernel_rfl) rfl #[.string x4_11, .slice Ao55 y168.length co55] rfl (by (try simp only [List.map_toArray, List.map_cons, List.map_nil]); first | done | rfl | (simp only [List.length_drop, List.length_take]; rfl)) ?_; (with_reducible refine (record_line.calls x4_11 _ _ y168 t171 _ ?side1 ?side2 A50.out).mono ?_); (case side1 => repeat (first | exact (Kd.R_reads' HO170.out).2.2 | (with_reducible refine Kd.C_alloc ?_ _) | (with_reducible refine Kd.C_drewN ?_ _) | (with_reducible refine Kd.C_drew ?_))); (case side2 => exact (Kd.R_reads' HO170.out).2.1); rintro e w56 ⟨rfl, hb⟩; refine ⟨_, rfl, ?_⟩; have n0_ := Aside0.mk (Kd.R_below (by (with_reducible repeat (first | apply Kd.R_alloc | apply Kd.R_drewN | apply Kd.R_drew)); exact HO170.out) hb); have n1_ := Aside0.mk (blk_below (g := gb145) (o := .cells #[.int .i64 a0_0, .int .i64 a0_1, .int .i64 a0_2, .int .i64 a0_3, .int .i64 a0_4, .string a0_5, .bool a0_6, .string a0_7, .bool a0_8, .string a0_9, .int .i64 a0_10] 25 (0, 0)) (by (with_reducible repeat (first | refine blk_drewN ?_ _ | refine blk_drew ?_ | refine blk_alloc ?_ _)); exact BK145.out) hb); have n2_ := Aside0.mk (below_step (by repeat (first | (with_reducible first | exact HB.out | apply below_alloc | apply pw_below_drewN | apply below_drew1 | refine below_set ?_ GE145.out) | exact HB.out)) hb); clear HO170; clear BK145; clear HB; have HO170 := n0_; have BK145 := n1_; have HB := n2_; clear n0_ n1_ n2_; (try clear hb); (try clear hb2); (try clear hk); (try clear hi)))
                  go_ret
                  exact ⟨by first | rfl | (simp [errW_none, errW_some] <;> rfl) | (simp only [← hji4]; first | rfl | (simp [errW_none, errW_some] <;> rfl)) | (simp [*, errW_none, errW_some] <;> rfl), by repeat (first | (with_reducible first | exact HB.out | apply below_alloc | apply pw_below_drewN | apply below_drew1 | refine below_set ?_ GE145.out) | exact HB.out)⟩
                · replace c48 := Bool.eq_false_iff.mpr c48
                  subst c48
                  have H1 : (some x4_11) = some r := by rw [if_neg (show ¬ (false = true) by decide)] at H; exact H
                  clear H
                  have H := H1
                  clear H1
                  obtain rfl := Option.some.inj H
                  go_wp2
                  go_ret
                  exact ⟨by first | rfl | (simp [errW_none, errW_some] <;> rfl) | (simp only [← hji4]; first | rfl | (simp [errW_none, errW_some] <;> rfl)) | (simp [*, errW_none, errW_some] <;> rfl), by repeat (first | (with_reducible first | exact HB.out | apply below_alloc | apply pw_below_drewN | apply below_drew1 | refine below_set ?_ GE145.out) | exact HB.out)⟩
      · rw [if_neg c6] at H
        exact absurd H (by simp)
    · rw [if_neg c5] at H
      exact absurd H (by simp)
  · replace c3 := Bool.eq_false_iff.mpr c3
    subst c3
    have H1 : (some (⟨#[]⟩ : ByteArray)) = some r := by rw [if_neg (show ¬ (false = true) by decide)] at H; exact H
    clear H
    have H := H1
    clear H1
    obtain rfl := Option.some.inj H
    go_enter Tryd.func10, Tryd.ntmps10
    go_wp2_with (first | ((with_reducible refine gate_dst (N := 1) rfl ?_); refine box_event ?hg (N := 1) ?hd (cs := #[.int .i64 a0_0, .int .i64 a0_1, .int .i64 a0_2, .int .i64 a0_3, .int .i64 a0_4, .string a0_5, .bool a0_6, .string a0_7, .bool a0_8, .string a0_9, .int .i64 a0_10]) (t := 25) ?hr ?_; (case hd => rfl); (case hg => rfl); (case hr => first | (go_simp; done) | (go_simp; rfl)); intro gb145 hg w57 hbox hb; have n0_ := Aside0.mk (below_step (by repeat (first | (with_reducible first | exact HB.out | apply below_alloc | apply pw_below_drewN | apply below_drew1) | exact HB.out)) hb); have n1_ := Aside0.mk (hbox); have n2_ := Aside0.mk ((by rw [hg]; exact (below_size (by repeat (first | (with_reducible first | exact HB.out | apply below_alloc | apply pw_below_drewN | apply below_drew1) | exact HB.out))) : w.heap.size ≤ gb145)); have n3_ := Aside0.mk ((by rw [hg]; exact (below_size (by repeat (first | (with_reducible first | exact HB.out | apply below_alloc | apply pw_below_drewN | apply below_drew1) | exact HB.out))) : w.heap.size ≤ gb145)); clear HB; have HB := n0_; have BK145 := n1_; have GW145 := n2_; have GE145 := n3_; clear n0_ n1_ n2_ n3_; clear hb hbox hg; have hcz58_0 : w57.cell? ⟨gb145, 0, none⟩ = some (.int .i64 a0_0) := (blk_cell BK145.out 0).trans rfl; have hcz58_1 : w57.cell? ⟨gb145, 1, none⟩ = some (.int .i64 a0_1) := (blk_cell BK145.out 1).trans rfl; have hcz58_2 : w57.cell? ⟨gb145, 2, none⟩ = some (.int .i64 a0_2) := (blk_cell BK145.out 2).trans rfl; have hcz58_3 : w57.cell? ⟨gb145, 3, none⟩ = some (.int .i64 a0_3) := (blk_cell BK145.out 3).trans rfl; have hcz58_4 : w57.cell? ⟨gb145, 4, none⟩ = some (.int .i64 a0_4) := (blk_cell BK145.out 4).trans rfl; have hcz58_5 : w57.cell? ⟨gb145, 5, none⟩ = some (.string a0_5) := (blk_cell BK145.out 5).trans rfl; have hcz58_6 : w57.cell? ⟨gb145, 6, none⟩ = some (.bool a0_6) := (blk_cell BK145.out 6).trans rfl; have hcz58_7 : w57.cell? ⟨gb145, 7, none⟩ = some (.string a0_7) := (blk_cell BK145.out 7).trans rfl; have hcz58_8 : w57.cell? ⟨gb145, 8, none⟩ = some (.bool a0_8) := (blk_cell BK145.out 8).trans rfl; have hcz58_9 : w57.cell? ⟨gb145, 9, none⟩ = some (.string a0_9) := (blk_cell BK145.out 9).trans rfl; have hcz58_10 : w57.cell? ⟨gb145, 10, none⟩ = some (.int .i64 a0_10) := (blk_cell BK145.out 10).trans rfl; have hfz58_0 := blk_frozen BK145.out 0; have hfz58_1 := blk_frozen BK145.out 1; have hfz58_2 := blk_frozen BK145.out 2; have hfz58_3 := blk_frozen BK145.out 3; have hfz58_4 := blk_frozen BK145.out 4; have hfz58_5 := blk_frozen BK145.out 5; have hfz58_6 := blk_frozen BK145.out 6; have hfz58_7 := blk_frozen BK145.out 7; have hfz58_8 := blk_frozen BK145.out 8; have hfz58_9 := blk_frozen BK145.out 9; have hfz58_10 := blk_frozen BK145.out 10) | ((with_reducible refine gate_callee (f := 24) rfl ?_); refine goesL_ (some 6) rfl rfl Tryd.func24 (by kernel_rfl) rfl #[.agg #[.int .i64 a0_0, .int .i64 a0_1, .int .i64 a0_2, .int .i64 a0_3, .int .i64 a0_4, .string a0_5, .bool a0_6, .string a0_7, .bool a0_8, .string a0_9, .int .i64 a0_10]] rfl (by (try simp only [List.map_toArray, List.map_cons, List.map_nil]); first | done | rfl | (simp only [List.length_drop, List.length_take]; rfl)) ?_; (with_reducible refine (record_right.calls a0_0 a0_1 a0_2 a0_3 a0_4 a0_5 a0_6 a0_7 a0_8 a0_9 a0_10 false _ A2.out).mono ?_); rintro e w59 ⟨rfl, hb⟩; refine ⟨_, rfl, ?_⟩; have n0_ := Aside0.mk (blk_below (g := gb145) (o := .cells #[.int .i64 a0_0, .int .i64 a0_1, .int .i64 a0_2, .int .i64 a0_3, .int .i64 a0_4, .string a0_5, .bool a0_6, .string a0_7, .bool a0_8, .string a0_9, .int .i64 a0_10] 25 (0, 0)) (by (with_reducible repeat (first | refine blk_drewN ?_ _ | refine blk_drew ?_ | refine blk_alloc ?_ _)); exact BK145.out) hb); have n1_ := Aside0.mk (below_step (by repeat (first | (with_reducible first | exact HB.out | apply below_alloc | apply pw_below_drewN | apply below_drew1 | refine below_set ?_ GE145.out) | exact HB.out)) hb); clear BK145; clear HB; have BK145 := n0_; have HB := n1_; clear n0_ n1_; (try clear hb); (try clear hb2); (try clear hk); (try clear hi)))
    go_ret
    exact ⟨by first | rfl | (simp [errW_none, errW_some] <;> rfl) | (simp [*, errW_none, errW_some] <;> rfl), by repeat (first | (with_reducible first | exact HB.out | apply below_alloc | apply pw_below_drewN | apply below_drew1 | refine below_set ?_ GE145.out) | exact HB.out)⟩

end Go.Proofs.YtlicobfjeajcfaaDoor.Q04
