-- Written by a program of this session (wip/bin/pick.py, out of a print); not trusted: Lean checks it.
import Derived.Test.YtiidffblbpoijaaDoorQ33x0
namespace Go.Proofs.YtiidffblbpoijaaDoor.Q33
open Go.RowKit Go.Proofs.YtiidffblbpoijaaDoorW.PrintWords Go.Proofs.YtiidffblbpoijaaDoorW.PrintLast Go.Proofs.YtiidffblbpoijaaDoorW.PrintMore
attribute [local go_sem] max2_int min2_int max_two min_two max_three min_three max_four min_four   -- for this text's walks alone
set_option linter.unusedVariables false
set_option linter.unusedSimpArgs false

/-! ### client_plain: function 33 -/
def client_plain.f (a0 : Int) : Option (Bool) := if a0 ≥ 97 then (if a0 ≤ 122 then (some true) else (if a0 ≥ 65 then (if a0 ≤ 90 then (some true) else (if a0 ≥ 48 then (if a0 ≤ 57 then (some true) else (if a0 = 46 then (some true) else (some (a0 == 95)))) else (if a0 = 46 then (some true) else (some (a0 == 95))))) else (if a0 ≥ 48 then (if a0 ≤ 57 then (some true) else (if a0 = 46 then (some true) else (some (a0 == 95)))) else (if a0 = 46 then (some true) else (some (a0 == 95)))))) else (if a0 ≥ 65 then (if a0 ≤ 90 then (some true) else (if a0 ≥ 48 then (if a0 ≤ 57 then (some true) else (if a0 = 46 then (some true) else (some (a0 == 95)))) else (if a0 = 46 then (some true) else (some (a0 == 95))))) else (if a0 ≥ 48 then (if a0 ≤ 57 then (some true) else (if a0 = 46 then (some true) else (some (a0 == 95)))) else (if a0 = 46 then (some true) else (some (a0 == 95)))))
set_option maxHeartbeats 8000000 in
set_option maxRecDepth 100000 in
theorem client_plain.calls (a0 : Int) (r : Bool) (w : World) (h : client_plain.f a0 = some r) :
    Calls Tryd.prog 33 #[.int .u8 a0] w fun e w' => e = .returned (.bool r) ∧ Drawn0 w w' := by
  have H : (if a0 ≥ 97 then (if a0 ≤ 122 then (some true) else (if a0 ≥ 65 then (if a0 ≤ 90 then (some true) else (if a0 ≥ 48 then (if a0 ≤ 57 then (some true) else (if a0 = 46 then (some true) else (some (a0 == 95)))) else (if a0 = 46 then (some true) else (some (a0 == 95))))) else (if a0 ≥ 48 then (if a0 ≤ 57 then (some true) else (if a0 = 46 then (some true) else (some (a0 == 95)))) else (if a0 = 46 then (some true) else (some (a0 == 95)))))) else (if a0 ≥ 65 then (if a0 ≤ 90 then (some true) else (if a0 ≥ 48 then (if a0 ≤ 57 then (some true) else (if a0 = 46 then (some true) else (some (a0 == 95)))) else (if a0 = 46 then (some true) else (some (a0 == 95))))) else (if a0 ≥ 48 then (if a0 ≤ 57 then (some true) else (if a0 = 46 then (some true) else (some (a0 == 95)))) else (if a0 = 46 then (some true) else (some (a0 == 95)))))) = some r := h
  clear h
  by_cases c2 : a0 ≥ 97
  · rw [if_pos c2] at H
    have c2b0 : decide (97 ≤ a0) = true := decide_eq_true c2
    clear c2
    by_cases c3 : a0 ≤ 122
    · rw [if_pos c3] at H
      have c3b0 : decide (a0 ≤ 122) = true := decide_eq_true c3
      clear c3
      obtain rfl := Option.some.inj H
      go_enter Tryd.func33, Tryd.ntmps33
      go_wp2
      go_ret
      exact ⟨by first | rfl | (simp; done) | (simp [*]; done), by repeat (first | exact Drawn0.refl _ | apply Drawn0.step)⟩
    · rw [if_neg c3] at H
      have c3b0 : decide (a0 ≤ 122) = false := decide_eq_false c3
      clear c3
      by_cases c4 : a0 ≥ 65
      · rw [if_pos c4] at H
        have c4b0 : decide (65 ≤ a0) = true := decide_eq_true c4
        clear c4
        by_cases c5 : a0 ≤ 90
        · rw [if_pos c5] at H
          have c5b0 : decide (a0 ≤ 90) = true := decide_eq_true c5
          clear c5
          obtain rfl := Option.some.inj H
          go_enter Tryd.func33, Tryd.ntmps33
          go_wp2
          go_ret
          exact ⟨by first | rfl | (simp; done) | (simp [*]; done), by repeat (first | exact Drawn0.refl _ | apply Drawn0.step)⟩
        · rw [if_neg c5] at H
          have c5b0 : decide (a0 ≤ 90) = false := decide_eq_false c5
          clear c5
          by_cases c6 : a0 ≥ 48
          · rw [if_pos c6] at H
            have c6b0 : decide (48 ≤ a0) = true := decide_eq_true c6
            clear c6
            by_cases c7 : a0 ≤ 57
            · rw [if_pos c7] at H
              have c7b0 : decide (a0 ≤ 57) = true := decide_eq_true c7
              clear c7
              obtain rfl := Option.some.inj H
              go_enter Tryd.func33, Tryd.ntmps33
              go_wp2
              go_ret
              exact ⟨by first | rfl | (simp; done) | (simp [*]; done), by repeat (first | exact Drawn0.refl _ | apply Drawn0.step)⟩
            · rw [if_neg c7] at H
              have c7b0 : decide (a0 ≤ 57) = false := decide_eq_false c7
              clear c7
              by_cases c8 : a0 = 46
              · rw [if_pos c8] at H
                have c8b0 : (a0 == 46) = true := beq_iff_eq.mpr c8
                have c8b1 : (a0 != 46) = false := bne_eq_false_iff_eq.mpr c8
                clear c8
                obtain rfl := Option.some.inj H
                go_enter Tryd.func33, Tryd.ntmps33
                go_wp2
                go_ret
                exact ⟨by first | rfl | (simp; done) | (simp [*]; done), by repeat (first | exact Drawn0.refl _ | apply Drawn0.step)⟩
              · rw [if_neg c8] at H
                have c8b0 : (a0 == 46) = false := beq_eq_false_iff_ne.mpr c8
                have c8b1 : (a0 != 46) = true := bne_iff_ne.mpr c8
                obtain rfl := Option.some.inj H
                go_enter Tryd.func33, Tryd.ntmps33
                go_wp2
                go_ret
                exact ⟨by first | rfl | (simp; done) | (simp [*]; done), by repeat (first | exact Drawn0.refl _ | apply Drawn0.step)⟩
          · rw [if_neg c6] at H
            have c6b0 : decide (48 ≤ a0) = false := decide_eq_false c6
            clear c6
            by_cases c9 : a0 = 46
            · rw [if_pos c9] at H
              have c9b0 : (a0 == 46) = true := beq_iff_eq.mpr c9
              have c9b1 : (a0 != 46) = false := bne_eq_false_iff_eq.mpr c9
              clear c9
              obtain rfl := Option.some.inj H
              go_enter Tryd.func33, Tryd.ntmps33
              go_wp2
              go_ret
              exact ⟨by first | rfl | (simp; done) | (simp [*]; done), by repeat (first | exact Drawn0.refl _ | apply Drawn0.step)⟩
            · rw [if_neg c9] at H
              have c9b0 : (a0 == 46) = false := beq_eq_false_iff_ne.mpr c9
              have c9b1 : (a0 != 46) = true := bne_iff_ne.mpr c9
              obtain rfl := Option.some.inj H
              go_enter Tryd.func33, Tryd.ntmps33
              go_wp2
              go_ret
              exact ⟨by first | rfl | (simp; done) | (simp [*]; done), by repeat (first | exact Drawn0.refl _ | apply Drawn0.step)⟩
      · rw [if_neg c4] at H
        have c4b0 : decide (65 ≤ a0) = false := decide_eq_false c4
        clear c4
        by_cases c10 : a0 ≥ 48
        · rw [if_pos c10] at H
          have c10b0 : decide (48 ≤ a0) = true := decide_eq_true c10
          clear c10
          by_cases c11 : a0 ≤ 57
          · rw [if_pos c11] at H
            have c11b0 : decide (a0 ≤ 57) = true := decide_eq_true c11
            clear c11
            obtain rfl := Option.some.inj H
            go_enter Tryd.func33, Tryd.ntmps33
            go_wp2
            go_ret
            exact ⟨by first | rfl | (simp; done) | (simp [*]; done), by repeat (first | exact Drawn0.refl _ | apply Drawn0.step)⟩
          · rw [if_neg c11] at H
            have c11b0 : decide (a0 ≤ 57) = false := decide_eq_false c11
            clear c11
            by_cases c12 : a0 = 46
            · rw [if_pos c12] at H
              have c12b0 : (a0 == 46) = true := beq_iff_eq.mpr c12
              have c12b1 : (a0 != 46) = false := bne_eq_false_iff_eq.mpr c12
              clear c12
              obtain rfl := Option.some.inj H
              go_enter Tryd.func33, Tryd.ntmps33
              go_wp2
              go_ret
              exact ⟨by first | rfl | (simp; done) | (simp [*]; done), by repeat (first | exact Drawn0.refl _ | apply Drawn0.step)⟩
            · rw [if_neg c12] at H
              have c12b0 : (a0 == 46) = false := beq_eq_false_iff_ne.mpr c12
              have c12b1 : (a0 != 46) = true := bne_iff_ne.mpr c12
              obtain rfl := Option.some.inj H
              go_enter Tryd.func33, Tryd.ntmps33
              go_wp2
              go_ret
              exact ⟨by first | rfl | (simp; done) | (simp [*]; done), by repeat (first | exact Drawn0.refl _ | apply Drawn0.step)⟩
        · rw [if_neg c10] at H
          have c10b0 : decide (48 ≤ a0) = false := decide_eq_false c10
          clear c10
          by_cases c13 : a0 = 46
          · rw [if_pos c13] at H
            have c13b0 : (a0 == 46) = true := beq_iff_eq.mpr c13
            have c13b1 : (a0 != 46) = false := bne_eq_false_iff_eq.mpr c13
            clear c13
            obtain rfl := Option.some.inj H
            go_enter Tryd.func33, Tryd.ntmps33
            go_wp2
            go_ret
            exact ⟨by first | rfl | (simp; done) | (simp [*]; done), by repeat (first | exact Drawn0.refl _ | apply Drawn0.step)⟩
          · rw [if_neg c13] at H
            have c13b0 : (a0 == 46) = false := beq_eq_false_iff_ne.mpr c13
            have c13b1 : (a0 != 46) = true := bne_iff_ne.mpr c13
            obtain rfl := Option.some.inj H
            go_enter Tryd.func33, Tryd.ntmps33
            go_wp2
            go_ret
            exact ⟨by first | rfl | (simp; done) | (simp [*]; done), by repeat (first | exact Drawn0.refl _ | apply Drawn0.step)⟩
  · rw [if_neg c2] at H
    have c2b0 : decide (97 ≤ a0) = false := decide_eq_false c2
    clear c2
    by_cases c14 : a0 ≥ 65
    · rw [if_pos c14] at H
      have c14b0 : decide (65 ≤ a0) = true := decide_eq_true c14
      clear c14
      by_cases c15 : a0 ≤ 90
      · rw [if_pos c15] at H
        have c15b0 : decide (a0 ≤ 90) = true := decide_eq_true c15
        clear c15
        obtain rfl := Option.some.inj H
        go_enter Tryd.func33, Tryd.ntmps33
        go_wp2
        go_ret
        exact ⟨by first | rfl | (simp; done) | (simp [*]; done), by repeat (first | exact Drawn0.refl _ | apply Drawn0.step)⟩
      · rw [if_neg c15] at H
        have c15b0 : decide (a0 ≤ 90) = false := decide_eq_false c15
        clear c15
        by_cases c16 : a0 ≥ 48
        · rw [if_pos c16] at H
          have c16b0 : decide (48 ≤ a0) = true := decide_eq_true c16
          clear c16
          by_cases c17 : a0 ≤ 57
          · rw [if_pos c17] at H
            have c17b0 : decide (a0 ≤ 57) = true := decide_eq_true c17
            clear c17
            obtain rfl := Option.some.inj H
            go_enter Tryd.func33, Tryd.ntmps33
            go_wp2
            go_ret
            exact ⟨by first | rfl | (simp; done) | (simp [*]; done), by repeat (first | exact Drawn0.refl _ | apply Drawn0.step)⟩
          · rw [if_neg c17] at H
            have c17b0 : decide (a0 ≤ 57) = false := decide_eq_false c17
            clear c17
            by_cases c18 : a0 = 46
            · rw [if_pos c18] at H
              have c18b0 : (a0 == 46) = true := beq_iff_eq.mpr c18
              have c18b1 : (a0 != 46) = false := bne_eq_false_iff_eq.mpr c18
              clear c18
              obtain rfl := Option.some.inj H
              go_enter Tryd.func33, Tryd.ntmps33
              go_wp2
              go_ret
              exact ⟨by first | rfl | (simp; done) | (simp [*]; done), by repeat (first | exact Drawn0.refl _ | apply Drawn0.step)⟩
            · rw [if_neg c18] at H
              have c18b0 : (a0 == 46) = false := beq_eq_false_iff_ne.mpr c18
              have c18b1 : (a0 != 46) = true := bne_iff_ne.mpr c18
              obtain rfl := Option.some.inj H
              go_enter Tryd.func33, Tryd.ntmps33
              go_wp2
              go_ret
              exact ⟨by first | rfl | (simp; done) | (simp [*]; done), by repeat (first | exact Drawn0.refl _ | apply Drawn0.step)⟩
        · rw [if_neg c16] at H
          have c16b0 : decide (48 ≤ a0) = false := decide_eq_false c16
          clear c16
          by_cases c19 : a0 = 46
          · rw [if_pos c19] at H
            have c19b0 : (a0 == 46) = true := beq_iff_eq.mpr c19
            have c19b1 : (a0 != 46) = false := bne_eq_false_iff_eq.mpr c19
            clear c19
            obtain rfl := Option.some.inj H
            go_enter Tryd.func33, Tryd.ntmps33
            go_wp2
            go_ret
            exact ⟨by first | rfl | (simp; done) | (simp [*]; done), by repeat (first | exact Drawn0.refl _ | apply Drawn0.step)⟩
          · rw [if_neg c19] at H
            have c19b0 : (a0 == 46) = false := beq_eq_false_iff_ne.mpr c19
            have c19b1 : (a0 != 46) = true := bne_iff_ne.mpr c19
            obtain rfl := Option.some.inj H
            go_enter Tryd.func33, Tryd.ntmps33
            go_wp2
            go_ret
            exact ⟨by first | rfl | (simp; done) | (simp [*]; done), by repeat (first | exact Drawn0.refl _ | apply Drawn0.step)⟩
    · rw [if_neg c14] at H
      have c14b0 : decide (65 ≤ a0) = false := decide_eq_false c14
      clear c14
      by_cases c20 : a0 ≥ 48
      · rw [if_pos c20] at H
        have c20b0 : decide (48 ≤ a0) = true := decide_eq_true c20
        clear c20
        by_cases c21 : a0 ≤ 57
        · rw [if_pos c21] at H
          have c21b0 : decide (a0 ≤ 57) = true := decide_eq_true c21
          clear c21
          obtain rfl := Option.some.inj H
          go_enter Tryd.func33, Tryd.ntmps33
          go_wp2
          go_ret
          exact ⟨by first | rfl | (simp; done) | (simp [*]; done), by repeat (first | exact Drawn0.refl _ | apply Drawn0.step)⟩
        · rw [if_neg c21] at H
          have c21b0 : decide (a0 ≤ 57) = false := decide_eq_false c21
          clear c21
          by_cases c22 : a0 = 46
          · rw [if_pos c22] at H
            have c22b0 : (a0 == 46) = true := beq_iff_eq.mpr c22
            have c22b1 : (a0 != 46) = false := bne_eq_false_iff_eq.mpr c22
            clear c22
            obtain rfl := Option.some.inj H
            go_enter Tryd.func33, Tryd.ntmps33
            go_wp2
            go_ret
            exact ⟨by first | rfl | (simp; done) | (simp [*]; done), by repeat (first | exact Drawn0.refl _ | apply Drawn0.step)⟩
          · rw [if_neg c22] at H
            have c22b0 : (a0 == 46) = false := beq_eq_false_iff_ne.mpr c22
            have c22b1 : (a0 != 46) = true := bne_iff_ne.mpr c22
            obtain rfl := Option.some.inj H
            go_enter Tryd.func33, Tryd.ntmps33
            go_wp2
            go_ret
            exact ⟨by first | rfl | (simp; done) | (simp [*]; done), by repeat (first | exact Drawn0.refl _ | apply Drawn0.step)⟩
      · rw [if_neg c20] at H
        have c20b0 : decide (48 ≤ a0) = false := decide_eq_false c20
        clear c20
        by_cases c23 : a0 = 46
        · rw [if_pos c23] at H
          have c23b0 : (a0 == 46) = true := beq_iff_eq.mpr c23
          have c23b1 : (a0 != 46) = false := bne_eq_false_iff_eq.mpr c23
          clear c23
          obtain rfl := Option.some.inj H
          go_enter Tryd.func33, Tryd.ntmps33
          go_wp2
          go_ret
          exact ⟨by first | rfl | (simp; done) | (simp [*]; done), by repeat (first | exact Drawn0.refl _ | apply Drawn0.step)⟩
        · rw [if_neg c23] at H
          have c23b0 : (a0 == 46) = false := beq_eq_false_iff_ne.mpr c23
          have c23b1 : (a0 != 46) = true := bne_iff_ne.mpr c23
          obtain rfl := Option.some.inj H
          go_enter Tryd.func33, Tryd.ntmps33
          go_wp2
          go_ret
          exact ⟨by first | rfl | (simp; done) | (simp [*]; done), by repeat (first | exact Drawn0.refl _ | apply Drawn0.step)⟩

/-! ### client_verbs: function 26 -/
def client_verbs.f  : Option ((List (S68))) := some (([(⟨(⟨#[98, 101, 103, 105, 110]⟩ : ByteArray), 1⟩ : S68), (⟨(⟨#[114, 101, 97, 100]⟩ : ByteArray), 2⟩ : S68), (⟨(⟨#[119, 114, 105, 116, 101]⟩ : ByteArray), 7⟩ : S68), (⟨(⟨#[105, 110, 115, 101, 114, 116]⟩ : ByteArray), 7⟩ : S68), (⟨(⟨#[100, 101, 108, 101, 116, 101]⟩ : ByteArray), 3⟩ : S68), (⟨(⟨#[115, 97, 118, 101]⟩ : ByteArray), 1⟩ : S68), (⟨(⟨#[98, 97, 99, 107]⟩ : ByteArray), 1⟩ : S68), (⟨(⟨#[99, 111, 109, 109, 105, 116]⟩ : ByteArray), 0⟩ : S68), (⟨(⟨#[97, 98, 111, 114, 116]⟩ : ByteArray), 0⟩ : S68)] : List (S68)))
set_option maxHeartbeats 8000000 in
set_option maxRecDepth 100000 in
theorem client_verbs.calls  (r : List (S68)) (w : World) (h : client_verbs.f  = some r) :
    Calls Tryd.prog 26 #[] w fun e w' => ∃ v0_ : Value, e = .returned (v0_) ∧ Kd.R k68 68 w' w.heap.size (fun _ => True) v0_ r ∧ Below w.heap.size w w' := by
  have hu68 := Tryd.underlying68
  have HB := Aside0.mk (Below.refl w.heap.size w)
  have H : (some (([(⟨(⟨#[98, 101, 103, 105, 110]⟩ : ByteArray), 1⟩ : S68), (⟨(⟨#[114, 101, 97, 100]⟩ : ByteArray), 2⟩ : S68), (⟨(⟨#[119, 114, 105, 116, 101]⟩ : ByteArray), 7⟩ : S68), (⟨(⟨#[105, 110, 115, 101, 114, 116]⟩ : ByteArray), 7⟩ : S68), (⟨(⟨#[100, 101, 108, 101, 116, 101]⟩ : ByteArray), 3⟩ : S68), (⟨(⟨#[115, 97, 118, 101]⟩ : ByteArray), 1⟩ : S68), (⟨(⟨#[98, 97, 99, 107]⟩ : ByteArray), 1⟩ : S68), (⟨(⟨#[99, 111, 109, 109, 105, 116]⟩ : ByteArray), 0⟩ : S68), (⟨(⟨#[97, 98, 111, 114, 116]⟩ : ByteArray), 0⟩ : S68)] : List (S68)))) = some r := h
  clear h
  obtain ⟨y126, hy126⟩ : ∃ y_ : List (S68), y_ = (([(⟨(⟨#[98, 101, 103, 105, 110]⟩ : ByteArray), 1⟩ : S68), (⟨(⟨#[114, 101, 97, 100]⟩ : ByteArray), 2⟩ : S68), (⟨(⟨#[119, 114, 105, 116, 101]⟩ : ByteArray), 7⟩ : S68), (⟨(⟨#[105, 110, 115, 101, 114, 116]⟩ : ByteArray), 7⟩ : S68), (⟨(⟨#[100, 101, 108, 101, 116, 101]⟩ : ByteArray), 3⟩ : S68), (⟨(⟨#[115, 97, 118, 101]⟩ : ByteArray), 1⟩ : S68), (⟨(⟨#[98, 97, 99, 107]⟩ : ByteArray), 1⟩ : S68), (⟨(⟨#[99, 111, 109, 109, 105, 116]⟩ : ByteArray), 0⟩ : S68), (⟨(⟨#[97, 98, 111, 114, 116]⟩ : ByteArray), 0⟩ : S68)] : List (S68))) := ⟨_, rfl⟩
  replace H : (some y126) = some r := by first | (rw [hy126]; with_reducible exact H) | (have H2_ := (Option.bind_some _ _).symm.trans H; rw [hy126]; with_reducible exact H2_) | (have H2_ := (Option.bind_some _ _).symm.trans H; with_reducible exact H2_) | with_reducible exact H | (rw [hy126]; exact H) | exact H
  have Ny126 := Aside0.mk hy126
  clear hy126
  obtain rfl := Option.some.inj H
  go_enter Tryd.func26, Tryd.ntmps26
  go_wp2_with (first | ((with_reducible refine gate_dst (N := 10) rfl ?_); refine Kd.R_lit k68 _ 68 ?hg (N := 10) ?hd (xs := ([(⟨(⟨#[98, 101, 103, 105, 110]⟩ : ByteArray), 1⟩ : S68), (⟨(⟨#[114, 101, 97, 100]⟩ : ByteArray), 2⟩ : S68), (⟨(⟨#[119, 114, 105, 116, 101]⟩ : ByteArray), 7⟩ : S68), (⟨(⟨#[105, 110, 115, 101, 114, 116]⟩ : ByteArray), 7⟩ : S68), (⟨(⟨#[100, 101, 108, 101, 116, 101]⟩ : ByteArray), 3⟩ : S68), (⟨(⟨#[115, 97, 118, 101]⟩ : ByteArray), 1⟩ : S68), (⟨(⟨#[98, 97, 99, 107]⟩ : ByteArray), 1⟩ : S68), (⟨(⟨#[99, 111, 109, 109, 105, 116]⟩ : ByteArray), 0⟩ : S68), (⟨(⟨#[97, 98, 111, 114, 116]⟩ : ByteArray), 0⟩ : S68)] : List (S68))) (inner := [.string (⟨#[98, 101, 103, 105, 110]⟩ : ByteArray), .int .i64 1, .string (⟨#[114, 101, 97, 100]⟩ : ByteArray), .int .i64 2, .string (⟨#[119, 114, 105, 116, 101]⟩ : ByteArray), .int .i64 7, .string (⟨#[105, 110, 115, 101, 114, 116]⟩ : ByteArray), .int .i64 7, .string (⟨#[100, 101, 108, 101, 116, 101]⟩ : ByteArray), .int .i64 3, .string (⟨#[115, 97, 118, 101]⟩ : ByteArray), .int .i64 1, .string (⟨#[98, 97, 99, 107]⟩ : ByteArray), .int .i64 1, .string (⟨#[99, 111, 109, 109, 105, 116]⟩ : ByteArray), .int .i64 0, .string (⟨#[97, 98, 111, 114, 116]⟩ : ByteArray), .int .i64 0]) (ok := fun _ => True) (okp := fun _ => True) ?hr ?hp (fun _ hk => hk) trivial (Below.refl _ _) (Nat.le_refl _) (by simp) ?_; (case hd => rfl); (case hg => rfl); (case hr => first | (go_simp; done) | (go_simp; rfl)); (case hp => exact (Reps.c2 (show Kd.M k68 _ _ _ (⟨(⟨#[98, 101, 103, 105, 110]⟩ : ByteArray), 1⟩ : S68) [.string (⟨#[98, 101, 103, 105, 110]⟩ : ByteArray), .int .i64 1] from (k68_mkM _ _ _ (⟨(⟨#[98, 101, 103, 105, 110]⟩ : ByteArray), 1⟩ : S68) )) (Reps.c2 (show Kd.M k68 _ _ _ (⟨(⟨#[114, 101, 97, 100]⟩ : ByteArray), 2⟩ : S68) [.string (⟨#[114, 101, 97, 100]⟩ : ByteArray), .int .i64 2] from (k68_mkM _ _ _ (⟨(⟨#[114, 101, 97, 100]⟩ : ByteArray), 2⟩ : S68) )) (Reps.c2 (show Kd.M k68 _ _ _ (⟨(⟨#[119, 114, 105, 116, 101]⟩ : ByteArray), 7⟩ : S68) [.string (⟨#[119, 114, 105, 116, 101]⟩ : ByteArray), .int .i64 7] from (k68_mkM _ _ _ (⟨(⟨#[119, 114, 105, 116, 101]⟩ : ByteArray), 7⟩ : S68) )) (Reps.c2 (show Kd.M k68 _ _ _ (⟨(⟨#[105, 110, 115, 101, 114, 116]⟩ : ByteArray), 7⟩ : S68) [.string (⟨#[105, 110, 115, 101, 114, 116]⟩ : ByteArray), .int .i64 7] from (k68_mkM _ _ _ (⟨(⟨#[105, 110, 115, 101, 114, 116]⟩ : ByteArray), 7⟩ : S68) )) (Reps.c2 (show Kd.M k68 _ _ _ (⟨(⟨#[100, 101, 108, 101, 116, 101]⟩ : ByteArray), 3⟩ : S68) [.string (⟨#[100, 101, 108, 101, 116, 101]⟩ : ByteArray), .int .i64 3] from (k68_mkM _ _ _ (⟨(⟨#[100, 101, 108, 101, 116, 101]⟩ : ByteArray), 3⟩ : S68) )) (Reps.c2 (show Kd.M k68 _ _ _ (⟨(⟨#[115, 97, 118, 101]⟩ : ByteArray), 1⟩ : S68) [.string (⟨#[115, 97, 118, 101]⟩ : ByteArray), .int .i64 1] from (k68_mkM _ _ _ (⟨(⟨#[115, 97, 118, 101]⟩ : ByteArray), 1⟩ : S68) )) (Reps.c2 (show Kd.M k68 _ _ _ (⟨(⟨#[98, 97, 99, 107]⟩ : ByteArray), 1⟩ : S68) [.string (⟨#[98, 97, 99, 107]⟩ : ByteArray), .int .i64 1] from (k68_mkM _ _ _ (⟨(⟨#[98, 97, 99, 107]⟩ : ByteArray), 1⟩ : S68) )) (Reps.c2 (show Kd.M k68 _ _ _ (⟨(⟨#[99, 111, 109, 109, 105, 116]⟩ : ByteArray), 0⟩ : S68) [.string (⟨#[99, 111, 109, 109, 105, 116]⟩ : ByteArray), .int .i64 0] from (k68_mkM _ _ _ (⟨(⟨#[99, 111, 109, 109, 105, 116]⟩ : ByteArray), 0⟩ : S68) )) (Reps.c2 (show Kd.M k68 _ _ _ (⟨(⟨#[97, 98, 111, 114, 116]⟩ : ByteArray), 0⟩ : S68) [.string (⟨#[97, 98, 111, 114, 116]⟩ : ByteArray), .int .i64 0] from (k68_mkM _ _ _ (⟨(⟨#[97, 98, 111, 114, 116]⟩ : ByteArray), 0⟩ : S68) )) (Reps.none _ _))))))))))); intro v127 w1 ho2 hb hg_ hnew_; clear hg_ hnew_; (first | rw [← Ny126.out] at ho2 | (simp only [Int.reduceToNat] at ho2; rw [← Ny126.out] at ho2)); have n0_ := Aside0.mk (Kd.R_lower ho2 (below_size (by repeat (first | (with_reducible first | exact HB.out | apply below_alloc | apply pw_below_drewN | apply below_drew1) | exact HB.out)))); have n1_ := Aside0.mk (below_step (by repeat (first | (with_reducible first | exact HB.out | apply below_alloc | apply pw_below_drewN | apply below_drew1) | exact HB.out)) hb); clear HB; have HO128 := n0_; have HB := n1_; clear n0_ n1_; clear hb ho2))
  go_ret
  exact ⟨_, by first | rfl | (simp [errW_none, errW_some] <;> rfl) | (simp [*, errW_none, errW_some] <;> rfl), by (with_reducible repeat (first | apply Kd.R_alloc | apply Kd.R_drewN | apply Kd.R_drew)); exact HO128.out, by repeat (first | (with_reducible first | exact HB.out | apply below_alloc | apply pw_below_drewN | apply below_drew1) | exact HB.out)⟩

/-! ### record_Has: function 46 -/
def record_Has.f (a0 : ByteArray) : Option (Bool × ByteArray) := some (true, a0)
set_option maxHeartbeats 8000000 in
set_option maxRecDepth 100000 in
theorem record_Has.calls (a0 : ByteArray) (r1 : Bool) (r2 : ByteArray) (w : World) (h : record_Has.f a0 = some (r1, r2)) :
    Calls Tryd.prog 46 #[.string a0] w fun e w' => e = .returned (.agg #[.bool r1, .string r2]) ∧ Below w.heap.size w w' := by
  have hu23 := Tryd.underlying23
  have HB := Aside0.mk (Below.refl w.heap.size w)
  have H : (some (true, a0)) = some (r1, r2) := h
  clear h
  simp only [Option.some.injEq, Prod.mk.injEq] at H
  obtain ⟨rfl, rfl⟩ := H
  go_enter Tryd.func46, Tryd.ntmps46
  go_wp2_with (first | ((with_reducible refine gate_dst (N := 2) rfl ?_); refine box_event ?hg (N := 2) ?hd (cs := #[.bool false, .string (⟨#[]⟩ : ByteArray)]) (t := 23) ?hr ?_; (case hd => rfl); (case hg => rfl); (case hr => first | (go_simp; done) | (go_simp; rfl)); intro gb129 hg w2 hbox hb; have n0_ := Aside0.mk (below_step (by repeat (first | (with_reducible first | exact HB.out | apply below_alloc | apply pw_below_drewN | apply below_drew1) | exact HB.out)) hb); have n1_ := Aside0.mk (hbox); have n2_ := Aside0.mk ((by rw [hg]; exact (below_size (by repeat (first | (with_reducible first | exact HB.out | apply below_alloc | apply pw_below_drewN | apply below_drew1) | exact HB.out))) : w.heap.size ≤ gb129)); have n3_ := Aside0.mk ((by rw [hg]; exact (below_size (by repeat (first | (with_reducible first | exact HB.out | apply below_alloc | apply pw_below_drewN | apply below_drew1) | exact HB.out))) : w.heap.size ≤ gb129)); clear HB; have HB := n0_; have BK129 := n1_; have GW129 := n2_; have GE129 := n3_; clear n0_ n1_ n2_ n3_; clear hb hbox hg; have hcz3_0 : w2.cell? ⟨gb129, 0, none⟩ = some (.bool false) := (blk_cell BK129.out 0).trans rfl; have hcz3_1 : w2.cell? ⟨gb129, 1, none⟩ = some (.string (⟨#[]⟩ : ByteArray)) := (blk_cell BK129.out 1).trans rfl; have hfz3_0 := blk_frozen BK129.out 0; have hfz3_1 := blk_frozen BK129.out 1))
  refine bodyPost_ret (results_cell_row rfl _ _ gb129 23 #[.bool true, .string a0] (0, 0) _ rfl (by (with_reducible repeat (first | refine blk_drewN ?_ _ | refine blk_drew ?_ | refine blk_alloc ?_ _)); refine blk_put (cs := #[.bool true, .string (⟨#[]⟩ : ByteArray)]) ?_ 1 _ rfl; (with_reducible repeat (first | refine blk_drewN ?_ _ | refine blk_drew ?_ | refine blk_alloc ?_ _)); refine blk_put (cs := #[.bool false, .string (⟨#[]⟩ : ByteArray)]) ?_ 0 _ rfl; (with_reducible repeat (first | refine blk_drewN ?_ _ | refine blk_drew ?_ | refine blk_alloc ?_ _)); exact BK129.out) Tryd.underlying23 rfl (by kernel_rfl)) rfl ?_
  exact ⟨by first | rfl | (simp [errW_none, errW_some] <;> rfl) | (simp [*, errW_none, errW_some] <;> rfl), by repeat (first | (with_reducible first | exact HB.out | apply below_alloc | apply pw_below_drewN | apply below_drew1 | refine below_set ?_ GE129.out) | exact HB.out)⟩

end Go.Proofs.YtiidffblbpoijaaDoor.Q33
