-- Written by a program of this session (wip/bin/stubprint.py) out of the translation; not trusted: Lean checks it.
import Derived.Test.YtlicobfjeajcfaaQ29x0
import Derived.Test.YtlicobfjeajcfaaQ29x6
import Derived.Test.YtlicobfjeajcfaaQ29x7
namespace Go.Proofs.Ytlicobfjeajcfaa.Q29
open Go.RowKit Go.Proofs.YtlicobfjeajcfaaW.PrintWords Go.Proofs.YtlicobfjeajcfaaW.PrintLast Go.Proofs.YtlicobfjeajcfaaW.PrintMore
attribute [local go_sem] max2_int min2_int max_two min_two max_three min_three max_four min_four   -- for this text's walks alone
set_option linter.unusedVariables false
set_option linter.unusedSimpArgs false

/-! ### quadrigaref18_Right: function 35 -/
def quadrigaref18_Right.l0 : Nat → List (S81) → Int → Option (Bool)
  | 0, _, _ => none
  | k + 1, x0, x3 => if x3 < (x0.length : Int) then (if 0 ≤ x3 then ((quadrigaref04_Right.f k ((rd_T81 x0 x3).f1.f0) ((rd_T81 x0 x3).f1.f1) ((rd_T81 x0 x3).f1.f2) ((rd_T81 x0 x3).f1.f3) ((rd_T81 x0 x3).f1.f4) ((rd_T81 x0 x3).f1.f5) ((rd_T81 x0 x3).f1.f6.f0) ((rd_T81 x0 x3).f1.f6.f1) ((rd_T81 x0 x3).f1.f7.f0) ((rd_T81 x0 x3).f1.f7.f1) ((rd_T81 x0 x3).f1.f8)).bind fun t167 => (if t167 = true then (if x3 > 0 then (if 0 ≤ (wrap64 (x3 - 1)) then (if (wrap64 (x3 - 1)) < (x0.length : Int) then ((quadrigaref18_Ahead.f ((rd_T81 x0 (wrap64 (x3 - 1))).f0) ((rd_T81 x0 (wrap64 (x3 - 1))).f1.f0) ((rd_T81 x0 (wrap64 (x3 - 1))).f1.f1) ((rd_T81 x0 (wrap64 (x3 - 1))).f1.f2) ((rd_T81 x0 (wrap64 (x3 - 1))).f1.f3) ((rd_T81 x0 (wrap64 (x3 - 1))).f1.f4) ((rd_T81 x0 (wrap64 (x3 - 1))).f1.f5) ((rd_T81 x0 (wrap64 (x3 - 1))).f1.f6.f0) ((rd_T81 x0 (wrap64 (x3 - 1))).f1.f6.f1) ((rd_T81 x0 (wrap64 (x3 - 1))).f1.f7.f0) ((rd_T81 x0 (wrap64 (x3 - 1))).f1.f7.f1) ((rd_T81 x0 (wrap64 (x3 - 1))).f1.f8) ((rd_T81 x0 x3).f0) ((rd_T81 x0 x3).f1.f0) ((rd_T81 x0 x3).f1.f1) ((rd_T81 x0 x3).f1.f2) ((rd_T81 x0 x3).f1.f3) ((rd_T81 x0 x3).f1.f4) ((rd_T81 x0 x3).f1.f5) ((rd_T81 x0 x3).f1.f6.f0) ((rd_T81 x0 x3).f1.f6.f1) ((rd_T81 x0 x3).f1.f7.f0) ((rd_T81 x0 x3).f1.f7.f1) ((rd_T81 x0 x3).f1.f8)).bind fun t170 => (if t170 = true then (quadrigaref18_Right.l0 k x0 (wrap64 (x3 + 1))) else (some false))) else (none)) else (none)) else (quadrigaref18_Right.l0 k x0 (wrap64 (x3 + 1)))) else (some false))) else (none)) else (some true)
def quadrigaref18_Right.f (k : Nat) (l0 : List (S81)) : Option (Bool) := quadrigaref18_Right.l0 k l0 0
theorem quadrigaref18_Right.mono_l : ∀ k, (∀ y0 y1, LeO (quadrigaref18_Right.l0 k y0 y1) (quadrigaref18_Right.l0 (k + 1) y0 y1))
  | 0 => fun _ _ r h => by simp [quadrigaref18_Right.l0] at h
  | k + 1 => by
    have ih0 := quadrigaref18_Right.mono_l k
    · intro y0 y1
      unfold quadrigaref18_Right.l0
      repeat' first
      | (with_reducible exact ih0 _ _)
      | (with_reducible exact quadrigaref04_Right.mono _ _ _ _ _ _ _ _ _ _ _ _)
      | (with_reducible exact LeO.refl _)
      | (with_reducible exact LeO.none _)
      | (with_reducible refine LeO.ite ?_ ?_)
      | (with_reducible refine LeO.bind ?_ (fun _ => ?_))
      | exact ih0 _ _
      | exact quadrigaref04_Right.mono _ _ _ _ _ _ _ _ _ _ _ _
      | exact LeO.none _
      | refine LeO.ite ?_ ?_
      | refine LeO.bind ?_ (fun _ => ?_)
theorem quadrigaref18_Right.mono : ∀ a0 k, LeO (quadrigaref18_Right.f k a0) (quadrigaref18_Right.f (k + 1) a0) := by
  intro a0 k
  have ih0 := quadrigaref18_Right.mono_l k
  unfold quadrigaref18_Right.f
  repeat' first
      | (with_reducible exact ih0 _ _)
      | (with_reducible exact quadrigaref04_Right.mono _ _ _ _ _ _ _ _ _ _ _ _)
      | (with_reducible exact LeO.refl _)
      | (with_reducible exact LeO.none _)
      | (with_reducible refine LeO.ite ?_ ?_)
      | (with_reducible refine LeO.bind ?_ (fun _ => ?_))
      | exact ih0 _ _
      | exact quadrigaref04_Right.mono _ _ _ _ _ _ _ _ _ _ _ _
      | exact LeO.none _
      | refine LeO.ite ?_ ?_
      | refine LeO.bind ?_ (fun _ => ?_)
def quadrigaref18_Right.T4 : Bool × List (List Nat × List Nat) := (true, [([], []), ([], []), ([0, 1], [0, 1]), ([2], [2]), ([3], [3]), ([4], [4]), ([5], [5]), ([6, 5], [6]), ([7], [7]), ([8, 7], [7, 8]), ([9, 7, 7], [7, 9]), ([10], [10]), ([10], [10]), ([12, 10], [10, 12]), ([11, 13, 10], [10, 11, 13]), ([14, 10], [10, 14]), ([10], [10]), ([10], [10]), ([16, 17, 10], [10, 16, 17]), ([18, 10], [10, 18]), ([15, 19, 10, 10], [10, 15, 19]), ([20, 10], [10, 20]), ([10, 21, 7], [7, 10, 21]), ([7, 22], [7, 22])])
def quadrigaref18_Right.B4 : List Nat := [0, 0, 3, 7, 15, 31, 63, 127, 255, 511, 1023, 2047, 2047, 6143, 16383, 32767, 2047, 2047, 198655, 460799, 1048575, 2097151, 4194303, 8388607]
theorem quadrigaref18_Right.tab4 : rtab .any (opsOf Try.f35 4) = quadrigaref18_Right.T4 := by kernel_rfl
theorem quadrigaref18_Right.bits4 : waitsOk quadrigaref18_Right.T4.2 quadrigaref18_Right.B4 = true := by kernel_rfl
set_option maxHeartbeats 8000000 in
set_option maxRecDepth 100000 in
theorem quadrigaref18_Right.calls (k : Nat) (A0 : Option Addr) (c0 : Nat) (l0 : List (S81)) (r : Bool) (w : World) (hr0 : Kd.C k81 w A0 l0.length l0) (hc0 : l0.length ≤ c0) (h : quadrigaref18_Right.f k l0 = some r) :
    Calls Try.prog 35 #[.slice A0 l0.length c0] w fun e w' => e = .returned (.bool r) ∧ Below w.heap.size w w' := by
  have hu79 := Try.underlying79
  have hu81 := Try.underlying81
  have HR0 := Aside0.mk hr0
  have HC0 := Aside0.mk hc0
  clear hr0 hc0
  have HB := Aside0.mk (Below.refl w.heap.size w)
  have H : (quadrigaref18_Right.l0 k l0 0) = some r := h
  clear h
  have H' := Aside0.mk H
  clear H
  go_enter Try.func35, Try.ntmps35
  go_wp2
  go_loopg [3] k (fun kq v3 w' => ∃ (x3_1 : Int), v3 = .int .i64 x3_1 ∧ Aside0 (quadrigaref18_Right.l0 kq l0 x3_1 = some r) ∧ Aside0 (kq ≤ k) ∧ Aside0 (Below w.heap.size w w'))
  case atStart => exact ⟨(0), (by first | rfl | (simp; done) | (simp [*]; done)), H', ⟨Nat.le_refl _⟩, ⟨by repeat (first | (with_reducible first | exact HB.out | apply below_alloc | apply pw_below_drewN | apply below_drew1) | exact HB.out)⟩⟩
  case round =>
    clear H'
    obtain ⟨x3_1, rfl, HA, HK1, HB⟩ := hrel
    cases gk with
    | zero => exact absurd HA.out (by simp [quadrigaref18_Right.l0])
    | succ k1 =>
      have H := HA.out
      clear HA
      simp only [quadrigaref18_Right.l0] at H
      by_cases c2 : x3_1 < (l0.length : Int)
      · rw [if_pos c2] at H
        have c2b0 : decide (x3_1 < (l0.length : Int)) = true := decide_eq_true c2
        clear c2
        by_cases c3 : 0 ≤ x3_1
        · rw [if_pos c3] at H
          have c3b0 : decide (0 ≤ x3_1) = true := decide_eq_true c3
          clear c3
          replace H := Option.bind_eq_some_iff.mp H
          obtain ⟨t167, A40, H⟩ := H
          replace H : (if t167 = true then (if x3_1 > 0 then (if 0 ≤ (wrap64 (x3_1 - 1)) then (if (wrap64 (x3_1 - 1)) < (l0.length : Int) then ((quadrigaref18_Ahead.f ((rd_T81 l0 (wrap64 (x3_1 - 1))).f0) ((rd_T81 l0 (wrap64 (x3_1 - 1))).f1.f0) ((rd_T81 l0 (wrap64 (x3_1 - 1))).f1.f1) ((rd_T81 l0 (wrap64 (x3_1 - 1))).f1.f2) ((rd_T81 l0 (wrap64 (x3_1 - 1))).f1.f3) ((rd_T81 l0 (wrap64 (x3_1 - 1))).f1.f4) ((rd_T81 l0 (wrap64 (x3_1 - 1))).f1.f5) ((rd_T81 l0 (wrap64 (x3_1 - 1))).f1.f6.f0) ((rd_T81 l0 (wrap64 (x3_1 - 1))).f1.f6.f1) ((rd_T81 l0 (wrap64 (x3_1 - 1))).f1.f7.f0) ((rd_T81 l0 (wrap64 (x3_1 - 1))).f1.f7.f1) ((rd_T81 l0 (wrap64 (x3_1 - 1))).f1.f8) ((rd_T81 l0 x3_1).f0) ((rd_T81 l0 x3_1).f1.f0) ((rd_T81 l0 x3_1).f1.f1) ((rd_T81 l0 x3_1).f1.f2) ((rd_T81 l0 x3_1).f1.f3) ((rd_T81 l0 x3_1).f1.f4) ((rd_T81 l0 x3_1).f1.f5) ((rd_T81 l0 x3_1).f1.f6.f0) ((rd_T81 l0 x3_1).f1.f6.f1) ((rd_T81 l0 x3_1).f1.f7.f0) ((rd_T81 l0 x3_1).f1.f7.f1) ((rd_T81 l0 x3_1).f1.f8)).bind fun t170 => (if t170 = true then (quadrigaref18_Right.l0 k1 l0 (wrap64 (x3_1 + 1))) else (some false))) else (none)) else (none)) else (quadrigaref18_Right.l0 k1 l0 (wrap64 (x3_1 + 1)))) else (some false)) = some r := H
          have A4 := Aside0.mk A40
          clear A40
          by_cases c5 : t167 = true
          · subst c5
            have H1 : (if x3_1 > 0 then (if 0 ≤ (wrap64 (x3_1 - 1)) then (if (wrap64 (x3_1 - 1)) < (l0.length : Int) then ((quadrigaref18_Ahead.f ((rd_T81 l0 (wrap64 (x3_1 - 1))).f0) ((rd_T81 l0 (wrap64 (x3_1 - 1))).f1.f0) ((rd_T81 l0 (wrap64 (x3_1 - 1))).f1.f1) ((rd_T81 l0 (wrap64 (x3_1 - 1))).f1.f2) ((rd_T81 l0 (wrap64 (x3_1 - 1))).f1.f3) ((rd_T81 l0 (wrap64 (x3_1 - 1))).f1.f4) ((rd_T81 l0 (wrap64 (x3_1 - 1))).f1.f5) ((rd_T81 l0 (wrap64 (x3_1 - 1))).f1.f6.f0) ((rd_T81 l0 (wrap64 (x3_1 - 1))).f1.f6.f1) ((rd_T81 l0 (wrap64 (x3_1 - 1))).f1.f7.f0) ((rd_T81 l0 (wrap64 (x3_1 - 1))).f1.f7.f1) ((rd_T81 l0 (wrap64 (x3_1 - 1))).f1.f8) ((rd_T81 l0 x3_1).f0) ((rd_T81 l0 x3_1).f1.f0) ((rd_T81 l0 x3_1).f1.f1) ((rd_T81 l0 x3_1).f1.f2) ((rd_T81 l0 x3_1).f1.f3) ((rd_T81 l0 x3_1).f1.f4) ((rd_T81 l0 x3_1).f1.f5) ((rd_T81 l0 x3_1).f1.f6.f0) ((rd_T81 l0 x3_1).f1.f6.f1) ((rd_T81 l0 x3_1).f1.f7.f0) ((rd_T81 l0 x3_1).f1.f7.f1) ((rd_T81 l0 x3_1).f1.f8)).bind fun t170 => (if t170 = true then (quadrigaref18_Right.l0 k1 l0 (wrap64 (x3_1 + 1))) else (some false))) else (none)) else (none)) else (quadrigaref18_Right.l0 k1 l0 (wrap64 (x3_1 + 1)))) = some r := by rw [if_pos rfl] at H; exact H
            clear H
            have H := H1
            clear H1
            by_cases c6 : x3_1 > 0
            · rw [if_pos c6] at H
              have c6b0 : decide (0 < x3_1) = true := decide_eq_true c6
              clear c6
              obtain ⟨ji7, hji7⟩ : ∃ j_ : Int, (wrap64 (x3_1 - 1)) = j_ := ⟨_, rfl⟩
              replace H : (if 0 ≤ (ji7) then (if (ji7) < (l0.length : Int) then ((quadrigaref18_Ahead.f ((rd_T81 l0 (ji7)).f0) ((rd_T81 l0 (ji7)).f1.f0) ((rd_T81 l0 (ji7)).f1.f1) ((rd_T81 l0 (ji7)).f1.f2) ((rd_T81 l0 (ji7)).f1.f3) ((rd_T81 l0 (ji7)).f1.f4) ((rd_T81 l0 (ji7)).f1.f5) ((rd_T81 l0 (ji7)).f1.f6.f0) ((rd_T81 l0 (ji7)).f1.f6.f1) ((rd_T81 l0 (ji7)).f1.f7.f0) ((rd_T81 l0 (ji7)).f1.f7.f1) ((rd_T81 l0 (ji7)).f1.f8) ((rd_T81 l0 x3_1).f0) ((rd_T81 l0 x3_1).f1.f0) ((rd_T81 l0 x3_1).f1.f1) ((rd_T81 l0 x3_1).f1.f2) ((rd_T81 l0 x3_1).f1.f3) ((rd_T81 l0 x3_1).f1.f4) ((rd_T81 l0 x3_1).f1.f5) ((rd_T81 l0 x3_1).f1.f6.f0) ((rd_T81 l0 x3_1).f1.f6.f1) ((rd_T81 l0 x3_1).f1.f7.f0) ((rd_T81 l0 x3_1).f1.f7.f1) ((rd_T81 l0 x3_1).f1.f8)).bind fun t170 => (if t170 = true then (quadrigaref18_Right.l0 k1 l0 (wrap64 (x3_1 + 1))) else (some false))) else (none)) else (none)) = some r := by first | (rw [hji7] at H; exact H) | (simp only [hji7] at H ⊢; exact H)
              (try rw [hji7] at A4)
              have hji7w : (IntKind.i64.wrap (x3_1 - 1)) = ji7 := (i64_w _).trans hji7
              by_cases c8 : 0 ≤ (ji7)
              · rw [if_pos c8] at H
                have c8b0 : decide (0 ≤ (ji7)) = true := decide_eq_true c8
                clear c8
                by_cases c9 : (ji7) < (l0.length : Int)
                · rw [if_pos c9] at H
                  have c9b0 : decide ((ji7) < (l0.length : Int)) = true := decide_eq_true c9
                  clear c9
                  replace H := Option.bind_eq_some_iff.mp H
                  obtain ⟨t170, A100, H⟩ := H
                  replace H : (if t170 = true then (quadrigaref18_Right.l0 k1 l0 (wrap64 (x3_1 + 1))) else (some false)) = some r := H
                  have A10 := Aside0.mk A100
                  clear A100
                  by_cases c11 : t170 = true
                  · subst c11
                    have H1 : (quadrigaref18_Right.l0 k1 l0 (wrap64 (x3_1 + 1))) = some r := by rw [if_pos rfl] at H; exact H
                    clear H
                    have H := H1
                    clear H1
                    have H' := Aside0.mk H
                    clear H
                    try go_wp2
                    have n0_ := Aside0.mk (below_drew1 HB.out)
                    clear HB
                    have HB := n0_
                    clear n0_
                    have p166 : 0 ≤ (x3_1 : Int) := of_decide_eq_true (by first | (with_reducible assumption) | assumption)
                    have q166 : x3_1 < (l0.length : Int) := of_decide_eq_true (by first | (with_reducible assumption) | assumption)
                    obtain ⟨ad166, e166, hx166_0, hx166_1, hx166_2, hx166_3, hx166_4, hx166_5, hx166_6, hx166_7, hx166_8, hx166_9, hx166_10, hx166_11⟩ := at_T81 HR0.out x3_1 p166 q166
                    have hw166_11 := hx166_11
                    have hw166_10 := hx166_10
                    have hw166_9 := hx166_9
                    have hw166_8 := hx166_8
                    have hw166_7 := hx166_7
                    have hw166_6 := hx166_6
                    have hw166_5 := hx166_5
                    have hw166_4 := hx166_4
                    have hw166_3 := hx166_3
                    have hw166_2 := hx166_2
                    have hw166_1 := hx166_1
                    have hw166_0 := hx166_0
                    cases e166
                    replace hx166_0 := (HB.out.cell (World.block_lt_of_cell? w _ hx166_0)).trans hx166_0
                    replace hx166_1 := (HB.out.cell (World.block_lt_of_cell? w _ hx166_1)).trans hx166_1
                    replace hx166_2 := (HB.out.cell (World.block_lt_of_cell? w _ hx166_2)).trans hx166_2
                    replace hx166_3 := (HB.out.cell (World.block_lt_of_cell? w _ hx166_3)).trans hx166_3
                    replace hx166_4 := (HB.out.cell (World.block_lt_of_cell? w _ hx166_4)).trans hx166_4
                    replace hx166_5 := (HB.out.cell (World.block_lt_of_cell? w _ hx166_5)).trans hx166_5
                    replace hx166_6 := (HB.out.cell (World.block_lt_of_cell? w _ hx166_6)).trans hx166_6
                    replace hx166_7 := (HB.out.cell (World.block_lt_of_cell? w _ hx166_7)).trans hx166_7
                    replace hx166_8 := (HB.out.cell (World.block_lt_of_cell? w _ hx166_8)).trans hx166_8
                    replace hx166_9 := (HB.out.cell (World.block_lt_of_cell? w _ hx166_9)).trans hx166_9
                    replace hx166_10 := (HB.out.cell (World.block_lt_of_cell? w _ hx166_10)).trans hx166_10
                    replace hx166_11 := (HB.out.cell (World.block_lt_of_cell? w _ hx166_11)).trans hx166_11
                    replace p166 := eq_true p166
                    replace q166 := eq_true q166
                    have p168 : 0 ≤ ((ji7) : Int) := of_decide_eq_true (by first | (with_reducible assumption) | assumption)
                    have q168 : (ji7) < (l0.length : Int) := of_decide_eq_true (by first | (with_reducible assumption) | assumption)
                    obtain ⟨ad168, e168, hx168_0, hx168_1, hx168_2, hx168_3, hx168_4, hx168_5, hx168_6, hx168_7, hx168_8, hx168_9, hx168_10, hx168_11⟩ := at_T81 HR0.out (ji7) p168 q168
                    have hw168_11 := hx168_11
                    have hw168_10 := hx168_10
                    have hw168_9 := hx168_9
                    have hw168_8 := hx168_8
                    have hw168_7 := hx168_7
                    have hw168_6 := hx168_6
                    have hw168_5 := hx168_5
                    have hw168_4 := hx168_4
                    have hw168_3 := hx168_3
                    have hw168_2 := hx168_2
                    have hw168_1 := hx168_1
                    have hw168_0 := hx168_0
                    obtain rfl : ad166 = ad168 := (by injection e168)
                    replace hx168_0 := (HB.out.cell (World.block_lt_of_cell? w _ hx168_0)).trans hx168_0
                    replace hx168_1 := (HB.out.cell (World.block_lt_of_cell? w _ hx168_1)).trans hx168_1
                    replace hx168_2 := (HB.out.cell (World.block_lt_of_cell? w _ hx168_2)).trans hx168_2
                    replace hx168_3 := (HB.out.cell (World.block_lt_of_cell? w _ hx168_3)).trans hx168_3
                    replace hx168_4 := (HB.out.cell (World.block_lt_of_cell? w _ hx168_4)).trans hx168_4
                    replace hx168_5 := (HB.out.cell (World.block_lt_of_cell? w _ hx168_5)).trans hx168_5
                    replace hx168_6 := (HB.out.cell (World.block_lt_of_cell? w _ hx168_6)).trans hx168_6
                    replace hx168_7 := (HB.out.cell (World.block_lt_of_cell? w _ hx168_7)).trans hx168_7
                    replace hx168_8 := (HB.out.cell (World.block_lt_of_cell? w _ hx168_8)).trans hx168_8
                    replace hx168_9 := (HB.out.cell (World.block_lt_of_cell? w _ hx168_9)).trans hx168_9
                    replace hx168_10 := (HB.out.cell (World.block_lt_of_cell? w _ hx168_10)).trans hx168_10
                    replace hx168_11 := (HB.out.cell (World.block_lt_of_cell? w _ hx168_11)).trans hx168_11
                    replace p168 := eq_true p168
                    replace q168 := eq_true q168
                    have p169 : 0 ≤ (x3_1 : Int) := of_decide_eq_true (by first | (with_reducible assumption) | assumption)
                    have q169 : x3_1 < (l0.length : Int) := of_decide_eq_true (by first | (with_reducible assumption) | assumption)
                    obtain ⟨ad169, e169, hx169_0, hx169_1, hx169_2, hx169_3, hx169_4, hx169_5, hx169_6, hx169_7, hx169_8, hx169_9, hx169_10, hx169_11⟩ := at_T81 HR0.out x3_1 p169 q169
                    have hw169_11 := hx169_11
                    have hw169_10 := hx169_10
                    have hw169_9 := hx169_9
                    have hw169_8 := hx169_8
                    have hw169_7 := hx169_7
                    have hw169_6 := hx169_6
                    have hw169_5 := hx169_5
                    have hw169_4 := hx169_4
                    have hw169_3 := hx169_3
                    have hw169_2 := hx169_2
                    have hw169_1 := hx169_1
                    have hw169_0 := hx169_0
                    obtain rfl : ad166 = ad169 := (by injection e169)
                    replace hx169_0 := (HB.out.cell (World.block_lt_of_cell? w _ hx169_0)).trans hx169_0
                    replace hx169_1 := (HB.out.cell (World.block_lt_of_cell? w _ hx169_1)).trans hx169_1
                    replace hx169_2 := (HB.out.cell (World.block_lt_of_cell? w _ hx169_2)).trans hx169_2
                    replace hx169_3 := (HB.out.cell (World.block_lt_of_cell? w _ hx169_3)).trans hx169_3
                    replace hx169_4 := (HB.out.cell (World.block_lt_of_cell? w _ hx169_4)).trans hx169_4
                    replace hx169_5 := (HB.out.cell (World.block_lt_of_cell? w _ hx169_5)).trans hx169_5
                    replace hx169_6 := (HB.out.cell (World.block_lt_of_cell? w _ hx169_6)).trans hx169_6
                    replace hx169_7 := (HB.out.cell (World.block_lt_of_cell? w _ hx169_7)).trans hx169_7
                    replace hx169_8 := (HB.out.cell (World.block_lt_of_cell? w _ hx169_8)).trans hx169_8
                    replace hx169_9 := (HB.out.cell (World.block_lt_of_cell? w _ hx169_9)).trans hx169_9
                    replace hx169_10 := (HB.out.cell (World.block_lt_of_cell? w _ hx169_10)).trans hx169_10
                    replace hx169_11 := (HB.out.cell (World.block_lt_of_cell? w _ hx169_11)).trans hx169_11
                    replace p169 := eq_true p169
                    replace q169 := eq_true q169
                    refine start_ (n := 24) (S := fun w' => w'.cell? (ad166.add ((x3_1).toNat * 12)) = some (.int .i64 ((rd_T81 l0 x3_1).f0)) ∧ w'.cell? ⟨(ad166.add ((x3_1).toNat * 12)).block, (ad166.add ((x3_1).toNat * 12)).off + 1, none⟩ = some (.int .i64 ((rd_T81 l0 x3_1).f1.f0)) ∧ w'.cell? ⟨(ad166.add ((x3_1).toNat * 12)).block, (ad166.add ((x3_1).toNat * 12)).off + 2, none⟩ = some (.int .i64 ((rd_T81 l0 x3_1).f1.f1)) ∧ w'.cell? ⟨(ad166.add ((x3_1).toNat * 12)).block, (ad166.add ((x3_1).toNat * 12)).off + 3, none⟩ = some (.int .i64 ((rd_T81 l0 x3_1).f1.f2)) ∧ w'.cell? ⟨(ad166.add ((x3_1).toNat * 12)).block, (ad166.add ((x3_1).toNat * 12)).off + 4, none⟩ = some (.int .i64 ((rd_T81 l0 x3_1).f1.f3)) ∧ w'.cell? ⟨(ad166.add ((x3_1).toNat * 12)).block, (ad166.add ((x3_1).toNat * 12)).off + 5, none⟩ = some (.int .i64 ((rd_T81 l0 x3_1).f1.f4)) ∧ w'.cell? ⟨(ad166.add ((x3_1).toNat * 12)).block, (ad166.add ((x3_1).toNat * 12)).off + 6, none⟩ = some (.string ((rd_T81 l0 x3_1).f1.f5)) ∧ w'.cell? ⟨(ad166.add ((x3_1).toNat * 12)).block, (ad166.add ((x3_1).toNat * 12)).off + 7, none⟩ = some (.bool ((rd_T81 l0 x3_1).f1.f6.f0)) ∧ w'.cell? ⟨(ad166.add ((x3_1).toNat * 12)).block, (ad166.add ((x3_1).toNat * 12)).off + 8, none⟩ = some (.string ((rd_T81 l0 x3_1).f1.f6.f1)) ∧ w'.cell? ⟨(ad166.add ((x3_1).toNat * 12)).block, (ad166.add ((x3_1).toNat * 12)).off + 9, none⟩ = some (.bool ((rd_T81 l0 x3_1).f1.f7.f0)) ∧ w'.cell? ⟨(ad166.add ((x3_1).toNat * 12)).block, (ad166.add ((x3_1).toNat * 12)).off + 10, none⟩ = some (.string ((rd_T81 l0 x3_1).f1.f7.f1)) ∧ w'.cell? ⟨(ad166.add ((x3_1).toNat * 12)).block, (ad166.add ((x3_1).toNat * 12)).off + 11, none⟩ = some (.int .i64 ((rd_T81 l0 x3_1).f1.f8)) ∧ w'.cell? (ad166.add (((ji7)).toNat * 12)) = some (.int .i64 ((rd_T81 l0 (ji7)).f0)) ∧ w'.cell? ⟨(ad166.add (((ji7)).toNat * 12)).block, (ad166.add (((ji7)).toNat * 12)).off + 1, none⟩ = some (.int .i64 ((rd_T81 l0 (ji7)).f1.f0)) ∧ w'.cell? ⟨(ad166.add (((ji7)).toNat * 12)).block, (ad166.add (((ji7)).toNat * 12)).off + 2, none⟩ = some (.int .i64 ((rd_T81 l0 (ji7)).f1.f1)) ∧ w'.cell? ⟨(ad166.add (((ji7)).toNat * 12)).block, (ad166.add (((ji7)).toNat * 12)).off + 3, none⟩ = some (.int .i64 ((rd_T81 l0 (ji7)).f1.f2)) ∧ w'.cell? ⟨(ad166.add (((ji7)).toNat * 12)).block, (ad166.add (((ji7)).toNat * 12)).off + 4, none⟩ = some (.int .i64 ((rd_T81 l0 (ji7)).f1.f3)) ∧ w'.cell? ⟨(ad166.add (((ji7)).toNat * 12)).block, (ad166.add (((ji7)).toNat * 12)).off + 5, none⟩ = some (.int .i64 ((rd_T81 l0 (ji7)).f1.f4)) ∧ w'.cell? ⟨(ad166.add (((ji7)).toNat * 12)).block, (ad166.add (((ji7)).toNat * 12)).off + 6, none⟩ = some (.string ((rd_T81 l0 (ji7)).f1.f5)) ∧ w'.cell? ⟨(ad166.add (((ji7)).toNat * 12)).block, (ad166.add (((ji7)).toNat * 12)).off + 7, none⟩ = some (.bool ((rd_T81 l0 (ji7)).f1.f6.f0)) ∧ w'.cell? ⟨(ad166.add (((ji7)).toNat * 12)).block, (ad166.add (((ji7)).toNat * 12)).off + 8, none⟩ = some (.string ((rd_T81 l0 (ji7)).f1.f6.f1)) ∧ w'.cell? ⟨(ad166.add (((ji7)).toNat * 12)).block, (ad166.add (((ji7)).toNat * 12)).off + 9, none⟩ = some (.bool ((rd_T81 l0 (ji7)).f1.f7.f0)) ∧ w'.cell? ⟨(ad166.add (((ji7)).toNat * 12)).block, (ad166.add (((ji7)).toNat * 12)).off + 10, none⟩ = some (.string ((rd_T81 l0 (ji7)).f1.f7.f1)) ∧ w'.cell? ⟨(ad166.add (((ji7)).toNat * 12)).block, (ad166.add (((ji7)).toNat * 12)).off + 11, none⟩ = some (.int .i64 ((rd_T81 l0 (ji7)).f1.f8)) ∧ w'.cell? (ad166.add ((x3_1).toNat * 12)) = some (.int .i64 ((rd_T81 l0 x3_1).f0)) ∧ w'.cell? ⟨(ad166.add ((x3_1).toNat * 12)).block, (ad166.add ((x3_1).toNat * 12)).off + 1, none⟩ = some (.int .i64 ((rd_T81 l0 x3_1).f1.f0)) ∧ w'.cell? ⟨(ad166.add ((x3_1).toNat * 12)).block, (ad166.add ((x3_1).toNat * 12)).off + 2, none⟩ = some (.int .i64 ((rd_T81 l0 x3_1).f1.f1)) ∧ w'.cell? ⟨(ad166.add ((x3_1).toNat * 12)).block, (ad166.add ((x3_1).toNat * 12)).off + 3, none⟩ = some (.int .i64 ((rd_T81 l0 x3_1).f1.f2)) ∧ w'.cell? ⟨(ad166.add ((x3_1).toNat * 12)).block, (ad166.add ((x3_1).toNat * 12)).off + 4, none⟩ = some (.int .i64 ((rd_T81 l0 x3_1).f1.f3)) ∧ w'.cell? ⟨(ad166.add ((x3_1).toNat * 12)).block, (ad166.add ((x3_1).toNat * 12)).off + 5, none⟩ = some (.int .i64 ((rd_T81 l0 x3_1).f1.f4)) ∧ w'.cell? ⟨(ad166.add ((x3_1).toNat * 12)).block, (ad166.add ((x3_1).toNat * 12)).off + 6, none⟩ = some (.string ((rd_T81 l0 x3_1).f1.f5)) ∧ w'.cell? ⟨(ad166.add ((x3_1).toNat * 12)).block, (ad166.add ((x3_1).toNat * 12)).off + 7, none⟩ = some (.bool ((rd_T81 l0 x3_1).f1.f6.f0)) ∧ w'.cell? ⟨(ad166.add ((x3_1).toNat * 12)).block, (ad166.add ((x3_1).toNat * 12)).off + 8, none⟩ = some (.string ((rd_T81 l0 x3_1).f1.f6.f1)) ∧ w'.cell? ⟨(ad166.add ((x3_1).toNat * 12)).block, (ad166.add ((x3_1).toNat * 12)).off + 9, none⟩ = some (.bool ((rd_T81 l0 x3_1).f1.f7.f0)) ∧ w'.cell? ⟨(ad166.add ((x3_1).toNat * 12)).block, (ad166.add ((x3_1).toNat * 12)).off + 10, none⟩ = some (.string ((rd_T81 l0 x3_1).f1.f7.f1)) ∧ w'.cell? ⟨(ad166.add ((x3_1).toNat * 12)).block, (ad166.add ((x3_1).toNat * 12)).off + 11, none⟩ = some (.int .i64 ((rd_T81 l0 x3_1).f1.f8))) (ds := []) #[false, false, false, false, false, false, false, false, false, false, false, false, false, false, false, false, false, false, false, false, false, false, false, false] (by kernel_rfl) rfl rfl ⟨((HB.out.cell (World.block_lt_of_cell? w _ hw166_0)).trans hw166_0), ((HB.out.cell (World.block_lt_of_cell? w _ hw166_1)).trans hw166_1), ((HB.out.cell (World.block_lt_of_cell? w _ hw166_2)).trans hw166_2), ((HB.out.cell (World.block_lt_of_cell? w _ hw166_3)).trans hw166_3), ((HB.out.cell (World.block_lt_of_cell? w _ hw166_4)).trans hw166_4), ((HB.out.cell (World.block_lt_of_cell? w _ hw166_5)).trans hw166_5), ((HB.out.cell (World.block_lt_of_cell? w _ hw166_6)).trans hw166_6), ((HB.out.cell (World.block_lt_of_cell? w _ hw166_7)).trans hw166_7), ((HB.out.cell (World.block_lt_of_cell? w _ hw166_8)).trans hw166_8), ((HB.out.cell (World.block_lt_of_cell? w _ hw166_9)).trans hw166_9), ((HB.out.cell (World.block_lt_of_cell? w _ hw166_10)).trans hw166_10), ((HB.out.cell (World.block_lt_of_cell? w _ hw166_11)).trans hw166_11), ((HB.out.cell (World.block_lt_of_cell? w _ hw168_0)).trans hw168_0), ((HB.out.cell (World.block_lt_of_cell? w _ hw168_1)).trans hw168_1), ((HB.out.cell (World.block_lt_of_cell? w _ hw168_2)).trans hw168_2), ((HB.out.cell (World.block_lt_of_cell? w _ hw168_3)).trans hw168_3), ((HB.out.cell (World.block_lt_of_cell? w _ hw168_4)).trans hw168_4), ((HB.out.cell (World.block_lt_of_cell? w _ hw168_5)).trans hw168_5), ((HB.out.cell (World.block_lt_of_cell? w _ hw168_6)).trans hw168_6), ((HB.out.cell (World.block_lt_of_cell? w _ hw168_7)).trans hw168_7), ((HB.out.cell (World.block_lt_of_cell? w _ hw168_8)).trans hw168_8), ((HB.out.cell (World.block_lt_of_cell? w _ hw168_9)).trans hw168_9), ((HB.out.cell (World.block_lt_of_cell? w _ hw168_10)).trans hw168_10), ((HB.out.cell (World.block_lt_of_cell? w _ hw168_11)).trans hw168_11), ((HB.out.cell (World.block_lt_of_cell? w _ hw169_0)).trans hw169_0), ((HB.out.cell (World.block_lt_of_cell? w _ hw169_1)).trans hw169_1), ((HB.out.cell (World.block_lt_of_cell? w _ hw169_2)).trans hw169_2), ((HB.out.cell (World.block_lt_of_cell? w _ hw169_3)).trans hw169_3), ((HB.out.cell (World.block_lt_of_cell? w _ hw169_4)).trans hw169_4), ((HB.out.cell (World.block_lt_of_cell? w _ hw169_5)).trans hw169_5), ((HB.out.cell (World.block_lt_of_cell? w _ hw169_6)).trans hw169_6), ((HB.out.cell (World.block_lt_of_cell? w _ hw169_7)).trans hw169_7), ((HB.out.cell (World.block_lt_of_cell? w _ hw169_8)).trans hw169_8), ((HB.out.cell (World.block_lt_of_cell? w _ hw169_9)).trans hw169_9), ((HB.out.cell (World.block_lt_of_cell? w _ hw169_10)).trans hw169_10), ((HB.out.cell (World.block_lt_of_cell? w _ hw169_11)).trans hw169_11)⟩ (fun hHeld => ?_); refine with_tabW quadrigaref18_Right.tab4 quadrigaref18_Right.bits4 (fun HT_ HW_ => ?_)
                    generalize wr.drew = w12 at HB hx166_0 hx166_1 hx166_10 hx166_11 hx166_2 hx166_3 hx166_4 hx166_5 hx166_6 hx166_7 hx166_8 hx166_9 hx168_0 hx168_1 hx168_10 hx168_11 hx168_2 hx168_3 hx168_4 hx168_5 hx168_6 hx168_7 hx168_8 hx168_9 hx169_0 hx169_1 hx169_10 hx169_11 hx169_2 hx169_3 hx169_4 hx169_5 hx169_6 hx169_7 hx169_8 hx169_9 hHeld ⊢
                    refine pure_ (i := 0) (N := some 10) (v := ?_) (a' := ?_) #[true, false, false, false, false, false, false, false, false, false, false, false, false, false, false, false, false, false, false, false, false, false, false, false] rfl rfl (any_of HT_.out (by kernel_rfl)) (fun _ _ _ h => h) (Or.inl ⟨by rfl, ?_⟩) ?_ ?_
                    rotate_left
                    · intro w'
                      go_simp
                      with_reducible rfl
                    rotate_left
                    · simp only [Act.put, List.setIfInBounds_toArray, List.set_cons_zero, List.set_cons_succ, i64_w, i32_w]
                      rfl
                    refine pure_ (i := 1) (N := some 11) (v := ?_) (a' := ?_) #[true, true, false, false, false, false, false, false, false, false, false, false, false, false, false, false, false, false, false, false, false, false, false, false] rfl rfl (any_of HT_.out (by kernel_rfl)) (fun _ _ _ h => h) (Or.inl ⟨by rfl, ?_⟩) ?_ ?_
                    rotate_left
                    · intro w'
                      go_simp
                      with_reducible rfl
                    rotate_left
                    · simp only [Act.put, List.setIfInBounds_toArray, List.set_cons_zero, List.set_cons_succ, i64_w, i32_w]
                      rfl
                    refine pure_ (i := 2) (N := some 12) (v := ?_) (a' := ?_) #[true, true, true, false, false, false, false, false, false, false, false, false, false, false, false, false, false, false, false, false, false, false, false, false] rfl rfl (any_of HT_.out (by kernel_rfl)) (fun _ _ _ h => h) (Or.inl ⟨by rfl, ?_⟩) ?_ ?_
                    rotate_left
                    · intro w'
                      go_simp
                      with_reducible rfl
                    rotate_left
                    · simp only [Act.put, List.setIfInBounds_toArray, List.set_cons_zero, List.set_cons_succ, i64_w, i32_w]
                      rfl
                    refine pure_ (i := 3) (N := some 13) (v := ?_) (a' := ?_) #[true, true, true, true, false, false, false, false, false, false, false, false, false, false, false, false, false, false, false, false, false, false, false, false] rfl rfl (any_of HT_.out (by kernel_rfl)) (fun _ _ _ h => h) (Or.inl ⟨by rfl, ?_⟩) ?_ ?_
                    rotate_left
                    · intro w'
                      go_simp
                      with_reducible rfl
                    rotate_left
                    · simp only [Act.put, List.setIfInBounds_toArray, List.set_cons_zero, List.set_cons_succ, i64_w, i32_w]
                      rfl
                    refine take_ (i := 4) (N := some 14) (v := ?_) (a' := ?_) #[true, true, true, true, true, false, false, false, false, false, false, false, false, false, false, false, false, false, false, false, false, false, false, false] rfl rfl (take_ofW HT_.out HW_.out (by kernel_rfl)) (fun _ _ _ h => h) (Or.inl ⟨by rfl, ?_⟩) hHeld ?_ ?_
                    rotate_left
                    · rintro w' ⟨s0, s1, s2, s3, s4, s5, s6, s7, s8, s9, s10, s11, s12, s13, s14, s15, s16, s17, s18, s19, s20, s21, s22, s23, s24, s25, s26, s27, s28, s29, s30, s31, s32, s33, s34, s35⟩
                      go_simp
                      with_reducible rfl
                    rotate_left
                    · simp only [Act.put, List.setIfInBounds_toArray, List.set_cons_zero, List.set_cons_succ, i64_w, i32_w]
                      rfl
                    refine one_ (i := 5) (N := some 15) #[true, true, true, true, true, true, false, false, false, false, false, false, false, false, false, false, false, false, false, false, false, false, false, false] rfl rfl (one_of HT_.out (by kernel_rfl)) (by decide) (fun K hK => ?_)
                    refine goes_ Try.func41 (by kernel_rfl) rfl #[.agg #[.int .i64 ((rd_T81 l0 x3_1).f1.f0), .int .i64 ((rd_T81 l0 x3_1).f1.f1), .int .i64 ((rd_T81 l0 x3_1).f1.f2), .int .i64 ((rd_T81 l0 x3_1).f1.f3), .int .i64 ((rd_T81 l0 x3_1).f1.f4), .string ((rd_T81 l0 x3_1).f1.f5), .bool ((rd_T81 l0 x3_1).f1.f6.f0), .string ((rd_T81 l0 x3_1).f1.f6.f1), .bool ((rd_T81 l0 x3_1).f1.f7.f0), .string ((rd_T81 l0 x3_1).f1.f7.f1), .int .i64 ((rd_T81 l0 x3_1).f1.f8)]] (by rfl) rfl rfl (by (try simp only [List.map_toArray, List.map_cons, List.map_nil]); first | done | rfl | (simp only [List.length_drop, List.length_take]; rfl)) ?_
                    with_reducible refine (quadrigaref04_Right.calls k1 ((rd_T81 l0 x3_1).f1.f0) ((rd_T81 l0 x3_1).f1.f1) ((rd_T81 l0 x3_1).f1.f2) ((rd_T81 l0 x3_1).f1.f3) ((rd_T81 l0 x3_1).f1.f4) ((rd_T81 l0 x3_1).f1.f5) ((rd_T81 l0 x3_1).f1.f6.f0) ((rd_T81 l0 x3_1).f1.f6.f1) ((rd_T81 l0 x3_1).f1.f7.f0) ((rd_T81 l0 x3_1).f1.f7.f1) ((rd_T81 l0 x3_1).f1.f8) true _ A4.out).mono ?_
                    rintro e w13 ⟨rfl, hb⟩
                    refine ⟨_, rfl, ?_⟩
                    have n0_ := Aside0.mk (below_step (by repeat (first | (with_reducible first | exact HB.out | apply below_alloc | apply pw_below_drewN | apply below_drew1) | exact HB.out)) hb)
                    clear HB
                    have HB := n0_
                    clear n0_
                    (try clear hb)
                    (try clear hb2)
                    (try clear hk)
                    (try clear hi)
                    refine hK.out _ _ ⟨((HB.out.cell (World.block_lt_of_cell? w _ hw166_0)).trans hw166_0), ((HB.out.cell (World.block_lt_of_cell? w _ hw166_1)).trans hw166_1), ((HB.out.cell (World.block_lt_of_cell? w _ hw166_2)).trans hw166_2), ((HB.out.cell (World.block_lt_of_cell? w _ hw166_3)).trans hw166_3), ((HB.out.cell (World.block_lt_of_cell? w _ hw166_4)).trans hw166_4), ((HB.out.cell (World.block_lt_of_cell? w _ hw166_5)).trans hw166_5), ((HB.out.cell (World.block_lt_of_cell? w _ hw166_6)).trans hw166_6), ((HB.out.cell (World.block_lt_of_cell? w _ hw166_7)).trans hw166_7), ((HB.out.cell (World.block_lt_of_cell? w _ hw166_8)).trans hw166_8), ((HB.out.cell (World.block_lt_of_cell? w _ hw166_9)).trans hw166_9), ((HB.out.cell (World.block_lt_of_cell? w _ hw166_10)).trans hw166_10), ((HB.out.cell (World.block_lt_of_cell? w _ hw166_11)).trans hw166_11), ((HB.out.cell (World.block_lt_of_cell? w _ hw168_0)).trans hw168_0), ((HB.out.cell (World.block_lt_of_cell? w _ hw168_1)).trans hw168_1), ((HB.out.cell (World.block_lt_of_cell? w _ hw168_2)).trans hw168_2), ((HB.out.cell (World.block_lt_of_cell? w _ hw168_3)).trans hw168_3), ((HB.out.cell (World.block_lt_of_cell? w _ hw168_4)).trans hw168_4), ((HB.out.cell (World.block_lt_of_cell? w _ hw168_5)).trans hw168_5), ((HB.out.cell (World.block_lt_of_cell? w _ hw168_6)).trans hw168_6), ((HB.out.cell (World.block_lt_of_cell? w _ hw168_7)).trans hw168_7), ((HB.out.cell (World.block_lt_of_cell? w _ hw168_8)).trans hw168_8), ((HB.out.cell (World.block_lt_of_cell? w _ hw168_9)).trans hw168_9), ((HB.out.cell (World.block_lt_of_cell? w _ hw168_10)).trans hw168_10), ((HB.out.cell (World.block_lt_of_cell? w _ hw168_11)).trans hw168_11), ((HB.out.cell (World.block_lt_of_cell? w _ hw169_0)).trans hw169_0), ((HB.out.cell (World.block_lt_of_cell? w _ hw169_1)).trans hw169_1), ((HB.out.cell (World.block_lt_of_cell? w _ hw169_2)).trans hw169_2), ((HB.out.cell (World.block_lt_of_cell? w _ hw169_3)).trans hw169_3), ((HB.out.cell (World.block_lt_of_cell? w _ hw169_4)).trans hw169_4), ((HB.out.cell (World.block_lt_of_cell? w _ hw169_5)).trans hw169_5), ((HB.out.cell (World.block_lt_of_cell? w _ hw169_6)).trans hw169_6), ((HB.out.cell (World.block_lt_of_cell? w _ hw169_7)).trans hw169_7), ((HB.out.cell (World.block_lt_of_cell? w _ hw169_8)).trans hw169_8), ((HB.out.cell (World.block_lt_of_cell? w _ hw169_9)).trans hw169_9), ((HB.out.cell (World.block_lt_of_cell? w _ hw169_10)).trans hw169_10), ((HB.out.cell (World.block_lt_of_cell? w _ hw169_11)).trans hw169_11)⟩ (fun hHeld => ?_)
                    clear hK K
                    refine norm_ (a' := ?_) ?_ ?_
                    rotate_left
                    · show Act.put _ (some 15) _ = _
                      simp only [Act.put, List.setIfInBounds_toArray, List.set_cons_zero, List.set_cons_succ, i64_w, i32_w]
                      rfl
                    refine pure_ (i := 6) (N := some 16) (v := ?_) (a' := ?_) #[true, true, true, true, true, true, true, false, false, false, false, false, false, false, false, false, false, false, false, false, false, false, false, false] rfl rfl (any_of HT_.out (by kernel_rfl)) (fun _ _ _ h => h) (Or.inl ⟨by rfl, ?_⟩) ?_ ?_
                    rotate_left
                    · intro w'
                      go_simp
                      with_reducible rfl
                    rotate_left
                    · simp only [Act.put, List.setIfInBounds_toArray, List.set_cons_zero, List.set_cons_succ, i64_w, i32_w]
                      rfl
                    refine pure_ (i := 7) (N := some 17) (v := ?_) (a' := ?_) #[true, true, true, true, true, true, true, true, false, false, false, false, false, false, false, false, false, false, false, false, false, false, false, false] rfl rfl (any_of HT_.out (by kernel_rfl)) (fun _ _ _ h => h) (Or.inl ⟨by rfl, ?_⟩) ?_ ?_
                    rotate_left
                    · intro w'
                      go_simp
                      with_reducible rfl
                    rotate_left
                    · simp only [Act.put, List.setIfInBounds_toArray, List.set_cons_zero, List.set_cons_succ, i64_w, i32_w]
                      rfl
                    refine pure_ (i := 8) (N := some 18) (v := ?_) (a' := ?_) #[true, true, true, true, true, true, true, true, true, false, false, false, false, false, false, false, false, false, false, false, false, false, false, false] rfl rfl (any_of HT_.out (by kernel_rfl)) (fun _ _ _ h => h) (Or.inl ⟨by rfl, ?_⟩) ?_ ?_
                    rotate_left
                    · intro w'
                      go_simp
                      with_reducible rfl
                    rotate_left
                    · simp only [Act.put, List.setIfInBounds_toArray, List.set_cons_zero, List.set_cons_succ, i64_w, i32_w]
                      rfl
                    refine pure_ (i := 9) (N := some 19) (v := ?_) (a' := ?_) #[true, true, true, true, true, true, true, true, true, true, false, false, false, false, false, false, false, false, false, false, false, false, false, false] rfl rfl (any_of HT_.out (by kernel_rfl)) (fun _ _ _ h => h) (Or.inl ⟨by rfl, ?_⟩) ?_ ?_
                    rotate_left
                    · intro w'
                      go_simp
                      with_reducible rfl
                    rotate_left
                    · simp only [Act.put, List.setIfInBounds_toArray, List.set_cons_zero, List.set_cons_succ, i64_w, i32_w]
                      rfl
                    refine pure_ (i := 10) (N := some 20) (v := ?_) (a' := ?_) #[true, true, true, true, true, true, true, true, true, true, true, false, false, false, false, false, false, false, false, false, false, false, false, false] rfl rfl (any_of HT_.out (by kernel_rfl)) (fun _ _ _ h => h) (Or.inl ⟨by rfl, ?_⟩) ?_ ?_
                    rotate_left
                    · intro w'
                      go_simp
                      with_reducible rfl
                    rotate_left
                    · simp only [Act.put, List.setIfInBounds_toArray, List.set_cons_zero, List.set_cons_succ, i64_w, i32_w]
                      rfl
                    refine pure_ (i := 11) (N := some 21) (v := ?_) (a' := ?_) #[true, true, true, true, true, true, true, true, true, true, true, true, false, false, false, false, false, false, false, false, false, false, false, false] rfl rfl (any_of HT_.out (by kernel_rfl)) (fun _ _ _ h => h) (Or.inl ⟨by rfl, ?_⟩) ?_ ?_
                    rotate_left
                    · intro w'
                      go_simp
                      with_reducible rfl
                    rotate_left
                    · simp only [Act.put, List.setIfInBounds_toArray, List.set_cons_zero, List.set_cons_succ, i64_w, i32_w]
                      rfl
                    refine pure_ (i := 12) (N := some 22) (v := ?_) (a' := ?_) #[true, true, true, true, true, true, true, true, true, true, true, true, true, false, false, false, false, false, false, false, false, false, false, false] rfl rfl (any_of HT_.out (by kernel_rfl)) (fun _ _ _ h => h) (Or.inl ⟨by rfl, ?_⟩) ?_ ?_
                    rotate_left
                    · intro w'
                      go_simp
                      with_reducible rfl
                    rotate_left
                    · simp only [Act.put, List.setIfInBounds_toArray, List.set_cons_zero, List.set_cons_succ, i64_w, i32_w]
                      rfl
                    refine pure_ (i := 13) (N := some 23) (v := ?_) (a' := ?_) #[true, true, true, true, true, true, true, true, true, true, true, true, true, true, false, false, false, false, false, false, false, false, false, false] rfl rfl (any_of HT_.out (by kernel_rfl)) (fun _ _ _ h => h) (Or.inl ⟨by rfl, ?_⟩) ?_ ?_
                    rotate_left
                    · intro w'
                      go_simp
                      with_reducible rfl
                    rotate_left
                    · simp only [Act.put, List.setIfInBounds_toArray, List.set_cons_zero, List.set_cons_succ, i64_w, i32_w]
                      rfl
                    refine pure_ (i := 14) (N := some 24) (v := ?_) (a' := ?_) #[true, true, true, true, true, true, true, true, true, true, true, true, true, true, true, false, false, false, false, false, false, false, false, false] rfl rfl (any_of HT_.out (by kernel_rfl)) (fun _ _ _ h => h) (Or.inl ⟨by rfl, ?_⟩) ?_ ?_
                    rotate_left
                    · intro w'
                      go_simp
                      with_reducible rfl
                    rotate_left
                    · simp only [Act.put, List.setIfInBounds_toArray, List.set_cons_zero, List.set_cons_succ, i64_w, i32_w]
                      rfl
                    refine pure_ (i := 16) (N := some 26) (v := ?_) (a' := ?_) #[true, true, true, true, true, true, true, true, true, true, true, true, true, true, true, false, true, false, false, false, false, false, false, false] rfl rfl (any_of HT_.out (by kernel_rfl)) (fun _ _ _ h => h) (Or.inl ⟨by rfl, ?_⟩) ?_ ?_
                    rotate_left
                    · intro w'
                      go_simp
                      with_reducible rfl
                    rotate_left
                    · simp only [Act.put, List.setIfInBounds_toArray, List.set_cons_zero, List.set_cons_succ, i64_w, i32_w]
                      rfl
                    refine pure_ (i := 17) (N := some 27) (v := ?_) (a' := ?_) #[true, true, true, true, true, true, true, true, true, true, true, true, true, true, true, false, true, true, false, false, false, false, false, false] rfl rfl (any_of HT_.out (by kernel_rfl)) (fun _ _ _ h => h) (Or.inl ⟨by rfl, ?_⟩) ?_ ?_
                    rotate_left
                    · intro w'
                      go_simp
                      with_reducible rfl
                    rotate_left
                    · simp only [Act.put, List.setIfInBounds_toArray, List.set_cons_zero, List.set_cons_succ, i64_w, i32_w]
                      rfl
                    refine pure_ (i := 18) (N := some 28) (v := ?_) (a' := ?_) #[true, true, true, true, true, true, true, true, true, true, true, true, true, true, true, false, true, true, true, false, false, false, false, false] rfl rfl (any_of HT_.out (by kernel_rfl)) (fun _ _ _ h => h) (Or.inl ⟨by rfl, ?_⟩) ?_ ?_
                    rotate_left
                    · intro w'
                      go_simp
                      with_reducible rfl
                    rotate_left
                    · simp only [Act.put, List.setIfInBounds_toArray, List.set_cons_zero, List.set_cons_succ, i64_w, i32_w]
                      rfl
                    refine take_ (i := 15) (N := some 25) (v := ?_) (a' := ?_) #[true, true, true, true, true, true, true, true, true, true, true, true, true, true, true, true, true, true, true, false, false, false, false, false] rfl rfl (take_ofW HT_.out HW_.out (by kernel_rfl)) (fun _ _ _ h => h) (Or.inl ⟨by rfl, ?_⟩) hHeld ?_ ?_
                    rotate_left
                    · rintro w' ⟨s0, s1, s2, s3, s4, s5, s6, s7, s8, s9, s10, s11, s12, s13, s14, s15, s16, s17, s18, s19, s20, s21, s22, s23, s24, s25, s26, s27, s28, s29, s30, s31, s32, s33, s34, s35⟩
                      go_simp
                      with_reducible rfl
                    rotate_left
                    · simp only [Act.put, List.setIfInBounds_toArray, List.set_cons_zero, List.set_cons_succ, i64_w, i32_w]
                      rfl
                    refine take_ (i := 19) (N := some 29) (v := ?_) (a' := ?_) #[true, true, true, true, true, true, true, true, true, true, true, true, true, true, true, true, true, true, true, true, false, false, false, false] rfl rfl (take_ofW HT_.out HW_.out (by kernel_rfl)) (fun _ _ _ h => h) (Or.inl ⟨by rfl, ?_⟩) hHeld ?_ ?_
                    rotate_left
                    · rintro w' ⟨s0, s1, s2, s3, s4, s5, s6, s7, s8, s9, s10, s11, s12, s13, s14, s15, s16, s17, s18, s19, s20, s21, s22, s23, s24, s25, s26, s27, s28, s29, s30, s31, s32, s33, s34, s35⟩
                      go_simp
                      with_reducible rfl
                    rotate_left
                    · simp only [Act.put, List.setIfInBounds_toArray, List.set_cons_zero, List.set_cons_succ, i64_w, i32_w]
                      rfl
                    refine one_ (i := 20) (N := some 30) #[true, true, true, true, true, true, true, true, true, true, true, true, true, true, true, true, true, true, true, true, true, false, false, false] rfl rfl (one_of HT_.out (by kernel_rfl)) (by decide) (fun K hK => ?_)
                    refine goes_ Try.func42 (by kernel_rfl) rfl #[.agg #[.int .i64 ((rd_T81 l0 (ji7)).f0), .int .i64 ((rd_T81 l0 (ji7)).f1.f0), .int .i64 ((rd_T81 l0 (ji7)).f1.f1), .int .i64 ((rd_T81 l0 (ji7)).f1.f2), .int .i64 ((rd_T81 l0 (ji7)).f1.f3), .int .i64 ((rd_T81 l0 (ji7)).f1.f4), .string ((rd_T81 l0 (ji7)).f1.f5), .bool ((rd_T81 l0 (ji7)).f1.f6.f0), .string ((rd_T81 l0 (ji7)).f1.f6.f1), .bool ((rd_T81 l0 (ji7)).f1.f7.f0), .string ((rd_T81 l0 (ji7)).f1.f7.f1), .int .i64 ((rd_T81 l0 (ji7)).f1.f8)], .agg #[.int .i64 ((rd_T81 l0 x3_1).f0), .int .i64 ((rd_T81 l0 x3_1).f1.f0), .int .i64 ((rd_T81 l0 x3_1).f1.f1), .int .i64 ((rd_T81 l0 x3_1).f1.f2), .int .i64 ((rd_T81 l0 x3_1).f1.f3), .int .i64 ((rd_T81 l0 x3_1).f1.f4), .string ((rd_T81 l0 x3_1).f1.f5), .bool ((rd_T81 l0 x3_1).f1.f6.f0), .string ((rd_T81 l0 x3_1).f1.f6.f1), .bool ((rd_T81 l0 x3_1).f1.f7.f0), .string ((rd_T81 l0 x3_1).f1.f7.f1), .int .i64 ((rd_T81 l0 x3_1).f1.f8)]] (by rfl) rfl rfl (by (try simp only [List.map_toArray, List.map_cons, List.map_nil]); first | done | (simp only [hji7]; rfl) | rfl | (simp only [List.length_drop, List.length_take]; rfl)) ?_
                    with_reducible refine (quadrigaref18_Ahead.calls ((rd_T81 l0 (ji7)).f0) ((rd_T81 l0 (ji7)).f1.f0) ((rd_T81 l0 (ji7)).f1.f1) ((rd_T81 l0 (ji7)).f1.f2) ((rd_T81 l0 (ji7)).f1.f3) ((rd_T81 l0 (ji7)).f1.f4) ((rd_T81 l0 (ji7)).f1.f5) ((rd_T81 l0 (ji7)).f1.f6.f0) ((rd_T81 l0 (ji7)).f1.f6.f1) ((rd_T81 l0 (ji7)).f1.f7.f0) ((rd_T81 l0 (ji7)).f1.f7.f1) ((rd_T81 l0 (ji7)).f1.f8) ((rd_T81 l0 x3_1).f0) ((rd_T81 l0 x3_1).f1.f0) ((rd_T81 l0 x3_1).f1.f1) ((rd_T81 l0 x3_1).f1.f2) ((rd_T81 l0 x3_1).f1.f3) ((rd_T81 l0 x3_1).f1.f4) ((rd_T81 l0 x3_1).f1.f5) ((rd_T81 l0 x3_1).f1.f6.f0) ((rd_T81 l0 x3_1).f1.f6.f1) ((rd_T81 l0 x3_1).f1.f7.f0) ((rd_T81 l0 x3_1).f1.f7.f1) ((rd_T81 l0 x3_1).f1.f8) true _ A10.out).mono ?_
                    rintro e w14 ⟨rfl, hb⟩
                    refine ⟨_, rfl, ?_⟩
                    have n0_ := Aside0.mk (below_step (by repeat (first | (with_reducible first | exact HB.out | apply below_alloc | apply pw_below_drewN | apply below_drew1) | exact HB.out)) hb)
                    clear HB
                    have HB := n0_
                    clear n0_
                    (try clear hb)
                    (try clear hb2)
                    (try clear hk)
                    (try clear hi)
                    refine hK.out _ _ ⟨((HB.out.cell (World.block_lt_of_cell? w _ hw166_0)).trans hw166_0), ((HB.out.cell (World.block_lt_of_cell? w _ hw166_1)).trans hw166_1), ((HB.out.cell (World.block_lt_of_cell? w _ hw166_2)).trans hw166_2), ((HB.out.cell (World.block_lt_of_cell? w _ hw166_3)).trans hw166_3), ((HB.out.cell (World.block_lt_of_cell? w _ hw166_4)).trans hw166_4), ((HB.out.cell (World.block_lt_of_cell? w _ hw166_5)).trans hw166_5), ((HB.out.cell (World.block_lt_of_cell? w _ hw166_6)).trans hw166_6), ((HB.out.cell (World.block_lt_of_cell? w _ hw166_7)).trans hw166_7), ((HB.out.cell (World.block_lt_of_cell? w _ hw166_8)).trans hw166_8), ((HB.out.cell (World.block_lt_of_cell? w _ hw166_9)).trans hw166_9), ((HB.out.cell (World.block_lt_of_cell? w _ hw166_10)).trans hw166_10), ((HB.out.cell (World.block_lt_of_cell? w _ hw166_11)).trans hw166_11), ((HB.out.cell (World.block_lt_of_cell? w _ hw168_0)).trans hw168_0), ((HB.out.cell (World.block_lt_of_cell? w _ hw168_1)).trans hw168_1), ((HB.out.cell (World.block_lt_of_cell? w _ hw168_2)).trans hw168_2), ((HB.out.cell (World.block_lt_of_cell? w _ hw168_3)).trans hw168_3), ((HB.out.cell (World.block_lt_of_cell? w _ hw168_4)).trans hw168_4), ((HB.out.cell (World.block_lt_of_cell? w _ hw168_5)).trans hw168_5), ((HB.out.cell (World.block_lt_of_cell? w _ hw168_6)).trans hw168_6), ((HB.out.cell (World.block_lt_of_cell? w _ hw168_7)).trans hw168_7), ((HB.out.cell (World.block_lt_of_cell? w _ hw168_8)).trans hw168_8), ((HB.out.cell (World.block_lt_of_cell? w _ hw168_9)).trans hw168_9), ((HB.out.cell (World.block_lt_of_cell? w _ hw168_10)).trans hw168_10), ((HB.out.cell (World.block_lt_of_cell? w _ hw168_11)).trans hw168_11), ((HB.out.cell (World.block_lt_of_cell? w _ hw169_0)).trans hw169_0), ((HB.out.cell (World.block_lt_of_cell? w _ hw169_1)).trans hw169_1), ((HB.out.cell (World.block_lt_of_cell? w _ hw169_2)).trans hw169_2), ((HB.out.cell (World.block_lt_of_cell? w _ hw169_3)).trans hw169_3), ((HB.out.cell (World.block_lt_of_cell? w _ hw169_4)).trans hw169_4), ((HB.out.cell (World.block_lt_of_cell? w _ hw169_5)).trans hw169_5), ((HB.out.cell (World.block_lt_of_cell? w _ hw169_6)).trans hw169_6), ((HB.out.cell (World.block_lt_of_cell? w _ hw169_7)).trans hw169_7), ((HB.out.cell (World.block_lt_of_cell? w _ hw169_8)).trans hw169_8), ((HB.out.cell (World.block_lt_of_cell? w _ hw169_9)).trans hw169_9), ((HB.out.cell (World.block_lt_of_cell? w _ hw169_10)).trans hw169_10), ((HB.out.cell (World.block_lt_of_cell? w _ hw169_11)).trans hw169_11)⟩ (fun hHeld => ?_)
                    clear hK K
                    refine norm_ (a' := ?_) ?_ ?_
                    rotate_left
                    · show Act.put _ (some 30) _ = _
                      simp only [Act.put, List.setIfInBounds_toArray, List.set_cons_zero, List.set_cons_succ, i64_w, i32_w]
                      rfl
                    refine pure_ (i := 21) (N := some 31) (v := ?_) (a' := ?_) #[true, true, true, true, true, true, true, true, true, true, true, true, true, true, true, true, true, true, true, true, true, true, false, false] rfl rfl (any_of HT_.out (by kernel_rfl)) (fun _ _ _ h => h) (Or.inl ⟨by rfl, ?_⟩) ?_ ?_
                    rotate_left
                    · intro w'
                      go_simp
                      with_reducible rfl
                    rotate_left
                    · simp only [Act.put, List.setIfInBounds_toArray, List.set_cons_zero, List.set_cons_succ, i64_w, i32_w]
                      rfl
                    refine pure_ (i := 22) (N := some 32) (v := ?_) (a' := ?_) #[true, true, true, true, true, true, true, true, true, true, true, true, true, true, true, true, true, true, true, true, true, true, true, false] rfl rfl (any_of HT_.out (by kernel_rfl)) (fun _ _ _ h => h) (Or.inl ⟨by rfl, ?_⟩) ?_ ?_
                    rotate_left
                    · intro w'
                      go_simp
                      with_reducible rfl
                    rotate_left
                    · simp only [Act.put, List.setIfInBounds_toArray, List.set_cons_zero, List.set_cons_succ, i64_w, i32_w]
                      rfl
                    refine pure_ (i := 23) (N := some 33) (v := ?_) (a' := ?_) #[true, true, true, true, true, true, true, true, true, true, true, true, true, true, true, true, true, true, true, true, true, true, true, true] rfl rfl (any_of HT_.out (by kernel_rfl)) (fun _ _ _ h => h) (Or.inl ⟨by rfl, ?_⟩) ?_ ?_
                    rotate_left
                    · intro w'
                      go_simp
                      with_reducible rfl
                    rotate_left
                    · simp only [Act.put, List.setIfInBounds_toArray, List.set_cons_zero, List.set_cons_succ, i64_w, i32_w]
                      rfl
                    refine done_ (done_of HT_.out (by kernel_rfl)) ?_
                    try go_wp2
                    go_roundg k1
                    case measure => have := HK1.out; omega
                    case rel => exact ⟨(wrap64 (x3_1 + 1)), (by first | rfl | (simp; done) | (simp [*]; done)), H', ⟨by have := HK1.out; omega⟩, ⟨by repeat (first | (with_reducible first | exact HB.out | apply below_alloc | apply pw_below_drewN | apply below_drew1) | exact HB.out)⟩⟩
                  · replace c11 := Bool.eq_false_iff.mpr c11
                    subst c11
                    have H1 : (some false) = some r := by rw [if_neg (show ¬ (false = true) by decide)] at H; exact H
                    clear H
                    have H := H1
                    clear H1
                    obtain rfl := Option.some.inj H
                    try go_wp2
                    have n0_ := Aside0.mk (below_drew1 HB.out)
                    clear HB
                    have HB := n0_
                    clear n0_
                    have p166 : 0 ≤ (x3_1 : Int) := of_decide_eq_true (by first | (with_reducible assumption) | assumption)
                    have q166 : x3_1 < (l0.length : Int) := of_decide_eq_true (by first | (with_reducible assumption) | assumption)
                    obtain ⟨ad166, e166, hx166_0, hx166_1, hx166_2, hx166_3, hx166_4, hx166_5, hx166_6, hx166_7, hx166_8, hx166_9, hx166_10, hx166_11⟩ := at_T81 HR0.out x3_1 p166 q166
                    have hw166_11 := hx166_11
                    have hw166_10 := hx166_10
                    have hw166_9 := hx166_9
                    have hw166_8 := hx166_8
                    have hw166_7 := hx166_7
                    have hw166_6 := hx166_6
                    have hw166_5 := hx166_5
                    have hw166_4 := hx166_4
                    have hw166_3 := hx166_3
                    have hw166_2 := hx166_2
                    have hw166_1 := hx166_1
                    have hw166_0 := hx166_0
                    cases e166
                    replace hx166_0 := (HB.out.cell (World.block_lt_of_cell? w _ hx166_0)).trans hx166_0
                    replace hx166_1 := (HB.out.cell (World.block_lt_of_cell? w _ hx166_1)).trans hx166_1
                    replace hx166_2 := (HB.out.cell (World.block_lt_of_cell? w _ hx166_2)).trans hx166_2
                    replace hx166_3 := (HB.out.cell (World.block_lt_of_cell? w _ hx166_3)).trans hx166_3
                    replace hx166_4 := (HB.out.cell (World.block_lt_of_cell? w _ hx166_4)).trans hx166_4
                    replace hx166_5 := (HB.out.cell (World.block_lt_of_cell? w _ hx166_5)).trans hx166_5
                    replace hx166_6 := (HB.out.cell (World.block_lt_of_cell? w _ hx166_6)).trans hx166_6
                    replace hx166_7 := (HB.out.cell (World.block_lt_of_cell? w _ hx166_7)).trans hx166_7
                    replace hx166_8 := (HB.out.cell (World.block_lt_of_cell? w _ hx166_8)).trans hx166_8
                    replace hx166_9 := (HB.out.cell (World.block_lt_of_cell? w _ hx166_9)).trans hx166_9
                    replace hx166_10 := (HB.out.cell (World.block_lt_of_cell? w _ hx166_10)).trans hx166_10
                    replace hx166_11 := (HB.out.cell (World.block_lt_of_cell? w _ hx166_11)).trans hx166_11
                    replace p166 := eq_true p166
                    replace q166 := eq_true q166
                    have p168 : 0 ≤ ((ji7) : Int) := of_decide_eq_true (by first | (with_reducible assumption) | assumption)
                    have q168 : (ji7) < (l0.length : Int) := of_decide_eq_true (by first | (with_reducible assumption) | assumption)
                    obtain ⟨ad168, e168, hx168_0, hx168_1, hx168_2, hx168_3, hx168_4, hx168_5, hx168_6, hx168_7, hx168_8, hx168_9, hx168_10, hx168_11⟩ := at_T81 HR0.out (ji7) p168 q168
                    have hw168_11 := hx168_11
                    have hw168_10 := hx168_10
                    have hw168_9 := hx168_9
                    have hw168_8 := hx168_8
                    have hw168_7 := hx168_7
                    have hw168_6 := hx168_6
                    have hw168_5 := hx168_5
                    have hw168_4 := hx168_4
                    have hw168_3 := hx168_3
                    have hw168_2 := hx168_2
                    have hw168_1 := hx168_1
                    have hw168_0 := hx168_0
                    obtain rfl : ad166 = ad168 := (by injection e168)
                    replace hx168_0 := (HB.out.cell (World.block_lt_of_cell? w _ hx168_0)).trans hx168_0
                    replace hx168_1 := (HB.out.cell (World.block_lt_of_cell? w _ hx168_1)).trans hx168_1
                    replace hx168_2 := (HB.out.cell (World.block_lt_of_cell? w _ hx168_2)).trans hx168_2
                    replace hx168_3 := (HB.out.cell (World.block_lt_of_cell? w _ hx168_3)).trans hx168_3
                    replace hx168_4 := (HB.out.cell (World.block_lt_of_cell? w _ hx168_4)).trans hx168_4
                    replace hx168_5 := (HB.out.cell (World.block_lt_of_cell? w _ hx168_5)).trans hx168_5
                    replace hx168_6 := (HB.out.cell (World.block_lt_of_cell? w _ hx168_6)).trans hx168_6
                    replace hx168_7 := (HB.out.cell (World.block_lt_of_cell? w _ hx168_7)).trans hx168_7
                    replace hx168_8 := (HB.out.cell (World.block_lt_of_cell? w _ hx168_8)).trans hx168_8
                    replace hx168_9 := (HB.out.cell (World.block_lt_of_cell? w _ hx168_9)).trans hx168_9
                    replace hx168_10 := (HB.out.cell (World.block_lt_of_cell? w _ hx168_10)).trans hx168_10
                    replace hx168_11 := (HB.out.cell (World.block_lt_of_cell? w _ hx168_11)).trans hx168_11
                    replace p168 := eq_true p168
                    replace q168 := eq_true q168
                    have p169 : 0 ≤ (x3_1 : Int) := of_decide_eq_true (by first | (with_reducible assumption) | assumption)
                    have q169 : x3_1 < (l0.length : Int) := of_decide_eq_true (by first | (with_reducible assumption) | assumption)
                    obtain ⟨ad169, e169, hx169_0, hx169_1, hx169_2, hx169_3, hx169_4, hx169_5, hx169_6, hx169_7, hx169_8, hx169_9, hx169_10, hx169_11⟩ := at_T81 HR0.out x3_1 p169 q169
                    have hw169_11 := hx169_11
                    have hw169_10 := hx169_10
                    have hw169_9 := hx169_9
                    have hw169_8 := hx169_8
                    have hw169_7 := hx169_7
                    have hw169_6 := hx169_6
                    have hw169_5 := hx169_5
                    have hw169_4 := hx169_4
                    have hw169_3 := hx169_3
                    have hw169_2 := hx169_2
                    have hw169_1 := hx169_1
                    have hw169_0 := hx169_0
                    obtain rfl : ad166 = ad169 := (by injection e169)
                    replace hx169_0 := (HB.out.cell (World.block_lt_of_cell? w _ hx169_0)).trans hx169_0
                    replace hx169_1 := (HB.out.cell (World.block_lt_of_cell? w _ hx169_1)).trans hx169_1
                    replace hx169_2 := (HB.out.cell (World.block_lt_of_cell? w _ hx169_2)).trans hx169_2
                    replace hx169_3 := (HB.out.cell (World.block_lt_of_cell? w _ hx169_3)).trans hx169_3
                    replace hx169_4 := (HB.out.cell (World.block_lt_of_cell? w _ hx169_4)).trans hx169_4
                    replace hx169_5 := (HB.out.cell (World.block_lt_of_cell? w _ hx169_5)).trans hx169_5
                    replace hx169_6 := (HB.out.cell (World.block_lt_of_cell? w _ hx169_6)).trans hx169_6
                    replace hx169_7 := (HB.out.cell (World.block_lt_of_cell? w _ hx169_7)).trans hx169_7
                    replace hx169_8 := (HB.out.cell (World.block_lt_of_cell? w _ hx169_8)).trans hx169_8
                    replace hx169_9 := (HB.out.cell (World.block_lt_of_cell? w _ hx169_9)).trans hx169_9
                    replace hx169_10 := (HB.out.cell (World.block_lt_of_cell? w _ hx169_10)).trans hx169_10
                    replace hx169_11 := (HB.out.cell (World.block_lt_of_cell? w _ hx169_11)).trans hx169_11
                    replace p169 := eq_true p169
                    replace q169 := eq_true q169
                    refine start_ (n := 24) (S := fun w' => w'.cell? (ad166.add ((x3_1).toNat * 12)) = some (.int .i64 ((rd_T81 l0 x3_1).f0)) ∧ w'.cell? ⟨(ad166.add ((x3_1).toNat * 12)).block, (ad166.add ((x3_1).toNat * 12)).off + 1, none⟩ = some (.int .i64 ((rd_T81 l0 x3_1).f1.f0)) ∧ w'.cell? ⟨(ad166.add ((x3_1).toNat * 12)).block, (ad166.add ((x3_1).toNat * 12)).off + 2, none⟩ = some (.int .i64 ((rd_T81 l0 x3_1).f1.f1)) ∧ w'.cell? ⟨(ad166.add ((x3_1).toNat * 12)).block, (ad166.add ((x3_1).toNat * 12)).off + 3, none⟩ = some (.int .i64 ((rd_T81 l0 x3_1).f1.f2)) ∧ w'.cell? ⟨(ad166.add ((x3_1).toNat * 12)).block, (ad166.add ((x3_1).toNat * 12)).off + 4, none⟩ = some (.int .i64 ((rd_T81 l0 x3_1).f1.f3)) ∧ w'.cell? ⟨(ad166.add ((x3_1).toNat * 12)).block, (ad166.add ((x3_1).toNat * 12)).off + 5, none⟩ = some (.int .i64 ((rd_T81 l0 x3_1).f1.f4)) ∧ w'.cell? ⟨(ad166.add ((x3_1).toNat * 12)).block, (ad166.add ((x3_1).toNat * 12)).off + 6, none⟩ = some (.string ((rd_T81 l0 x3_1).f1.f5)) ∧ w'.cell? ⟨(ad166.add ((x3_1).toNat * 12)).block, (ad166.add ((x3_1).toNat * 12)).off + 7, none⟩ = some (.bool ((rd_T81 l0 x3_1).f1.f6.f0)) ∧ w'.cell? ⟨(ad166.add ((x3_1).toNat * 12)).block, (ad166.add ((x3_1).toNat * 12)).off + 8, none⟩ = some (.string ((rd_T81 l0 x3_1).f1.f6.f1)) ∧ w'.cell? ⟨(ad166.add ((x3_1).toNat * 12)).block, (ad166.add ((x3_1).toNat * 12)).off + 9, none⟩ = some (.bool ((rd_T81 l0 x3_1).f1.f7.f0)) ∧ w'.cell? ⟨(ad166.add ((x3_1).toNat * 12)).block, (ad166.add ((x3_1).toNat * 12)).off + 10, none⟩ = some (.string ((rd_T81 l0 x3_1).f1.f7.f1)) ∧ w'.cell? ⟨(ad166.add ((x3_1).toNat * 12)).block, (ad166.add ((x3_1).toNat * 12)).off + 11, none⟩ = some (.int .i64 ((rd_T81 l0 x3_1).f1.f8)) ∧ w'.cell? (ad166.add (((ji7)).toNat * 12)) = some (.int .i64 ((rd_T81 l0 (ji7)).f0)) ∧ w'.cell? ⟨(ad166.add (((ji7)).toNat * 12)).block, (ad166.add (((ji7)).toNat * 12)).off + 1, none⟩ = some (.int .i64 ((rd_T81 l0 (ji7)).f1.f0)) ∧ w'.cell? ⟨(ad166.add (((ji7)).toNat * 12)).block, (ad166.add (((ji7)).toNat * 12)).off + 2, none⟩ = some (.int .i64 ((rd_T81 l0 (ji7)).f1.f1)) ∧ w'.cell? ⟨(ad166.add (((ji7)).toNat * 12)).block, (ad166.add (((ji7)).toNat * 12)).off + 3, none⟩ = some (.int .i64 ((rd_T81 l0 (ji7)).f1.f2)) ∧ w'.cell? ⟨(ad166.add (((ji7)).toNat * 12)).block, (ad166.add (((ji7)).toNat * 12)).off + 4, none⟩ = some (.int .i64 ((rd_T81 l0 (ji7)).f1.f3)) ∧ w'.cell? ⟨(ad166.add (((ji7)).toNat * 12)).block, (ad166.add (((ji7)).toNat * 12)).off + 5, none⟩ = some (.int .i64 ((rd_T81 l0 (ji7)).f1.f4)) ∧ w'.cell? ⟨(ad166.add (((ji7)).toNat * 12)).block, (ad166.add (((ji7)).toNat * 12)).off + 6, none⟩ = some (.string ((rd_T81 l0 (ji7)).f1.f5)) ∧ w'.cell? ⟨(ad166.add (((ji7)).toNat * 12)).block, (ad166.add (((ji7)).toNat * 12)).off + 7, none⟩ = some (.bool ((rd_T81 l0 (ji7)).f1.f6.f0)) ∧ w'.cell? ⟨(ad166.add (((ji7)).toNat * 12)).block, (ad166.add (((ji7)).toNat * 12)).off + 8, none⟩ = some (.string ((rd_T81 l0 (ji7)).f1.f6.f1)) ∧ w'.cell? ⟨(ad166.add (((ji7)).toNat * 12)).block, (ad166.add (((ji7)).toNat * 12)).off + 9, none⟩ = some (.bool ((rd_T81 l0 (ji7)).f1.f7.f0)) ∧ w'.cell? ⟨(ad166.add (((ji7)).toNat * 12)).block, (ad166.add (((ji7)).toNat * 12)).off + 10, none⟩ = some (.string ((rd_T81 l0 (ji7)).f1.f7.f1)) ∧ w'.cell? ⟨(ad166.add (((ji7)).toNat * 12)).block, (ad166.add (((ji7)).toNat * 12)).off + 11, none⟩ = some (.int .i64 ((rd_T81 l0 (ji7)).f1.f8)) ∧ w'.cell? (ad166.add ((x3_1).toNat * 12)) = some (.int .i64 ((rd_T81 l0 x3_1).f0)) ∧ w'.cell? ⟨(ad166.add ((x3_1).toNat * 12)).block, (ad166.add ((x3_1).toNat * 12)).off + 1, none⟩ = some (.int .i64 ((rd_T81 l0 x3_1).f1.f0)) ∧ w'.cell? ⟨(ad166.add ((x3_1).toNat * 12)).block, (ad166.add ((x3_1).toNat * 12)).off + 2, none⟩ = some (.int .i64 ((rd_T81 l0 x3_1).f1.f1)) ∧ w'.cell? ⟨(ad166.add ((x3_1).toNat * 12)).block, (ad166.add ((x3_1).toNat * 12)).off + 3, none⟩ = some (.int .i64 ((rd_T81 l0 x3_1).f1.f2)) ∧ w'.cell? ⟨(ad166.add ((x3_1).toNat * 12)).block, (ad166.add ((x3_1).toNat * 12)).off + 4, none⟩ = some (.int .i64 ((rd_T81 l0 x3_1).f1.f3)) ∧ w'.cell? ⟨(ad166.add ((x3_1).toNat * 12)).block, (ad166.add ((x3_1).toNat * 12)).off + 5, none⟩ = some (.int .i64 ((rd_T81 l0 x3_1).f1.f4)) ∧ w'.cell? ⟨(ad166.add ((x3_1).toNat * 12)).block, (ad166.add ((x3_1).toNat * 12)).off + 6, none⟩ = some (.string ((rd_T81 l0 x3_1).f1.f5)) ∧ w'.cell? ⟨(ad166.add ((x3_1).toNat * 12)).block, (ad166.add ((x3_1).toNat * 12)).off + 7, none⟩ = some (.bool ((rd_T81 l0 x3_1).f1.f6.f0)) ∧ w'.cell? ⟨(ad166.add ((x3_1).toNat * 12)).block, (ad166.add ((x3_1).toNat * 12)).off + 8, none⟩ = some (.string ((rd_T81 l0 x3_1).f1.f6.f1)) ∧ w'.cell? ⟨(ad166.add ((x3_1).toNat * 12)).block, (ad166.add ((x3_1).toNat * 12)).off + 9, none⟩ = some (.bool ((rd_T81 l0 x3_1).f1.f7.f0)) ∧ w'.cell? ⟨(ad166.add ((x3_1).toNat * 12)).block, (ad166.add ((x3_1).toNat * 12)).off + 10, none⟩ = some (.string ((rd_T81 l0 x3_1).f1.f7.f1)) ∧ w'.cell? ⟨(ad166.add ((x3_1).toNat * 12)).block, (ad166.add ((x3_1).toNat * 12)).off + 11, none⟩ = some (.int .i64 ((rd_T81 l0 x3_1).f1.f8))) (ds := []) #[false, false, false, false, false, false, false, false, false, false, false, false, false, false, false, false, false, false, false, false, false, false, false, false] (by kernel_rfl) rfl rfl ⟨((HB.out.cell (World.block_lt_of_cell? w _ hw166_0)).trans hw166_0), ((HB.out.cell (World.block_lt_of_cell? w _ hw166_1)).trans hw166_1), ((HB.out.cell (World.block_lt_of_cell? w _ hw166_2)).trans hw166_2), ((HB.out.cell (World.block_lt_of_cell? w _ hw166_3)).trans hw166_3), ((HB.out.cell (World.block_lt_of_cell? w _ hw166_4)).trans hw166_4), ((HB.out.cell (World.block_lt_of_cell? w _ hw166_5)).trans hw166_5), ((HB.out.cell (World.block_lt_of_cell? w _ hw166_6)).trans hw166_6), ((HB.out.cell (World.block_lt_of_cell? w _ hw166_7)).trans hw166_7), ((HB.out.cell (World.block_lt_of_cell? w _ hw166_8)).trans hw166_8), ((HB.out.cell (World.block_lt_of_cell? w _ hw166_9)).trans hw166_9), ((HB.out.cell (World.block_lt_of_cell? w _ hw166_10)).trans hw166_10), ((HB.out.cell (World.block_lt_of_cell? w _ hw166_11)).trans hw166_11), ((HB.out.cell (World.block_lt_of_cell? w _ hw168_0)).trans hw168_0), ((HB.out.cell (World.block_lt_of_cell? w _ hw168_1)).trans hw168_1), ((HB.out.cell (World.block_lt_of_cell? w _ hw168_2)).trans hw168_2), ((HB.out.cell (World.block_lt_of_cell? w _ hw168_3)).trans hw168_3), ((HB.out.cell (World.block_lt_of_cell? w _ hw168_4)).trans hw168_4), ((HB.out.cell (World.block_lt_of_cell? w _ hw168_5)).trans hw168_5), ((HB.out.cell (World.block_lt_of_cell? w _ hw168_6)).trans hw168_6), ((HB.out.cell (World.block_lt_of_cell? w _ hw168_7)).trans hw168_7), ((HB.out.cell (World.block_lt_of_cell? w _ hw168_8)).trans hw168_8), ((HB.out.cell (World.block_lt_of_cell? w _ hw168_9)).trans hw168_9), ((HB.out.cell (World.block_lt_of_cell? w _ hw168_10)).trans hw168_10), ((HB.out.cell (World.block_lt_of_cell? w _ hw168_11)).trans hw168_11), ((HB.out.cell (World.block_lt_of_cell? w _ hw169_0)).trans hw169_0), ((HB.out.cell (World.block_lt_of_cell? w _ hw169_1)).trans hw169_1), ((HB.out.cell (World.block_lt_of_cell? w _ hw169_2)).trans hw169_2), ((HB.out.cell (World.block_lt_of_cell? w _ hw169_3)).trans hw169_3), ((HB.out.cell (World.block_lt_of_cell? w _ hw169_4)).trans hw169_4), ((HB.out.cell (World.block_lt_of_cell? w _ hw169_5)).trans hw169_5), ((HB.out.cell (World.block_lt_of_cell? w _ hw169_6)).trans hw169_6), ((HB.out.cell (World.block_lt_of_cell? w _ hw169_7)).trans hw169_7), ((HB.out.cell (World.block_lt_of_cell? w _ hw169_8)).trans hw169_8), ((HB.out.cell (World.block_lt_of_cell? w _ hw169_9)).trans hw169_9), ((HB.out.cell (World.block_lt_of_cell? w _ hw169_10)).trans hw169_10), ((HB.out.cell (World.block_lt_of_cell? w _ hw169_11)).trans hw169_11)⟩ (fun hHeld => ?_); refine with_tabW quadrigaref18_Right.tab4 quadrigaref18_Right.bits4 (fun HT_ HW_ => ?_)
                    generalize wr.drew = w15 at HB hx166_0 hx166_1 hx166_10 hx166_11 hx166_2 hx166_3 hx166_4 hx166_5 hx166_6 hx166_7 hx166_8 hx166_9 hx168_0 hx168_1 hx168_10 hx168_11 hx168_2 hx168_3 hx168_4 hx168_5 hx168_6 hx168_7 hx168_8 hx168_9 hx169_0 hx169_1 hx169_10 hx169_11 hx169_2 hx169_3 hx169_4 hx169_5 hx169_6 hx169_7 hx169_8 hx169_9 hHeld ⊢
                    refine pure_ (i := 0) (N := some 10) (v := ?_) (a' := ?_) #[true, false, false, false, false, false, false, false, false, false, false, false, false, false, false, false, false, false, false, false, false, false, false, false] rfl rfl (any_of HT_.out (by kernel_rfl)) (fun _ _ _ h => h) (Or.inl ⟨by rfl, ?_⟩) ?_ ?_
                    rotate_left
                    · intro w'
                      go_simp
                      with_reducible rfl
                    rotate_left
                    · simp only [Act.put, List.setIfInBounds_toArray, List.set_cons_zero, List.set_cons_succ, i64_w, i32_w]
                      rfl
                    refine pure_ (i := 1) (N := some 11) (v := ?_) (a' := ?_) #[true, true, false, false, false, false, false, false, false, false, false, false, false, false, false, false, false, false, false, false, false, false, false, false] rfl rfl (any_of HT_.out (by kernel_rfl)) (fun _ _ _ h => h) (Or.inl ⟨by rfl, ?_⟩) ?_ ?_
                    rotate_left
                    · intro w'
                      go_simp
                      with_reducible rfl
                    rotate_left
                    · simp only [Act.put, List.setIfInBounds_toArray, List.set_cons_zero, List.set_cons_succ, i64_w, i32_w]
                      rfl
                    refine pure_ (i := 2) (N := some 12) (v := ?_) (a' := ?_) #[true, true, true, false, false, false, false, false, false, false, false, false, false, false, false, false, false, false, false, false, false, false, false, false] rfl rfl (any_of HT_.out (by kernel_rfl)) (fun _ _ _ h => h) (Or.inl ⟨by rfl, ?_⟩) ?_ ?_
                    rotate_left
                    · intro w'
                      go_simp
                      with_reducible rfl
                    rotate_left
                    · simp only [Act.put, List.setIfInBounds_toArray, List.set_cons_zero, List.set_cons_succ, i64_w, i32_w]
                      rfl
                    refine pure_ (i := 3) (N := some 13) (v := ?_) (a' := ?_) #[true, true, true, true, false, false, false, false, false, false, false, false, false, false, false, false, false, false, false, false, false, false, false, false] rfl rfl (any_of HT_.out (by kernel_rfl)) (fun _ _ _ h => h) (Or.inl ⟨by rfl, ?_⟩) ?_ ?_
                    rotate_left
                    · intro w'
                      go_simp
                      with_reducible rfl
                    rotate_left
                    · simp only [Act.put, List.setIfInBounds_toArray, List.set_cons_zero, List.set_cons_succ, i64_w, i32_w]
                      rfl
                    refine take_ (i := 4) (N := some 14) (v := ?_) (a' := ?_) #[true, true, true, true, true, false, false, false, false, false, false, false, false, false, false, false, false, false, false, false, false, false, false, false] rfl rfl (take_ofW HT_.out HW_.out (by kernel_rfl)) (fun _ _ _ h => h) (Or.inl ⟨by rfl, ?_⟩) hHeld ?_ ?_
                    rotate_left
                    · rintro w' ⟨s0, s1, s2, s3, s4, s5, s6, s7, s8, s9, s10, s11, s12, s13, s14, s15, s16, s17, s18, s19, s20, s21, s22, s23, s24, s25, s26, s27, s28, s29, s30, s31, s32, s33, s34, s35⟩
                      go_simp
                      with_reducible rfl
                    rotate_left
                    · simp only [Act.put, List.setIfInBounds_toArray, List.set_cons_zero, List.set_cons_succ, i64_w, i32_w]
                      rfl
                    refine one_ (i := 5) (N := some 15) #[true, true, true, true, true, true, false, false, false, false, false, false, false, false, false, false, false, false, false, false, false, false, false, false] rfl rfl (one_of HT_.out (by kernel_rfl)) (by decide) (fun K hK => ?_)
                    refine goes_ Try.func41 (by kernel_rfl) rfl #[.agg #[.int .i64 ((rd_T81 l0 x3_1).f1.f0), .int .i64 ((rd_T81 l0 x3_1).f1.f1), .int .i64 ((rd_T81 l0 x3_1).f1.f2), .int .i64 ((rd_T81 l0 x3_1).f1.f3), .int .i64 ((rd_T81 l0 x3_1).f1.f4), .string ((rd_T81 l0 x3_1).f1.f5), .bool ((rd_T81 l0 x3_1).f1.f6.f0), .string ((rd_T81 l0 x3_1).f1.f6.f1), .bool ((rd_T81 l0 x3_1).f1.f7.f0), .string ((rd_T81 l0 x3_1).f1.f7.f1), .int .i64 ((rd_T81 l0 x3_1).f1.f8)]] (by rfl) rfl rfl (by (try simp only [List.map_toArray, List.map_cons, List.map_nil]); first | done | rfl | (simp only [List.length_drop, List.length_take]; rfl)) ?_
                    with_reducible refine (quadrigaref04_Right.calls k1 ((rd_T81 l0 x3_1).f1.f0) ((rd_T81 l0 x3_1).f1.f1) ((rd_T81 l0 x3_1).f1.f2) ((rd_T81 l0 x3_1).f1.f3) ((rd_T81 l0 x3_1).f1.f4) ((rd_T81 l0 x3_1).f1.f5) ((rd_T81 l0 x3_1).f1.f6.f0) ((rd_T81 l0 x3_1).f1.f6.f1) ((rd_T81 l0 x3_1).f1.f7.f0) ((rd_T81 l0 x3_1).f1.f7.f1) ((rd_T81 l0 x3_1).f1.f8) true _ A4.out).mono ?_
                    rintro e w16 ⟨rfl, hb⟩
                    refine ⟨_, rfl, ?_⟩
                    have n0_ := Aside0.mk (below_step (by repeat (first | (with_reducible first | exact HB.out | apply below_alloc | apply pw_below_drewN | apply below_drew1) | exact HB.out)) hb)
                    clear HB
                    have HB := n0_
                    clear n0_
                    (try clear hb)
                    (try clear hb2)
                    (try clear hk)
                    (try clear hi)
                    refine hK.out _ _ ⟨((HB.out.cell (World.block_lt_of_cell? w _ hw166_0)).trans hw166_0), ((HB.out.cell (World.block_lt_of_cell? w _ hw166_1)).trans hw166_1), ((HB.out.cell (World.block_lt_of_cell? w _ hw166_2)).trans hw166_2), ((HB.out.cell (World.block_lt_of_cell? w _ hw166_3)).trans hw166_3), ((HB.out.cell (World.block_lt_of_cell? w _ hw166_4)).trans hw166_4), ((HB.out.cell (World.block_lt_of_cell? w _ hw166_5)).trans hw166_5), ((HB.out.cell (World.block_lt_of_cell? w _ hw166_6)).trans hw166_6), ((HB.out.cell (World.block_lt_of_cell? w _ hw166_7)).trans hw166_7), ((HB.out.cell (World.block_lt_of_cell? w _ hw166_8)).trans hw166_8), ((HB.out.cell (World.block_lt_of_cell? w _ hw166_9)).trans hw166_9), ((HB.out.cell (World.block_lt_of_cell? w _ hw166_10)).trans hw166_10), ((HB.out.cell (World.block_lt_of_cell? w _ hw166_11)).trans hw166_11), ((HB.out.cell (World.block_lt_of_cell? w _ hw168_0)).trans hw168_0), ((HB.out.cell (World.block_lt_of_cell? w _ hw168_1)).trans hw168_1), ((HB.out.cell (World.block_lt_of_cell? w _ hw168_2)).trans hw168_2), ((HB.out.cell (World.block_lt_of_cell? w _ hw168_3)).trans hw168_3), ((HB.out.cell (World.block_lt_of_cell? w _ hw168_4)).trans hw168_4), ((HB.out.cell (World.block_lt_of_cell? w _ hw168_5)).trans hw168_5), ((HB.out.cell (World.block_lt_of_cell? w _ hw168_6)).trans hw168_6), ((HB.out.cell (World.block_lt_of_cell? w _ hw168_7)).trans hw168_7), ((HB.out.cell (World.block_lt_of_cell? w _ hw168_8)).trans hw168_8), ((HB.out.cell (World.block_lt_of_cell? w _ hw168_9)).trans hw168_9), ((HB.out.cell (World.block_lt_of_cell? w _ hw168_10)).trans hw168_10), ((HB.out.cell (World.block_lt_of_cell? w _ hw168_11)).trans hw168_11), ((HB.out.cell (World.block_lt_of_cell? w _ hw169_0)).trans hw169_0), ((HB.out.cell (World.block_lt_of_cell? w _ hw169_1)).trans hw169_1), ((HB.out.cell (World.block_lt_of_cell? w _ hw169_2)).trans hw169_2), ((HB.out.cell (World.block_lt_of_cell? w _ hw169_3)).trans hw169_3), ((HB.out.cell (World.block_lt_of_cell? w _ hw169_4)).trans hw169_4), ((HB.out.cell (World.block_lt_of_cell? w _ hw169_5)).trans hw169_5), ((HB.out.cell (World.block_lt_of_cell? w _ hw169_6)).trans hw169_6), ((HB.out.cell (World.block_lt_of_cell? w _ hw169_7)).trans hw169_7), ((HB.out.cell (World.block_lt_of_cell? w _ hw169_8)).trans hw169_8), ((HB.out.cell (World.block_lt_of_cell? w _ hw169_9)).trans hw169_9), ((HB.out.cell (World.block_lt_of_cell? w _ hw169_10)).trans hw169_10), ((HB.out.cell (World.block_lt_of_cell? w _ hw169_11)).trans hw169_11)⟩ (fun hHeld => ?_)
                    clear hK K
                    refine norm_ (a' := ?_) ?_ ?_
                    rotate_left
                    · show Act.put _ (some 15) _ = _
                      simp only [Act.put, List.setIfInBounds_toArray, List.set_cons_zero, List.set_cons_succ, i64_w, i32_w]
                      rfl
                    refine pure_ (i := 6) (N := some 16) (v := ?_) (a' := ?_) #[true, true, true, true, true, true, true, false, false, false, false, false, false, false, false, false, false, false, false, false, false, false, false, false] rfl rfl (any_of HT_.out (by kernel_rfl)) (fun _ _ _ h => h) (Or.inl ⟨by rfl, ?_⟩) ?_ ?_
                    rotate_left
                    · intro w'
                      go_simp
                      with_reducible rfl
                    rotate_left
                    · simp only [Act.put, List.setIfInBounds_toArray, List.set_cons_zero, List.set_cons_succ, i64_w, i32_w]
                      rfl
                    refine pure_ (i := 7) (N := some 17) (v := ?_) (a' := ?_) #[true, true, true, true, true, true, true, true, false, false, false, false, false, false, false, false, false, false, false, false, false, false, false, false] rfl rfl (any_of HT_.out (by kernel_rfl)) (fun _ _ _ h => h) (Or.inl ⟨by rfl, ?_⟩) ?_ ?_
                    rotate_left
                    · intro w'
                      go_simp
                      with_reducible rfl
                    rotate_left
                    · simp only [Act.put, List.setIfInBounds_toArray, List.set_cons_zero, List.set_cons_succ, i64_w, i32_w]
                      rfl
                    refine pure_ (i := 8) (N := some 18) (v := ?_) (a' := ?_) #[true, true, true, true, true, true, true, true, true, false, false, false, false, false, false, false, false, false, false, false, false, false, false, false] rfl rfl (any_of HT_.out (by kernel_rfl)) (fun _ _ _ h => h) (Or.inl ⟨by rfl, ?_⟩) ?_ ?_
                    rotate_left
                    · intro w'
                      go_simp
                      with_reducible rfl
                    rotate_left
                    · simp only [Act.put, List.setIfInBounds_toArray, List.set_cons_zero, List.set_cons_succ, i64_w, i32_w]
                      rfl
                    refine pure_ (i := 9) (N := some 19) (v := ?_) (a' := ?_) #[true, true, true, true, true, true, true, true, true, true, false, false, false, false, false, false, false, false, false, false, false, false, false, false] rfl rfl (any_of HT_.out (by kernel_rfl)) (fun _ _ _ h => h) (Or.inl ⟨by rfl, ?_⟩) ?_ ?_
                    rotate_left
                    · intro w'
                      go_simp
                      with_reducible rfl
                    rotate_left
                    · simp only [Act.put, List.setIfInBounds_toArray, List.set_cons_zero, List.set_cons_succ, i64_w, i32_w]
                      rfl
                    refine pure_ (i := 10) (N := some 20) (v := ?_) (a' := ?_) #[true, true, true, true, true, true, true, true, true, true, true, false, false, false, false, false, false, false, false, false, false, false, false, false] rfl rfl (any_of HT_.out (by kernel_rfl)) (fun _ _ _ h => h) (Or.inl ⟨by rfl, ?_⟩) ?_ ?_
                    rotate_left
                    · intro w'
                      go_simp
                      with_reducible rfl
                    rotate_left
                    · simp only [Act.put, List.setIfInBounds_toArray, List.set_cons_zero, List.set_cons_succ, i64_w, i32_w]
                      rfl
                    refine pure_ (i := 11) (N := some 21) (v := ?_) (a' := ?_) #[true, true, true, true, true, true, true, true, true, true, true, true, false, false, false, false, false, false, false, false, false, false, false, false] rfl rfl (any_of HT_.out (by kernel_rfl)) (fun _ _ _ h => h) (Or.inl ⟨by rfl, ?_⟩) ?_ ?_
                    rotate_left
                    · intro w'
                      go_simp
                      with_reducible rfl
                    rotate_left
                    · simp only [Act.put, List.setIfInBounds_toArray, List.set_cons_zero, List.set_cons_succ, i64_w, i32_w]
                      rfl
                    refine pure_ (i := 12) (N := some 22) (v := ?_) (a' := ?_) #[true, true, true, true, true, true, true, true, true, true, true, true, true, false, false, false, false, false, false, false, false, false, false, false] rfl rfl (any_of HT_.out (by kernel_rfl)) (fun _ _ _ h => h) (Or.inl ⟨by rfl, ?_⟩) ?_ ?_
                    rotate_left
                    · intro w'
                      go_simp
                      with_reducible rfl
                    rotate_left
                    · simp only [Act.put, List.setIfInBounds_toArray, List.set_cons_zero, List.set_cons_succ, i64_w, i32_w]
                      rfl
                    refine pure_ (i := 13) (N := some 23) (v := ?_) (a' := ?_) #[true, true, true, true, true, true, true, true, true, true, true, true, true, true, false, false, false, false, false, false, false, false, false, false] rfl rfl (any_of HT_.out (by kernel_rfl)) (fun _ _ _ h => h) (Or.inl ⟨by rfl, ?_⟩) ?_ ?_
                    rotate_left
                    · intro w'
                      go_simp
                      with_reducible rfl
                    rotate_left
                    · simp only [Act.put, List.setIfInBounds_toArray, List.set_cons_zero, List.set_cons_succ, i64_w, i32_w]
                      rfl
                    refine pure_ (i := 14) (N := some 24) (v := ?_) (a' := ?_) #[true, true, true, true, true, true, true, true, true, true, true, true, true, true, true, false, false, false, false, false, false, false, false, false] rfl rfl (any_of HT_.out (by kernel_rfl)) (fun _ _ _ h => h) (Or.inl ⟨by rfl, ?_⟩) ?_ ?_
                    rotate_left
                    · intro w'
                      go_simp
                      with_reducible rfl
                    rotate_left
                    · simp only [Act.put, List.setIfInBounds_toArray, List.set_cons_zero, List.set_cons_succ, i64_w, i32_w]
                      rfl
                    refine pure_ (i := 16) (N := some 26) (v := ?_) (a' := ?_) #[true, true, true, true, true, true, true, true, true, true, true, true, true, true, true, false, true, false, false, false, false, false, false, false] rfl rfl (any_of HT_.out (by kernel_rfl)) (fun _ _ _ h => h) (Or.inl ⟨by rfl, ?_⟩) ?_ ?_
                    rotate_left
                    · intro w'
                      go_simp
                      with_reducible rfl
                    rotate_left
                    · simp only [Act.put, List.setIfInBounds_toArray, List.set_cons_zero, List.set_cons_succ, i64_w, i32_w]
                      rfl
                    refine pure_ (i := 17) (N := some 27) (v := ?_) (a' := ?_) #[true, true, true, true, true, true, true, true, true, true, true, true, true, true, true, false, true, true, false, false, false, false, false, false] rfl rfl (any_of HT_.out (by kernel_rfl)) (fun _ _ _ h => h) (Or.inl ⟨by rfl, ?_⟩) ?_ ?_
                    rotate_left
                    · intro w'
                      go_simp
                      with_reducible rfl
                    rotate_left
                    · simp only [Act.put, List.setIfInBounds_toArray, List.set_cons_zero, List.set_cons_succ, i64_w, i32_w]
                      rfl
                    refine pure_ (i := 18) (N := some 28) (v := ?_) (a' := ?_) #[true, true, true, true, true, true, true, true, true, true, true, true, true, true, true, false, true, true, true, false, false, false, false, false] rfl rfl (any_of HT_.out (by kernel_rfl)) (fun _ _ _ h => h) (Or.inl ⟨by rfl, ?_⟩) ?_ ?_
                    rotate_left
                    · intro w'
                      go_simp
                      with_reducible rfl
                    rotate_left
                    · simp only [Act.put, List.setIfInBounds_toArray, List.set_cons_zero, List.set_cons_succ, i64_w, i32_w]
                      rfl
                    refine take_ (i := 15) (N := some 25) (v := ?_) (a' := ?_) #[true, true, true, true, true, true, true, true, true, true, true, true, true, true, true, true, true, true, true, false, false, false, false, false] rfl rfl (take_ofW HT_.out HW_.out (by kernel_rfl)) (fun _ _ _ h => h) (Or.inl ⟨by rfl, ?_⟩) hHeld ?_ ?_
                    rotate_left
                    · rintro w' ⟨s0, s1, s2, s3, s4, s5, s6, s7, s8, s9, s10, s11, s12, s13, s14, s15, s16, s17, s18, s19, s20, s21, s22, s23, s24, s25, s26, s27, s28, s29, s30, s31, s32, s33, s34, s35⟩
                      go_simp
                      with_reducible rfl
                    rotate_left
                    · simp only [Act.put, List.setIfInBounds_toArray, List.set_cons_zero, List.set_cons_succ, i64_w, i32_w]
                      rfl
                    refine take_ (i := 19) (N := some 29) (v := ?_) (a' := ?_) #[true, true, true, true, true, true, true, true, true, true, true, true, true, true, true, true, true, true, true, true, false, false, false, false] rfl rfl (take_ofW HT_.out HW_.out (by kernel_rfl)) (fun _ _ _ h => h) (Or.inl ⟨by rfl, ?_⟩) hHeld ?_ ?_
                    rotate_left
                    · rintro w' ⟨s0, s1, s2, s3, s4, s5, s6, s7, s8, s9, s10, s11, s12, s13, s14, s15, s16, s17, s18, s19, s20, s21, s22, s23, s24, s25, s26, s27, s28, s29, s30, s31, s32, s33, s34, s35⟩
                      go_simp
                      with_reducible rfl
                    rotate_left
                    · simp only [Act.put, List.setIfInBounds_toArray, List.set_cons_zero, List.set_cons_succ, i64_w, i32_w]
                      rfl
                    refine one_ (i := 20) (N := some 30) #[true, true, true, true, true, true, true, true, true, true, true, true, true, true, true, true, true, true, true, true, true, false, false, false] rfl rfl (one_of HT_.out (by kernel_rfl)) (by decide) (fun K hK => ?_)
                    refine goes_ Try.func42 (by kernel_rfl) rfl #[.agg #[.int .i64 ((rd_T81 l0 (ji7)).f0), .int .i64 ((rd_T81 l0 (ji7)).f1.f0), .int .i64 ((rd_T81 l0 (ji7)).f1.f1), .int .i64 ((rd_T81 l0 (ji7)).f1.f2), .int .i64 ((rd_T81 l0 (ji7)).f1.f3), .int .i64 ((rd_T81 l0 (ji7)).f1.f4), .string ((rd_T81 l0 (ji7)).f1.f5), .bool ((rd_T81 l0 (ji7)).f1.f6.f0), .string ((rd_T81 l0 (ji7)).f1.f6.f1), .bool ((rd_T81 l0 (ji7)).f1.f7.f0), .string ((rd_T81 l0 (ji7)).f1.f7.f1), .int .i64 ((rd_T81 l0 (ji7)).f1.f8)], .agg #[.int .i64 ((rd_T81 l0 x3_1).f0), .int .i64 ((rd_T81 l0 x3_1).f1.f0), .int .i64 ((rd_T81 l0 x3_1).f1.f1), .int .i64 ((rd_T81 l0 x3_1).f1.f2), .int .i64 ((rd_T81 l0 x3_1).f1.f3), .int .i64 ((rd_T81 l0 x3_1).f1.f4), .string ((rd_T81 l0 x3_1).f1.f5), .bool ((rd_T81 l0 x3_1).f1.f6.f0), .string ((rd_T81 l0 x3_1).f1.f6.f1), .bool ((rd_T81 l0 x3_1).f1.f7.f0), .string ((rd_T81 l0 x3_1).f1.f7.f1), .int .i64 ((rd_T81 l0 x3_1).f1.f8)]] (by rfl) rfl rfl (by (try simp only [List.map_toArray, List.map_cons, List.map_nil]); first | done | (simp only [hji7]; rfl) | rfl | (simp only [List.length_drop, List.length_take]; rfl)) ?_
                    with_reducible refine (quadrigaref18_Ahead.calls ((rd_T81 l0 (ji7)).f0) ((rd_T81 l0 (ji7)).f1.f0) ((rd_T81 l0 (ji7)).f1.f1) ((rd_T81 l0 (ji7)).f1.f2) ((rd_T81 l0 (ji7)).f1.f3) ((rd_T81 l0 (ji7)).f1.f4) ((rd_T81 l0 (ji7)).f1.f5) ((rd_T81 l0 (ji7)).f1.f6.f0) ((rd_T81 l0 (ji7)).f1.f6.f1) ((rd_T81 l0 (ji7)).f1.f7.f0) ((rd_T81 l0 (ji7)).f1.f7.f1) ((rd_T81 l0 (ji7)).f1.f8) ((rd_T81 l0 x3_1).f0) ((rd_T81 l0 x3_1).f1.f0) ((rd_T81 l0 x3_1).f1.f1) ((rd_T81 l0 x3_1).f1.f2) ((rd_T81 l0 x3_1).f1.f3) ((rd_T81 l0 x3_1).f1.f4) ((rd_T81 l0 x3_1).f1.f5) ((rd_T81 l0 x3_1).f1.f6.f0) ((rd_T81 l0 x3_1).f1.f6.f1) ((rd_T81 l0 x3_1).f1.f7.f0) ((rd_T81 l0 x3_1).f1.f7.f1) ((rd_T81 l0 x3_1).f1.f8) false _ A10.out).mono ?_
                    rintro e w17 ⟨rfl, hb⟩
                    refine ⟨_, rfl, ?_⟩
                    have n0_ := Aside0.mk (below_step (by repeat (first | (with_reducible first | exact HB.out | apply below_alloc | apply pw_below_drewN | apply below_drew1) | exact HB.out)) hb)
                    clear HB
                    have HB := n0_
                    clear n0_
                    (try clear hb)
                    (try clear hb2)
                    (try clear hk)
                    (try clear hi)
                    refine hK.out _ _ ⟨((HB.out.cell (World.block_lt_of_cell? w _ hw166_0)).trans hw166_0), ((HB.out.cell (World.block_lt_of_cell? w _ hw166_1)).trans hw166_1), ((HB.out.cell (World.block_lt_of_cell? w _ hw166_2)).trans hw166_2), ((HB.out.cell (World.block_lt_of_cell? w _ hw166_3)).trans hw166_3), ((HB.out.cell (World.block_lt_of_cell? w _ hw166_4)).trans hw166_4), ((HB.out.cell (World.block_lt_of_cell? w _ hw166_5)).trans hw166_5), ((HB.out.cell (World.block_lt_of_cell? w _ hw166_6)).trans hw166_6), ((HB.out.cell (World.block_lt_of_cell? w _ hw166_7)).trans hw166_7), ((HB.out.cell (World.block_lt_of_cell? w _ hw166_8)).trans hw166_8), ((HB.out.cell (World.block_lt_of_cell? w _ hw166_9)).trans hw166_9), ((HB.out.cell (World.block_lt_of_cell? w _ hw166_10)).trans hw166_10), ((HB.out.cell (World.block_lt_of_cell? w _ hw166_11)).trans hw166_11), ((HB.out.cell (World.block_lt_of_cell? w _ hw168_0)).trans hw168_0), ((HB.out.cell (World.block_lt_of_cell? w _ hw168_1)).trans hw168_1), ((HB.out.cell (World.block_lt_of_cell? w _ hw168_2)).trans hw168_2), ((HB.out.cell (World.block_lt_of_cell? w _ hw168_3)).trans hw168_3), ((HB.out.cell (World.block_lt_of_cell? w _ hw168_4)).trans hw168_4), ((HB.out.cell (World.block_lt_of_cell? w _ hw168_5)).trans hw168_5), ((HB.out.cell (World.block_lt_of_cell? w _ hw168_6)).trans hw168_6), ((HB.out.cell (World.block_lt_of_cell? w _ hw168_7)).trans hw168_7), ((HB.out.cell (World.block_lt_of_cell? w _ hw168_8)).trans hw168_8), ((HB.out.cell (World.block_lt_of_cell? w _ hw168_9)).trans hw168_9), ((HB.out.cell (World.block_lt_of_cell? w _ hw168_10)).trans hw168_10), ((HB.out.cell (World.block_lt_of_cell? w _ hw168_11)).trans hw168_11), ((HB.out.cell (World.block_lt_of_cell? w _ hw169_0)).trans hw169_0), ((HB.out.cell (World.block_lt_of_cell? w _ hw169_1)).trans hw169_1), ((HB.out.cell (World.block_lt_of_cell? w _ hw169_2)).trans hw169_2), ((HB.out.cell (World.block_lt_of_cell? w _ hw169_3)).trans hw169_3), ((HB.out.cell (World.block_lt_of_cell? w _ hw169_4)).trans hw169_4), ((HB.out.cell (World.block_lt_of_cell? w _ hw169_5)).trans hw169_5), ((HB.out.cell (World.block_lt_of_cell? w _ hw169_6)).trans hw169_6), ((HB.out.cell (World.block_lt_of_cell? w _ hw169_7)).trans hw169_7), ((HB.out.cell (World.block_lt_of_cell? w _ hw169_8)).trans hw169_8), ((HB.out.cell (World.block_lt_of_cell? w _ hw169_9)).trans hw169_9), ((HB.out.cell (World.block_lt_of_cell? w _ hw169_10)).trans hw169_10), ((HB.out.cell (World.block_lt_of_cell? w _ hw169_11)).trans hw169_11)⟩ (fun hHeld => ?_)
                    clear hK K
                    refine norm_ (a' := ?_) ?_ ?_
                    rotate_left
                    · show Act.put _ (some 30) _ = _
                      simp only [Act.put, List.setIfInBounds_toArray, List.set_cons_zero, List.set_cons_succ, i64_w, i32_w]
                      rfl
                    refine pure_ (i := 21) (N := some 31) (v := ?_) (a' := ?_) #[true, true, true, true, true, true, true, true, true, true, true, true, true, true, true, true, true, true, true, true, true, true, false, false] rfl rfl (any_of HT_.out (by kernel_rfl)) (fun _ _ _ h => h) (Or.inl ⟨by rfl, ?_⟩) ?_ ?_
                    rotate_left
                    · intro w'
                      go_simp
                      with_reducible rfl
                    rotate_left
                    · simp only [Act.put, List.setIfInBounds_toArray, List.set_cons_zero, List.set_cons_succ, i64_w, i32_w]
                      rfl
                    refine pure_ (i := 22) (N := some 32) (v := ?_) (a' := ?_) #[true, true, true, true, true, true, true, true, true, true, true, true, true, true, true, true, true, true, true, true, true, true, true, false] rfl rfl (any_of HT_.out (by kernel_rfl)) (fun _ _ _ h => h) (Or.inl ⟨by rfl, ?_⟩) ?_ ?_
                    rotate_left
                    · intro w'
                      go_simp
                      with_reducible rfl
                    rotate_left
                    · simp only [Act.put, List.setIfInBounds_toArray, List.set_cons_zero, List.set_cons_succ, i64_w, i32_w]
                      rfl
                    refine pure_ (i := 23) (N := some 33) (v := ?_) (a' := ?_) #[true, true, true, true, true, true, true, true, true, true, true, true, true, true, true, true, true, true, true, true, true, true, true, true] rfl rfl (any_of HT_.out (by kernel_rfl)) (fun _ _ _ h => h) (Or.inl ⟨by rfl, ?_⟩) ?_ ?_
                    rotate_left
                    · intro w'
                      go_simp
                      with_reducible rfl
                    rotate_left
                    · simp only [Act.put, List.setIfInBounds_toArray, List.set_cons_zero, List.set_cons_succ, i64_w, i32_w]
                      rfl
                    refine done_ (done_of HT_.out (by kernel_rfl)) ?_
                    try go_wp2
                    go_ret
                    exact ⟨by first | rfl | (simp [errW_none, errW_some] <;> rfl) | (simp only [← hji7]; first | rfl | (simp [errW_none, errW_some] <;> rfl)) | (simp [*, errW_none, errW_some] <;> rfl), by repeat (first | (with_reducible first | exact HB.out | apply below_alloc | apply pw_below_drewN | apply below_drew1) | exact HB.out)⟩
                · rw [if_neg c9] at H
                  exact absurd H (by simp)
              · rw [if_neg c8] at H
                exact absurd H (by simp)
            · rw [if_neg c6] at H
              have c6b0 : decide (0 < x3_1) = false := decide_eq_false c6
              clear c6
              have H' := Aside0.mk H
              clear H
              try go_wp2
              have n0_ := Aside0.mk (below_drew1 HB.out)
              clear HB
              have HB := n0_
              clear n0_
              have p166 : 0 ≤ (x3_1 : Int) := of_decide_eq_true (by first | (with_reducible assumption) | assumption)
              have q166 : x3_1 < (l0.length : Int) := of_decide_eq_true (by first | (with_reducible assumption) | assumption)
              obtain ⟨ad166, e166, hx166_0, hx166_1, hx166_2, hx166_3, hx166_4, hx166_5, hx166_6, hx166_7, hx166_8, hx166_9, hx166_10, hx166_11⟩ := at_T81 HR0.out x3_1 p166 q166
              have hw166_11 := hx166_11
              have hw166_10 := hx166_10
              have hw166_9 := hx166_9
              have hw166_8 := hx166_8
              have hw166_7 := hx166_7
              have hw166_6 := hx166_6
              have hw166_5 := hx166_5
              have hw166_4 := hx166_4
              have hw166_3 := hx166_3
              have hw166_2 := hx166_2
              have hw166_1 := hx166_1
              have hw166_0 := hx166_0
              cases e166
              replace hx166_0 := (HB.out.cell (World.block_lt_of_cell? w _ hx166_0)).trans hx166_0
              replace hx166_1 := (HB.out.cell (World.block_lt_of_cell? w _ hx166_1)).trans hx166_1
              replace hx166_2 := (HB.out.cell (World.block_lt_of_cell? w _ hx166_2)).trans hx166_2
              replace hx166_3 := (HB.out.cell (World.block_lt_of_cell? w _ hx166_3)).trans hx166_3
              replace hx166_4 := (HB.out.cell (World.block_lt_of_cell? w _ hx166_4)).trans hx166_4
              replace hx166_5 := (HB.out.cell (World.block_lt_of_cell? w _ hx166_5)).trans hx166_5
              replace hx166_6 := (HB.out.cell (World.block_lt_of_cell? w _ hx166_6)).trans hx166_6
              replace hx166_7 := (HB.out.cell (World.block_lt_of_cell? w _ hx166_7)).trans hx166_7
              replace hx166_8 := (HB.out.cell (World.block_lt_of_cell? w _ hx166_8)).trans hx166_8
              replace hx166_9 := (HB.out.cell (World.block_lt_of_cell? w _ hx166_9)).trans hx166_9
              replace hx166_10 := (HB.out.cell (World.block_lt_of_cell? w _ hx166_10)).trans hx166_10
              replace hx166_11 := (HB.out.cell (World.block_lt_of_cell? w _ hx166_11)).trans hx166_11
              replace p166 := eq_true p166
              replace q166 := eq_true q166
              refine start_ (n := 24) (S := fun w' => w'.cell? (ad166.add ((x3_1).toNat * 12)) = some (.int .i64 ((rd_T81 l0 x3_1).f0)) ∧ w'.cell? ⟨(ad166.add ((x3_1).toNat * 12)).block, (ad166.add ((x3_1).toNat * 12)).off + 1, none⟩ = some (.int .i64 ((rd_T81 l0 x3_1).f1.f0)) ∧ w'.cell? ⟨(ad166.add ((x3_1).toNat * 12)).block, (ad166.add ((x3_1).toNat * 12)).off + 2, none⟩ = some (.int .i64 ((rd_T81 l0 x3_1).f1.f1)) ∧ w'.cell? ⟨(ad166.add ((x3_1).toNat * 12)).block, (ad166.add ((x3_1).toNat * 12)).off + 3, none⟩ = some (.int .i64 ((rd_T81 l0 x3_1).f1.f2)) ∧ w'.cell? ⟨(ad166.add ((x3_1).toNat * 12)).block, (ad166.add ((x3_1).toNat * 12)).off + 4, none⟩ = some (.int .i64 ((rd_T81 l0 x3_1).f1.f3)) ∧ w'.cell? ⟨(ad166.add ((x3_1).toNat * 12)).block, (ad166.add ((x3_1).toNat * 12)).off + 5, none⟩ = some (.int .i64 ((rd_T81 l0 x3_1).f1.f4)) ∧ w'.cell? ⟨(ad166.add ((x3_1).toNat * 12)).block, (ad166.add ((x3_1).toNat * 12)).off + 6, none⟩ = some (.string ((rd_T81 l0 x3_1).f1.f5)) ∧ w'.cell? ⟨(ad166.add ((x3_1).toNat * 12)).block, (ad166.add ((x3_1).toNat * 12)).off + 7, none⟩ = some (.bool ((rd_T81 l0 x3_1).f1.f6.f0)) ∧ w'.cell? ⟨(ad166.add ((x3_1).toNat * 12)).block, (ad166.add ((x3_1).toNat * 12)).off + 8, none⟩ = some (.string ((rd_T81 l0 x3_1).f1.f6.f1)) ∧ w'.cell? ⟨(ad166.add ((x3_1).toNat * 12)).block, (ad166.add ((x3_1).toNat * 12)).off + 9, none⟩ = some (.bool ((rd_T81 l0 x3_1).f1.f7.f0)) ∧ w'.cell? ⟨(ad166.add ((x3_1).toNat * 12)).block, (ad166.add ((x3_1).toNat * 12)).off + 10, none⟩ = some (.string ((rd_T81 l0 x3_1).f1.f7.f1)) ∧ w'.cell? ⟨(ad166.add ((x3_1).toNat * 12)).block, (ad166.add ((x3_1).toNat * 12)).off + 11, none⟩ = some (.int .i64 ((rd_T81 l0 x3_1).f1.f8))) (ds := []) #[false, false, false, false, false, false, false, false, false, false, false, false, false, false, false, false, false, false, false, false, false, false, false, false] (by kernel_rfl) rfl rfl ⟨((HB.out.cell (World.block_lt_of_cell? w _ hw166_0)).trans hw166_0), ((HB.out.cell (World.block_lt_of_cell? w _ hw166_1)).trans hw166_1), ((HB.out.cell (World.block_lt_of_cell? w _ hw166_2)).trans hw166_2), ((HB.out.cell (World.block_lt_of_cell? w _ hw166_3)).trans hw166_3), ((HB.out.cell (World.block_lt_of_cell? w _ hw166_4)).trans hw166_4), ((HB.out.cell (World.block_lt_of_cell? w _ hw166_5)).trans hw166_5), ((HB.out.cell (World.block_lt_of_cell? w _ hw166_6)).trans hw166_6), ((HB.out.cell (World.block_lt_of_cell? w _ hw166_7)).trans hw166_7), ((HB.out.cell (World.block_lt_of_cell? w _ hw166_8)).trans hw166_8), ((HB.out.cell (World.block_lt_of_cell? w _ hw166_9)).trans hw166_9), ((HB.out.cell (World.block_lt_of_cell? w _ hw166_10)).trans hw166_10), ((HB.out.cell (World.block_lt_of_cell? w _ hw166_11)).trans hw166_11)⟩ (fun hHeld => ?_); refine with_tabW quadrigaref18_Right.tab4 quadrigaref18_Right.bits4 (fun HT_ HW_ => ?_)
              generalize wr.drew = w18 at HB hx166_0 hx166_1 hx166_10 hx166_11 hx166_2 hx166_3 hx166_4 hx166_5 hx166_6 hx166_7 hx166_8 hx166_9 hHeld ⊢
              refine pure_ (i := 0) (N := some 10) (v := ?_) (a' := ?_) #[true, false, false, false, false, false, false, false, false, false, false, false, false, false, false, false, false, false, false, false, false, false, false, false] rfl rfl (any_of HT_.out (by kernel_rfl)) (fun _ _ _ h => h) (Or.inl ⟨by rfl, ?_⟩) ?_ ?_
              rotate_left
              · intro w'
                go_simp
                with_reducible rfl
              rotate_left
              · simp only [Act.put, List.setIfInBounds_toArray, List.set_cons_zero, List.set_cons_succ, i64_w, i32_w]
                rfl
              refine pure_ (i := 1) (N := some 11) (v := ?_) (a' := ?_) #[true, true, false, false, false, false, false, false, false, false, false, false, false, false, false, false, false, false, false, false, false, false, false, false] rfl rfl (any_of HT_.out (by kernel_rfl)) (fun _ _ _ h => h) (Or.inl ⟨by rfl, ?_⟩) ?_ ?_
              rotate_left
              · intro w'
                go_simp
                with_reducible rfl
              rotate_left
              · simp only [Act.put, List.setIfInBounds_toArray, List.set_cons_zero, List.set_cons_succ, i64_w, i32_w]
                rfl
              refine pure_ (i := 2) (N := some 12) (v := ?_) (a' := ?_) #[true, true, true, false, false, false, false, false, false, false, false, false, false, false, false, false, false, false, false, false, false, false, false, false] rfl rfl (any_of HT_.out (by kernel_rfl)) (fun _ _ _ h => h) (Or.inl ⟨by rfl, ?_⟩) ?_ ?_
              rotate_left
              · intro w'
                go_simp
                with_reducible rfl
              rotate_left
              · simp only [Act.put, List.setIfInBounds_toArray, List.set_cons_zero, List.set_cons_succ, i64_w, i32_w]
                rfl
              refine pure_ (i := 3) (N := some 13) (v := ?_) (a' := ?_) #[true, true, true, true, false, false, false, false, false, false, false, false, false, false, false, false, false, false, false, false, false, false, false, false] rfl rfl (any_of HT_.out (by kernel_rfl)) (fun _ _ _ h => h) (Or.inl ⟨by rfl, ?_⟩) ?_ ?_
              rotate_left
              · intro w'
                go_simp
                with_reducible rfl
              rotate_left
              · simp only [Act.put, List.setIfInBounds_toArray, List.set_cons_zero, List.set_cons_succ, i64_w, i32_w]
                rfl
              refine take_ (i := 4) (N := some 14) (v := ?_) (a' := ?_) #[true, true, true, true, true, false, false, false, false, false, false, false, false, false, false, false, false, false, false, false, false, false, false, false] rfl rfl (take_ofW HT_.out HW_.out (by kernel_rfl)) (fun _ _ _ h => h) (Or.inl ⟨by rfl, ?_⟩) hHeld ?_ ?_
              rotate_left
              · rintro w' ⟨s0, s1, s2, s3, s4, s5, s6, s7, s8, s9, s10, s11⟩
                go_simp
                with_reducible rfl
              rotate_left
              · simp only [Act.put, List.setIfInBounds_toArray, List.set_cons_zero, List.set_cons_succ, i64_w, i32_w]
                rfl
              refine one_ (i := 5) (N := some 15) #[true, true, true, true, true, true, false, false, false, false, false, false, false, false, false, false, false, false, false, false, false, false, false, false] rfl rfl (one_of HT_.out (by kernel_rfl)) (by decide) (fun K hK => ?_)
              refine goes_ Try.func41 (by kernel_rfl) rfl #[.agg #[.int .i64 ((rd_T81 l0 x3_1).f1.f0), .int .i64 ((rd_T81 l0 x3_1).f1.f1), .int .i64 ((rd_T81 l0 x3_1).f1.f2), .int .i64 ((rd_T81 l0 x3_1).f1.f3), .int .i64 ((rd_T81 l0 x3_1).f1.f4), .string ((rd_T81 l0 x3_1).f1.f5), .bool ((rd_T81 l0 x3_1).f1.f6.f0), .string ((rd_T81 l0 x3_1).f1.f6.f1), .bool ((rd_T81 l0 x3_1).f1.f7.f0), .string ((rd_T81 l0 x3_1).f1.f7.f1), .int .i64 ((rd_T81 l0 x3_1).f1.f8)]] (by rfl) rfl rfl (by (try simp only [List.map_toArray, List.map_cons, List.map_nil]); first | done | rfl | (simp only [List.length_drop, List.length_take]; rfl)) ?_
              with_reducible refine (quadrigaref04_Right.calls k1 ((rd_T81 l0 x3_1).f1.f0) ((rd_T81 l0 x3_1).f1.f1) ((rd_T81 l0 x3_1).f1.f2) ((rd_T81 l0 x3_1).f1.f3) ((rd_T81 l0 x3_1).f1.f4) ((rd_T81 l0 x3_1).f1.f5) ((rd_T81 l0 x3_1).f1.f6.f0) ((rd_T81 l0 x3_1).f1.f6.f1) ((rd_T81 l0 x3_1).f1.f7.f0) ((rd_T81 l0 x3_1).f1.f7.f1) ((rd_T81 l0 x3_1).f1.f8) true _ A4.out).mono ?_
              rintro e w19 ⟨rfl, hb⟩
              refine ⟨_, rfl, ?_⟩
              have n0_ := Aside0.mk (below_step (by repeat (first | (with_reducible first | exact HB.out | apply below_alloc | apply pw_below_drewN | apply below_drew1) | exact HB.out)) hb)
              clear HB
              have HB := n0_
              clear n0_
              (try clear hb)
              (try clear hb2)
              (try clear hk)
              (try clear hi)
              refine hK.out _ _ ⟨((HB.out.cell (World.block_lt_of_cell? w _ hw166_0)).trans hw166_0), ((HB.out.cell (World.block_lt_of_cell? w _ hw166_1)).trans hw166_1), ((HB.out.cell (World.block_lt_of_cell? w _ hw166_2)).trans hw166_2), ((HB.out.cell (World.block_lt_of_cell? w _ hw166_3)).trans hw166_3), ((HB.out.cell (World.block_lt_of_cell? w _ hw166_4)).trans hw166_4), ((HB.out.cell (World.block_lt_of_cell? w _ hw166_5)).trans hw166_5), ((HB.out.cell (World.block_lt_of_cell? w _ hw166_6)).trans hw166_6), ((HB.out.cell (World.block_lt_of_cell? w _ hw166_7)).trans hw166_7), ((HB.out.cell (World.block_lt_of_cell? w _ hw166_8)).trans hw166_8), ((HB.out.cell (World.block_lt_of_cell? w _ hw166_9)).trans hw166_9), ((HB.out.cell (World.block_lt_of_cell? w _ hw166_10)).trans hw166_10), ((HB.out.cell (World.block_lt_of_cell? w _ hw166_11)).trans hw166_11)⟩ (fun hHeld => ?_)
              clear hK K
              refine norm_ (a' := ?_) ?_ ?_
              rotate_left
              · show Act.put _ (some 15) _ = _
                simp only [Act.put, List.setIfInBounds_toArray, List.set_cons_zero, List.set_cons_succ, i64_w, i32_w]
                rfl
              refine pure_ (i := 6) (N := some 16) (v := ?_) (a' := ?_) #[true, true, true, true, true, true, true, false, false, false, false, false, false, false, false, false, false, false, false, false, false, false, false, false] rfl rfl (any_of HT_.out (by kernel_rfl)) (fun _ _ _ h => h) (Or.inl ⟨by rfl, ?_⟩) ?_ ?_
              rotate_left
              · intro w'
                go_simp
                with_reducible rfl
              rotate_left
              · simp only [Act.put, List.setIfInBounds_toArray, List.set_cons_zero, List.set_cons_succ, i64_w, i32_w]
                rfl
              refine pure_ (i := 7) (N := some 17) (v := ?_) (a' := ?_) #[true, true, true, true, true, true, true, true, false, false, false, false, false, false, false, false, false, false, false, false, false, false, false, false] rfl rfl (any_of HT_.out (by kernel_rfl)) (fun _ _ _ h => h) (Or.inl ⟨by rfl, ?_⟩) ?_ ?_
              rotate_left
              · intro w'
                go_simp
                with_reducible rfl
              rotate_left
              · simp only [Act.put, List.setIfInBounds_toArray, List.set_cons_zero, List.set_cons_succ, i64_w, i32_w]
                rfl
              refine pure_ (i := 8) (N := some 18) (v := ?_) (a' := ?_) #[true, true, true, true, true, true, true, true, true, false, false, false, false, false, false, false, false, false, false, false, false, false, false, false] rfl rfl (any_of HT_.out (by kernel_rfl)) (fun _ _ _ h => h) (Or.inl ⟨by rfl, ?_⟩) ?_ ?_
              rotate_left
              · intro w'
                go_simp
                with_reducible rfl
              rotate_left
              · simp only [Act.put, List.setIfInBounds_toArray, List.set_cons_zero, List.set_cons_succ, i64_w, i32_w]
                rfl
              refine pure_ (i := 9) (N := some 19) (v := ?_) (a' := ?_) #[true, true, true, true, true, true, true, true, true, true, false, false, false, false, false, false, false, false, false, false, false, false, false, false] rfl rfl (any_of HT_.out (by kernel_rfl)) (fun _ _ _ h => h) (Or.inl ⟨by rfl, ?_⟩) ?_ ?_
              rotate_left
              · intro w'
                go_simp
                with_reducible rfl
              rotate_left
              · simp only [Act.put, List.setIfInBounds_toArray, List.set_cons_zero, List.set_cons_succ, i64_w, i32_w]
                rfl
              refine pure_ (i := 10) (N := some 20) (v := ?_) (a' := ?_) #[true, true, true, true, true, true, true, true, true, true, true, false, false, false, false, false, false, false, false, false, false, false, false, false] rfl rfl (any_of HT_.out (by kernel_rfl)) (fun _ _ _ h => h) (Or.inl ⟨by rfl, ?_⟩) ?_ ?_
              rotate_left
              · intro w'
                go_simp
                with_reducible rfl
              rotate_left
              · simp only [Act.put, List.setIfInBounds_toArray, List.set_cons_zero, List.set_cons_succ, i64_w, i32_w]
                rfl
              refine pure_ (i := 11) (N := some 21) (v := undef) (a' := ?_) #[true, true, true, true, true, true, true, true, true, true, true, true, false, false, false, false, false, false, false, false, false, false, false, false] rfl rfl (any_of HT_.out (by kernel_rfl)) (fun _ _ _ h => h) (Or.inr ⟨by rfl, rfl⟩) ?_ ?_
              rotate_left
              · simp only [Act.put, List.setIfInBounds_toArray, List.set_cons_zero, List.set_cons_succ, i64_w, i32_w]
                rfl
              refine pure_ (i := 12) (N := some 22) (v := undef) (a' := ?_) #[true, true, true, true, true, true, true, true, true, true, true, true, true, false, false, false, false, false, false, false, false, false, false, false] rfl rfl (any_of HT_.out (by kernel_rfl)) (fun _ _ _ h => h) (Or.inr ⟨by rfl, rfl⟩) ?_ ?_
              rotate_left
              · simp only [Act.put, List.setIfInBounds_toArray, List.set_cons_zero, List.set_cons_succ, i64_w, i32_w]
                rfl
              refine pure_ (i := 13) (N := some 23) (v := undef) (a' := ?_) #[true, true, true, true, true, true, true, true, true, true, true, true, true, true, false, false, false, false, false, false, false, false, false, false] rfl rfl (any_of HT_.out (by kernel_rfl)) (fun _ _ _ h => h) (Or.inr ⟨by rfl, rfl⟩) ?_ ?_
              rotate_left
              · simp only [Act.put, List.setIfInBounds_toArray, List.set_cons_zero, List.set_cons_succ, i64_w, i32_w]
                rfl
              refine pure_ (i := 14) (N := some 24) (v := undef) (a' := ?_) #[true, true, true, true, true, true, true, true, true, true, true, true, true, true, true, false, false, false, false, false, false, false, false, false] rfl rfl (any_of HT_.out (by kernel_rfl)) (fun _ _ _ h => h) (Or.inr ⟨by rfl, rfl⟩) ?_ ?_
              rotate_left
              · simp only [Act.put, List.setIfInBounds_toArray, List.set_cons_zero, List.set_cons_succ, i64_w, i32_w]
                rfl
              refine pure_ (i := 15) (N := some 25) (v := undef) (a' := ?_) #[true, true, true, true, true, true, true, true, true, true, true, true, true, true, true, true, false, false, false, false, false, false, false, false] rfl rfl (any_of HT_.out (by kernel_rfl)) (fun _ _ _ h => h) (Or.inr ⟨by rfl, rfl⟩) ?_ ?_
              rotate_left
              · simp only [Act.put, List.setIfInBounds_toArray, List.set_cons_zero, List.set_cons_succ, i64_w, i32_w]
                rfl
              refine pure_ (i := 16) (N := some 26) (v := undef) (a' := ?_) #[true, true, true, true, true, true, true, true, true, true, true, true, true, true, true, true, true, false, false, false, false, false, false, false] rfl rfl (any_of HT_.out (by kernel_rfl)) (fun _ _ _ h => h) (Or.inr ⟨by rfl, rfl⟩) ?_ ?_
              rotate_left
              · simp only [Act.put, List.setIfInBounds_toArray, List.set_cons_zero, List.set_cons_succ, i64_w, i32_w]
                rfl
              refine pure_ (i := 17) (N := some 27) (v := undef) (a' := ?_) #[true, true, true, true, true, true, true, true, true, true, true, true, true, true, true, true, true, true, false, false, false, false, false, false] rfl rfl (any_of HT_.out (by kernel_rfl)) (fun _ _ _ h => h) (Or.inr ⟨by rfl, rfl⟩) ?_ ?_
              rotate_left
              · simp only [Act.put, List.setIfInBounds_toArray, List.set_cons_zero, List.set_cons_succ, i64_w, i32_w]
                rfl
              refine pure_ (i := 18) (N := some 28) (v := undef) (a' := ?_) #[true, true, true, true, true, true, true, true, true, true, true, true, true, true, true, true, true, true, true, false, false, false, false, false] rfl rfl (any_of HT_.out (by kernel_rfl)) (fun _ _ _ h => h) (Or.inr ⟨by rfl, rfl⟩) ?_ ?_
              rotate_left
              · simp only [Act.put, List.setIfInBounds_toArray, List.set_cons_zero, List.set_cons_succ, i64_w, i32_w]
                rfl
              refine pure_ (i := 19) (N := some 29) (v := undef) (a' := ?_) #[true, true, true, true, true, true, true, true, true, true, true, true, true, true, true, true, true, true, true, true, false, false, false, false] rfl rfl (any_of HT_.out (by kernel_rfl)) (fun _ _ _ h => h) (Or.inr ⟨by rfl, rfl⟩) ?_ ?_
              rotate_left
              · simp only [Act.put, List.setIfInBounds_toArray, List.set_cons_zero, List.set_cons_succ, i64_w, i32_w]
                rfl
              refine pure_ (i := 20) (N := some 30) (v := undef) (a' := ?_) #[true, true, true, true, true, true, true, true, true, true, true, true, true, true, true, true, true, true, true, true, true, false, false, false] rfl rfl (any_of HT_.out (by kernel_rfl)) (fun _ _ _ h => h) (Or.inr ⟨by rfl, rfl⟩) ?_ ?_
              rotate_left
              · simp only [Act.put, List.setIfInBounds_toArray, List.set_cons_zero, List.set_cons_succ, i64_w, i32_w]
                rfl
              refine pure_ (i := 21) (N := some 31) (v := undef) (a' := ?_) #[true, true, true, true, true, true, true, true, true, true, true, true, true, true, true, true, true, true, true, true, true, true, false, false] rfl rfl (any_of HT_.out (by kernel_rfl)) (fun _ _ _ h => h) (Or.inr ⟨by rfl, rfl⟩) ?_ ?_
              rotate_left
              · simp only [Act.put, List.setIfInBounds_toArray, List.set_cons_zero, List.set_cons_succ, i64_w, i32_w]
                rfl
              refine pure_ (i := 22) (N := some 32) (v := ?_) (a' := ?_) #[true, true, true, true, true, true, true, true, true, true, true, true, true, true, true, true, true, true, true, true, true, true, true, false] rfl rfl (any_of HT_.out (by kernel_rfl)) (fun _ _ _ h => h) (Or.inl ⟨by rfl, ?_⟩) ?_ ?_
              rotate_left
              · intro w'
                go_simp
                with_reducible rfl
              rotate_left
              · simp only [Act.put, List.setIfInBounds_toArray, List.set_cons_zero, List.set_cons_succ, i64_w, i32_w]
                rfl
              refine pure_ (i := 23) (N := some 33) (v := ?_) (a' := ?_) #[true, true, true, true, true, true, true, true, true, true, true, true, true, true, true, true, true, true, true, true, true, true, true, true] rfl rfl (any_of HT_.out (by kernel_rfl)) (fun _ _ _ h => h) (Or.inl ⟨by rfl, ?_⟩) ?_ ?_
              rotate_left
              · intro w'
                go_simp
                with_reducible rfl
              rotate_left
              · simp only [Act.put, List.setIfInBounds_toArray, List.set_cons_zero, List.set_cons_succ, i64_w, i32_w]
                rfl
              refine done_ (done_of HT_.out (by kernel_rfl)) ?_
              try go_wp2
              go_roundg k1
              case measure => have := HK1.out; omega
              case rel => exact ⟨(wrap64 (x3_1 + 1)), (by first | rfl | (simp; done) | (simp [*]; done)), H', ⟨by have := HK1.out; omega⟩, ⟨by repeat (first | (with_reducible first | exact HB.out | apply below_alloc | apply pw_below_drewN | apply below_drew1) | exact HB.out)⟩⟩
          · replace c5 := Bool.eq_false_iff.mpr c5
            subst c5
            have H1 : (some false) = some r := by rw [if_neg (show ¬ (false = true) by decide)] at H; exact H
            clear H
            have H := H1
            clear H1
            obtain rfl := Option.some.inj H
            try go_wp2
            have n0_ := Aside0.mk (below_drew1 HB.out)
            clear HB
            have HB := n0_
            clear n0_
            have p166 : 0 ≤ (x3_1 : Int) := of_decide_eq_true (by first | (with_reducible assumption) | assumption)
            have q166 : x3_1 < (l0.length : Int) := of_decide_eq_true (by first | (with_reducible assumption) | assumption)
            obtain ⟨ad166, e166, hx166_0, hx166_1, hx166_2, hx166_3, hx166_4, hx166_5, hx166_6, hx166_7, hx166_8, hx166_9, hx166_10, hx166_11⟩ := at_T81 HR0.out x3_1 p166 q166
            have hw166_11 := hx166_11
            have hw166_10 := hx166_10
            have hw166_9 := hx166_9
            have hw166_8 := hx166_8
            have hw166_7 := hx166_7
            have hw166_6 := hx166_6
            have hw166_5 := hx166_5
            have hw166_4 := hx166_4
            have hw166_3 := hx166_3
            have hw166_2 := hx166_2
            have hw166_1 := hx166_1
            have hw166_0 := hx166_0
            cases e166
            replace hx166_0 := (HB.out.cell (World.block_lt_of_cell? w _ hx166_0)).trans hx166_0
            replace hx166_1 := (HB.out.cell (World.block_lt_of_cell? w _ hx166_1)).trans hx166_1
            replace hx166_2 := (HB.out.cell (World.block_lt_of_cell? w _ hx166_2)).trans hx166_2
            replace hx166_3 := (HB.out.cell (World.block_lt_of_cell? w _ hx166_3)).trans hx166_3
            replace hx166_4 := (HB.out.cell (World.block_lt_of_cell? w _ hx166_4)).trans hx166_4
            replace hx166_5 := (HB.out.cell (World.block_lt_of_cell? w _ hx166_5)).trans hx166_5
            replace hx166_6 := (HB.out.cell (World.block_lt_of_cell? w _ hx166_6)).trans hx166_6
            replace hx166_7 := (HB.out.cell (World.block_lt_of_cell? w _ hx166_7)).trans hx166_7
            replace hx166_8 := (HB.out.cell (World.block_lt_of_cell? w _ hx166_8)).trans hx166_8
            replace hx166_9 := (HB.out.cell (World.block_lt_of_cell? w _ hx166_9)).trans hx166_9
            replace hx166_10 := (HB.out.cell (World.block_lt_of_cell? w _ hx166_10)).trans hx166_10
            replace hx166_11 := (HB.out.cell (World.block_lt_of_cell? w _ hx166_11)).trans hx166_11
            replace p166 := eq_true p166
            replace q166 := eq_true q166
            refine start_ (n := 24) (S := fun w' => w'.cell? (ad166.add ((x3_1).toNat * 12)) = some (.int .i64 ((rd_T81 l0 x3_1).f0)) ∧ w'.cell? ⟨(ad166.add ((x3_1).toNat * 12)).block, (ad166.add ((x3_1).toNat * 12)).off + 1, none⟩ = some (.int .i64 ((rd_T81 l0 x3_1).f1.f0)) ∧ w'.cell? ⟨(ad166.add ((x3_1).toNat * 12)).block, (ad166.add ((x3_1).toNat * 12)).off + 2, none⟩ = some (.int .i64 ((rd_T81 l0 x3_1).f1.f1)) ∧ w'.cell? ⟨(ad166.add ((x3_1).toNat * 12)).block, (ad166.add ((x3_1).toNat * 12)).off + 3, none⟩ = some (.int .i64 ((rd_T81 l0 x3_1).f1.f2)) ∧ w'.cell? ⟨(ad166.add ((x3_1).toNat * 12)).block, (ad166.add ((x3_1).toNat * 12)).off + 4, none⟩ = some (.int .i64 ((rd_T81 l0 x3_1).f1.f3)) ∧ w'.cell? ⟨(ad166.add ((x3_1).toNat * 12)).block, (ad166.add ((x3_1).toNat * 12)).off + 5, none⟩ = some (.int .i64 ((rd_T81 l0 x3_1).f1.f4)) ∧ w'.cell? ⟨(ad166.add ((x3_1).toNat * 12)).block, (ad166.add ((x3_1).toNat * 12)).off + 6, none⟩ = some (.string ((rd_T81 l0 x3_1).f1.f5)) ∧ w'.cell? ⟨(ad166.add ((x3_1).toNat * 12)).block, (ad166.add ((x3_1).toNat * 12)).off + 7, none⟩ = some (.bool ((rd_T81 l0 x3_1).f1.f6.f0)) ∧ w'.cell? ⟨(ad166.add ((x3_1).toNat * 12)).block, (ad166.add ((x3_1).toNat * 12)).off + 8, none⟩ = some (.string ((rd_T81 l0 x3_1).f1.f6.f1)) ∧ w'.cell? ⟨(ad166.add ((x3_1).toNat * 12)).block, (ad166.add ((x3_1).toNat * 12)).off + 9, none⟩ = some (.bool ((rd_T81 l0 x3_1).f1.f7.f0)) ∧ w'.cell? ⟨(ad166.add ((x3_1).toNat * 12)).block, (ad166.add ((x3_1).toNat * 12)).off + 10, none⟩ = some (.string ((rd_T81 l0 x3_1).f1.f7.f1)) ∧ w'.cell? ⟨(ad166.add ((x3_1).toNat * 12)).block, (ad166.add ((x3_1).toNat * 12)).off + 11, none⟩ = some (.int .i64 ((rd_T81 l0 x3_1).f1.f8))) (ds := []) #[false, false, false, false, false, false, false, false, false, false, false, false, false, false, false, false, false, false, false, false, false, false, false, false] (by kernel_rfl) rfl rfl ⟨((HB.out.cell (World.block_lt_of_cell? w _ hw166_0)).trans hw166_0), ((HB.out.cell (World.block_lt_of_cell? w _ hw166_1)).trans hw166_1), ((HB.out.cell (World.block_lt_of_cell? w _ hw166_2)).trans hw166_2), ((HB.out.cell (World.block_lt_of_cell? w _ hw166_3)).trans hw166_3), ((HB.out.cell (World.block_lt_of_cell? w _ hw166_4)).trans hw166_4), ((HB.out.cell (World.block_lt_of_cell? w _ hw166_5)).trans hw166_5), ((HB.out.cell (World.block_lt_of_cell? w _ hw166_6)).trans hw166_6), ((HB.out.cell (World.block_lt_of_cell? w _ hw166_7)).trans hw166_7), ((HB.out.cell (World.block_lt_of_cell? w _ hw166_8)).trans hw166_8), ((HB.out.cell (World.block_lt_of_cell? w _ hw166_9)).trans hw166_9), ((HB.out.cell (World.block_lt_of_cell? w _ hw166_10)).trans hw166_10), ((HB.out.cell (World.block_lt_of_cell? w _ hw166_11)).trans hw166_11)⟩ (fun hHeld => ?_); refine with_tabW quadrigaref18_Right.tab4 quadrigaref18_Right.bits4 (fun HT_ HW_ => ?_)
            generalize wr.drew = w20 at HB hx166_0 hx166_1 hx166_10 hx166_11 hx166_2 hx166_3 hx166_4 hx166_5 hx166_6 hx166_7 hx166_8 hx166_9 hHeld ⊢
            refine pure_ (i := 0) (N := some 10) (v := ?_) (a' := ?_) #[true, false, false, false, false, false, false, false, false, false, false, false, false, false, false, false, false, false, false, false, false, false, false, false] rfl rfl (any_of HT_.out (by kernel_rfl)) (fun _ _ _ h => h) (Or.inl ⟨by rfl, ?_⟩) ?_ ?_
            rotate_left
            · intro w'
              go_simp
              with_reducible rfl
            rotate_left
            · simp only [Act.put, List.setIfInBounds_toArray, List.set_cons_zero, List.set_cons_succ, i64_w, i32_w]
              rfl
            refine pure_ (i := 1) (N := some 11) (v := ?_) (a' := ?_) #[true, true, false, false, false, false, false, false, false, false, false, false, false, false, false, false, false, false, false, false, false, false, false, false] rfl rfl (any_of HT_.out (by kernel_rfl)) (fun _ _ _ h => h) (Or.inl ⟨by rfl, ?_⟩) ?_ ?_
            rotate_left
            · intro w'
              go_simp
              with_reducible rfl
            rotate_left
            · simp only [Act.put, List.setIfInBounds_toArray, List.set_cons_zero, List.set_cons_succ, i64_w, i32_w]
              rfl
            refine pure_ (i := 2) (N := some 12) (v := ?_) (a' := ?_) #[true, true, true, false, false, false, false, false, false, false, false, false, false, false, false, false, false, false, false, false, false, false, false, false] rfl rfl (any_of HT_.out (by kernel_rfl)) (fun _ _ _ h => h) (Or.inl ⟨by rfl, ?_⟩) ?_ ?_
            rotate_left
            · intro w'
              go_simp
              with_reducible rfl
            rotate_left
            · simp only [Act.put, List.setIfInBounds_toArray, List.set_cons_zero, List.set_cons_succ, i64_w, i32_w]
              rfl
            refine pure_ (i := 3) (N := some 13) (v := ?_) (a' := ?_) #[true, true, true, true, false, false, false, false, false, false, false, false, false, false, false, false, false, false, false, false, false, false, false, false] rfl rfl (any_of HT_.out (by kernel_rfl)) (fun _ _ _ h => h) (Or.inl ⟨by rfl, ?_⟩) ?_ ?_
            rotate_left
            · intro w'
              go_simp
              with_reducible rfl
            rotate_left
            · simp only [Act.put, List.setIfInBounds_toArray, List.set_cons_zero, List.set_cons_succ, i64_w, i32_w]
              rfl
            refine take_ (i := 4) (N := some 14) (v := ?_) (a' := ?_) #[true, true, true, true, true, false, false, false, false, false, false, false, false, false, false, false, false, false, false, false, false, false, false, false] rfl rfl (take_ofW HT_.out HW_.out (by kernel_rfl)) (fun _ _ _ h => h) (Or.inl ⟨by rfl, ?_⟩) hHeld ?_ ?_
            rotate_left
            · rintro w' ⟨s0, s1, s2, s3, s4, s5, s6, s7, s8, s9, s10, s11⟩
              go_simp
              with_reducible rfl
            rotate_left
            · simp only [Act.put, List.setIfInBounds_toArray, List.set_cons_zero, List.set_cons_succ, i64_w, i32_w]
              rfl
            refine one_ (i := 5) (N := some 15) #[true, true, true, true, true, true, false, false, false, false, false, false, false, false, false, false, false, false, false, false, false, false, false, false] rfl rfl (one_of HT_.out (by kernel_rfl)) (by decide) (fun K hK => ?_)
            refine goes_ Try.func41 (by kernel_rfl) rfl #[.agg #[.int .i64 ((rd_T81 l0 x3_1).f1.f0), .int .i64 ((rd_T81 l0 x3_1).f1.f1), .int .i64 ((rd_T81 l0 x3_1).f1.f2), .int .i64 ((rd_T81 l0 x3_1).f1.f3), .int .i64 ((rd_T81 l0 x3_1).f1.f4), .string ((rd_T81 l0 x3_1).f1.f5), .bool ((rd_T81 l0 x3_1).f1.f6.f0), .string ((rd_T81 l0 x3_1).f1.f6.f1), .bool ((rd_T81 l0 x3_1).f1.f7.f0), .string ((rd_T81 l0 x3_1).f1.f7.f1), .int .i64 ((rd_T81 l0 x3_1).f1.f8)]] (by rfl) rfl rfl (by (try simp only [List.map_toArray, List.map_cons, List.map_nil]); first | done | rfl | (simp only [List.length_drop, List.length_take]; rfl)) ?_
            with_reducible refine (quadrigaref04_Right.calls k1 ((rd_T81 l0 x3_1).f1.f0) ((rd_T81 l0 x3_1).f1.f1) ((rd_T81 l0 x3_1).f1.f2) ((rd_T81 l0 x3_1).f1.f3) ((rd_T81 l0 x3_1).f1.f4) ((rd_T81 l0 x3_1).f1.f5) ((rd_T81 l0 x3_1).f1.f6.f0) ((rd_T81 l0 x3_1).f1.f6.f1) ((rd_T81 l0 x3_1).f1.f7.f0) ((rd_T81 l0 x3_1).f1.f7.f1) ((rd_T81 l0 x3_1).f1.f8) false _ A4.out).mono ?_
            rintro e w21 ⟨rfl, hb⟩
            refine ⟨_, rfl, ?_⟩
            have n0_ := Aside0.mk (below_step (by repeat (first | (with_reducible first | exact HB.out | apply below_alloc | apply pw_below_drewN | apply below_drew1) | exact HB.out)) hb)
            clear HB
            have HB := n0_
            clear n0_
            (try clear hb)
            (try clear hb2)
            (try clear hk)
            (try clear hi)
            refine hK.out _ _ ⟨((HB.out.cell (World.block_lt_of_cell? w _ hw166_0)).trans hw166_0), ((HB.out.cell (World.block_lt_of_cell? w _ hw166_1)).trans hw166_1), ((HB.out.cell (World.block_lt_of_cell? w _ hw166_2)).trans hw166_2), ((HB.out.cell (World.block_lt_of_cell? w _ hw166_3)).trans hw166_3), ((HB.out.cell (World.block_lt_of_cell? w _ hw166_4)).trans hw166_4), ((HB.out.cell (World.block_lt_of_cell? w _ hw166_5)).trans hw166_5), ((HB.out.cell (World.block_lt_of_cell? w _ hw166_6)).trans hw166_6), ((HB.out.cell (World.block_lt_of_cell? w _ hw166_7)).trans hw166_7), ((HB.out.cell (World.block_lt_of_cell? w _ hw166_8)).trans hw166_8), ((HB.out.cell (World.block_lt_of_cell? w _ hw166_9)).trans hw166_9), ((HB.out.cell (World.block_lt_of_cell? w _ hw166_10)).trans hw166_10), ((HB.out.cell (World.block_lt_of_cell? w _ hw166_11)).trans hw166_11)⟩ (fun hHeld => ?_)
            clear hK K
            refine norm_ (a' := ?_) ?_ ?_
            rotate_left
            · show Act.put _ (some 15) _ = _
              simp only [Act.put, List.setIfInBounds_toArray, List.set_cons_zero, List.set_cons_succ, i64_w, i32_w]
              rfl
            refine pure_ (i := 6) (N := some 16) (v := ?_) (a' := ?_) #[true, true, true, true, true, true, true, false, false, false, false, false, false, false, false, false, false, false, false, false, false, false, false, false] rfl rfl (any_of HT_.out (by kernel_rfl)) (fun _ _ _ h => h) (Or.inl ⟨by rfl, ?_⟩) ?_ ?_
            rotate_left
            · intro w'
              go_simp
              with_reducible rfl
            rotate_left
            · simp only [Act.put, List.setIfInBounds_toArray, List.set_cons_zero, List.set_cons_succ, i64_w, i32_w]
              rfl
            refine pure_ (i := 7) (N := some 17) (v := ?_) (a' := ?_) #[true, true, true, true, true, true, true, true, false, false, false, false, false, false, false, false, false, false, false, false, false, false, false, false] rfl rfl (any_of HT_.out (by kernel_rfl)) (fun _ _ _ h => h) (Or.inl ⟨by rfl, ?_⟩) ?_ ?_
            rotate_left
            · intro w'
              go_simp
              with_reducible rfl
            rotate_left
            · simp only [Act.put, List.setIfInBounds_toArray, List.set_cons_zero, List.set_cons_succ, i64_w, i32_w]
              rfl
            refine pure_ (i := 8) (N := some 18) (v := undef) (a' := ?_) #[true, true, true, true, true, true, true, true, true, false, false, false, false, false, false, false, false, false, false, false, false, false, false, false] rfl rfl (any_of HT_.out (by kernel_rfl)) (fun _ _ _ h => h) (Or.inr ⟨by rfl, rfl⟩) ?_ ?_
            rotate_left
            · simp only [Act.put, List.setIfInBounds_toArray, List.set_cons_zero, List.set_cons_succ, i64_w, i32_w]
              rfl
            refine pure_ (i := 9) (N := some 19) (v := undef) (a' := ?_) #[true, true, true, true, true, true, true, true, true, true, false, false, false, false, false, false, false, false, false, false, false, false, false, false] rfl rfl (any_of HT_.out (by kernel_rfl)) (fun _ _ _ h => h) (Or.inr ⟨by rfl, rfl⟩) ?_ ?_
            rotate_left
            · simp only [Act.put, List.setIfInBounds_toArray, List.set_cons_zero, List.set_cons_succ, i64_w, i32_w]
              rfl
            refine pure_ (i := 10) (N := some 20) (v := undef) (a' := ?_) #[true, true, true, true, true, true, true, true, true, true, true, false, false, false, false, false, false, false, false, false, false, false, false, false] rfl rfl (any_of HT_.out (by kernel_rfl)) (fun _ _ _ h => h) (Or.inr ⟨by rfl, rfl⟩) ?_ ?_
            rotate_left
            · simp only [Act.put, List.setIfInBounds_toArray, List.set_cons_zero, List.set_cons_succ, i64_w, i32_w]
              rfl
            refine pure_ (i := 11) (N := some 21) (v := undef) (a' := ?_) #[true, true, true, true, true, true, true, true, true, true, true, true, false, false, false, false, false, false, false, false, false, false, false, false] rfl rfl (any_of HT_.out (by kernel_rfl)) (fun _ _ _ h => h) (Or.inr ⟨by rfl, rfl⟩) ?_ ?_
            rotate_left
            · simp only [Act.put, List.setIfInBounds_toArray, List.set_cons_zero, List.set_cons_succ, i64_w, i32_w]
              rfl
            refine pure_ (i := 12) (N := some 22) (v := undef) (a' := ?_) #[true, true, true, true, true, true, true, true, true, true, true, true, true, false, false, false, false, false, false, false, false, false, false, false] rfl rfl (any_of HT_.out (by kernel_rfl)) (fun _ _ _ h => h) (Or.inr ⟨by rfl, rfl⟩) ?_ ?_
            rotate_left
            · simp only [Act.put, List.setIfInBounds_toArray, List.set_cons_zero, List.set_cons_succ, i64_w, i32_w]
              rfl
            refine pure_ (i := 13) (N := some 23) (v := undef) (a' := ?_) #[true, true, true, true, true, true, true, true, true, true, true, true, true, true, false, false, false, false, false, false, false, false, false, false] rfl rfl (any_of HT_.out (by kernel_rfl)) (fun _ _ _ h => h) (Or.inr ⟨by rfl, rfl⟩) ?_ ?_
            rotate_left
            · simp only [Act.put, List.setIfInBounds_toArray, List.set_cons_zero, List.set_cons_succ, i64_w, i32_w]
              rfl
            refine pure_ (i := 14) (N := some 24) (v := undef) (a' := ?_) #[true, true, true, true, true, true, true, true, true, true, true, true, true, true, true, false, false, false, false, false, false, false, false, false] rfl rfl (any_of HT_.out (by kernel_rfl)) (fun _ _ _ h => h) (Or.inr ⟨by rfl, rfl⟩) ?_ ?_
            rotate_left
            · simp only [Act.put, List.setIfInBounds_toArray, List.set_cons_zero, List.set_cons_succ, i64_w, i32_w]
              rfl
            refine pure_ (i := 15) (N := some 25) (v := undef) (a' := ?_) #[true, true, true, true, true, true, true, true, true, true, true, true, true, true, true, true, false, false, false, false, false, false, false, false] rfl rfl (any_of HT_.out (by kernel_rfl)) (fun _ _ _ h => h) (Or.inr ⟨by rfl, rfl⟩) ?_ ?_
            rotate_left
            · simp only [Act.put, List.setIfInBounds_toArray, List.set_cons_zero, List.set_cons_succ, i64_w, i32_w]
              rfl
            refine pure_ (i := 16) (N := some 26) (v := undef) (a' := ?_) #[true, true, true, true, true, true, true, true, true, true, true, true, true, true, true, true, true, false, false, false, false, false, false, false] rfl rfl (any_of HT_.out (by kernel_rfl)) (fun _ _ _ h => h) (Or.inr ⟨by rfl, rfl⟩) ?_ ?_
            rotate_left
            · simp only [Act.put, List.setIfInBounds_toArray, List.set_cons_zero, List.set_cons_succ, i64_w, i32_w]
              rfl
            refine pure_ (i := 17) (N := some 27) (v := undef) (a' := ?_) #[true, true, true, true, true, true, true, true, true, true, true, true, true, true, true, true, true, true, false, false, false, false, false, false] rfl rfl (any_of HT_.out (by kernel_rfl)) (fun _ _ _ h => h) (Or.inr ⟨by rfl, rfl⟩) ?_ ?_
            rotate_left
            · simp only [Act.put, List.setIfInBounds_toArray, List.set_cons_zero, List.set_cons_succ, i64_w, i32_w]
              rfl
            refine pure_ (i := 18) (N := some 28) (v := undef) (a' := ?_) #[true, true, true, true, true, true, true, true, true, true, true, true, true, true, true, true, true, true, true, false, false, false, false, false] rfl rfl (any_of HT_.out (by kernel_rfl)) (fun _ _ _ h => h) (Or.inr ⟨by rfl, rfl⟩) ?_ ?_
            rotate_left
            · simp only [Act.put, List.setIfInBounds_toArray, List.set_cons_zero, List.set_cons_succ, i64_w, i32_w]
              rfl
            refine pure_ (i := 19) (N := some 29) (v := undef) (a' := ?_) #[true, true, true, true, true, true, true, true, true, true, true, true, true, true, true, true, true, true, true, true, false, false, false, false] rfl rfl (any_of HT_.out (by kernel_rfl)) (fun _ _ _ h => h) (Or.inr ⟨by rfl, rfl⟩) ?_ ?_
            rotate_left
            · simp only [Act.put, List.setIfInBounds_toArray, List.set_cons_zero, List.set_cons_succ, i64_w, i32_w]
              rfl
            refine pure_ (i := 20) (N := some 30) (v := undef) (a' := ?_) #[true, true, true, true, true, true, true, true, true, true, true, true, true, true, true, true, true, true, true, true, true, false, false, false] rfl rfl (any_of HT_.out (by kernel_rfl)) (fun _ _ _ h => h) (Or.inr ⟨by rfl, rfl⟩) ?_ ?_
            rotate_left
            · simp only [Act.put, List.setIfInBounds_toArray, List.set_cons_zero, List.set_cons_succ, i64_w, i32_w]
              rfl
            refine pure_ (i := 21) (N := some 31) (v := undef) (a' := ?_) #[true, true, true, true, true, true, true, true, true, true, true, true, true, true, true, true, true, true, true, true, true, true, false, false] rfl rfl (any_of HT_.out (by kernel_rfl)) (fun _ _ _ h => h) (Or.inr ⟨by rfl, rfl⟩) ?_ ?_
            rotate_left
            · simp only [Act.put, List.setIfInBounds_toArray, List.set_cons_zero, List.set_cons_succ, i64_w, i32_w]
              rfl
            refine pure_ (i := 22) (N := some 32) (v := undef) (a' := ?_) #[true, true, true, true, true, true, true, true, true, true, true, true, true, true, true, true, true, true, true, true, true, true, true, false] rfl rfl (any_of HT_.out (by kernel_rfl)) (fun _ _ _ h => h) (Or.inr ⟨by rfl, rfl⟩) ?_ ?_
            rotate_left
            · simp only [Act.put, List.setIfInBounds_toArray, List.set_cons_zero, List.set_cons_succ, i64_w, i32_w]
              rfl
            refine pure_ (i := 23) (N := some 33) (v := ?_) (a' := ?_) #[true, true, true, true, true, true, true, true, true, true, true, true, true, true, true, true, true, true, true, true, true, true, true, true] rfl rfl (any_of HT_.out (by kernel_rfl)) (fun _ _ _ h => h) (Or.inl ⟨by rfl, ?_⟩) ?_ ?_
            rotate_left
            · intro w'
              go_simp
              with_reducible rfl
            rotate_left
            · simp only [Act.put, List.setIfInBounds_toArray, List.set_cons_zero, List.set_cons_succ, i64_w, i32_w]
              rfl
            refine done_ (done_of HT_.out (by kernel_rfl)) ?_
            try go_wp2
            go_ret
            exact ⟨by first | rfl | (simp [errW_none, errW_some] <;> rfl) | (simp [*, errW_none, errW_some] <;> rfl), by repeat (first | (with_reducible first | exact HB.out | apply below_alloc | apply pw_below_drewN | apply below_drew1) | exact HB.out)⟩
        · rw [if_neg c3] at H
          exact absurd H (by simp)
      · rw [if_neg c2] at H
        have c2b0 : decide (x3_1 < (l0.length : Int)) = false := decide_eq_false c2
        clear c2
        obtain rfl := Option.some.inj H
        go_wp2
        go_ret
        exact ⟨by first | rfl | (simp [errW_none, errW_some] <;> rfl) | (simp [*, errW_none, errW_some] <;> rfl), by repeat (first | (with_reducible first | exact HB.out | apply below_alloc | apply pw_below_drewN | apply below_drew1) | exact HB.out)⟩

end Go.Proofs.Ytlicobfjeajcfaa.Q29
