-- Written by a program of this session (wip/bin/pick.py, out of a print); not trusted: Lean checks it.
import Derived.Test.YtiidffblbpoijaaDoorQ32x0
import Derived.Test.YtiidffblbpoijaaDoorQ32a0
import Derived.Test.YtiidffblbpoijaaDoorQ32b0
import Derived.Test.YtiidffblbpoijaaDoorQ32b1
import Derived.Test.YtiidffblbpoijaaDoorClAwake
import Derived.Test.YtiidffblbpoijaaDoorClTabs
namespace Go.Proofs.YtiidffblbpoijaaDoor.Q32
open Go.RowKit Go.Proofs.YtiidffblbpoijaaDoorW.PrintWords Go.Proofs.YtiidffblbpoijaaDoorW.PrintLast Go.Proofs.YtiidffblbpoijaaDoorW.PrintMore
attribute [local go_sem] max2_int min2_int max_two min_two max_three min_three max_four min_four   -- for this text's walks alone
set_option linter.unusedVariables false
set_option linter.unusedSimpArgs false

theorem isE_c0_ (l : List UInt8) : l.isEmpty = !(l != []) := by cases l <;> rfl
/-! ### quadrigalaw32_ClientTells: function 3 -/
mutual
def quadrigalaw32_ClientTells.j0 : Nat → Int → Int → Bool → Bool → ByteArray → Option (Bool)
  | 0, _, _, _, _, _ => none
  | k + 1, x0, x2, x20, x200000, x200001 => if x20 = true then ((quadrigalaw32_awake.f).bind fun t200 => (some t200)) else ((some (([(⟨#[111, 107]⟩ : ByteArray), (⟨#[]⟩ : ByteArray), (⟨#[]⟩ : ByteArray), (⟨#[]⟩ : ByteArray), (⟨#[102, 117, 108, 108]⟩ : ByteArray), (⟨#[108, 111, 103]⟩ : ByteArray), (⟨#[]⟩ : ByteArray), (⟨#[110, 111, 110, 101]⟩ : ByteArray), (⟨#[116, 104, 101, 114, 101]⟩ : ByteArray), (⟨#[]⟩ : ByteArray), (⟨#[119, 97, 105, 116]⟩ : ByteArray), (⟨#[100, 101, 97, 100]⟩ : ByteArray)] : List ByteArray) : List ByteArray)).bind fun y201 => ((quadrigaref25_Number.f k x0).bind fun t204 => (if 6 + t204.size ≤ 9223372036854775807 then (if x0 < (y201.length : Int) then (if 0 ≤ x0 then (quadrigalaw32_ClientTells.j1 k x0 x2 y201 ((⟨#[101, 114, 114, 111, 114, 32]⟩ : ByteArray) ++ t204) ((rdOf ByteArray.empty y201 x0).toList != ([] : List UInt8)) x200000 x200001) else (none)) else (quadrigalaw32_ClientTells.j1 k x0 x2 y201 ((⟨#[101, 114, 114, 111, 114, 32]⟩ : ByteArray) ++ t204) false x200000 x200001)) else (none))))
def quadrigalaw32_ClientTells.j1 : Nat → Int → Int → List ByteArray → ByteArray → Bool → Bool → ByteArray → Option (Bool)
  | 0, _, _, _, _, _, _, _ => none
  | k + 1, x0, x2, x7, x8, x36, x200000, x200001 => if x36 = true then (if 0 ≤ x0 then (if x0 < (x7.length : Int) then (quadrigalaw32_ClientTells.j2 k x0 x2 (rdOf ByteArray.empty x7 x0) x200000 x200001) else (none)) else (none)) else (quadrigalaw32_ClientTells.j2 k x0 x2 x8 x200000 x200001)
def quadrigalaw32_ClientTells.j2 : Nat → Int → Int → ByteArray → Bool → ByteArray → Option (Bool)
  | 0, _, _, _, _, _ => none
  | k + 1, x0, x2, x8, x200000, x200001 => if x0 = 0 then (quadrigalaw32_ClientTells.j3 k x0 x2 x8 x200000 x200000 x200001) else (quadrigalaw32_ClientTells.j3 k x0 x2 x8 false x200000 x200001)
def quadrigalaw32_ClientTells.j3 : Nat → Int → Int → ByteArray → Bool → Bool → ByteArray → Option (Bool)
  | 0, _, _, _, _, _, _ => none
  | k + 1, x0, x2, x8, x46, x200000, x200001 => if x46 = true then (if x8.size + 1 ≤ 9223372036854775807 then ((quadrigaref32_Text.f k x200001).bind fun t207 => (if (x8 ++ (⟨#[32]⟩ : ByteArray)).size + t207.size ≤ 9223372036854775807 then (quadrigalaw32_ClientTells.j4 k x0 x2 ((x8 ++ (⟨#[32]⟩ : ByteArray)) ++ t207) x200000 x200001) else (none))) else (none)) else (quadrigalaw32_ClientTells.j4 k x0 x2 x8 x200000 x200001)
def quadrigalaw32_ClientTells.j4 : Nat → Int → Int → ByteArray → Bool → ByteArray → Option (Bool)
  | 0, _, _, _, _, _ => none
  | k + 1, x0, x2, x8, x200000, x200001 => if x0 = 0 then (quadrigalaw32_ClientTells.j5 k x0 x2 x8 (x2 != 0) x200000 x200001) else (quadrigalaw32_ClientTells.j5 k x0 x2 x8 false x200000 x200001)
def quadrigalaw32_ClientTells.j5 : Nat → Int → Int → ByteArray → Bool → Bool → ByteArray → Option (Bool)
  | 0, _, _, _, _, _, _ => none
  | k + 1, x0, x2, x8, x58, x200000, x200001 => if x58 = true then (if x8.size + 2 ≤ 9223372036854775807 then ((quadrigaref25_Number.f k x2).bind fun t208 => (if (x8 ++ (⟨#[32, 64]⟩ : ByteArray)).size + t208.size ≤ 9223372036854775807 then ((client_Tell.f x0 x200000 x200001 x2).bind fun t209 => (if t209.toList = ((x8 ++ (⟨#[32, 64]⟩ : ByteArray)) ++ t208).toList then ((quadrigalaw32_awake.f).bind fun t210 => (some t210)) else (some false))) else (none))) else (none)) else ((client_Tell.f x0 x200000 x200001 x2).bind fun t211 => (if t211.toList = x8.toList then ((quadrigalaw32_awake.f).bind fun t212 => (some t212)) else (some false)))
end
def quadrigalaw32_ClientTells.f (k : Nat) (a0 : Int) (a1_0 : Bool) (a1_1 : ByteArray) (a2 : Int) : Option (Bool) := if (a1_1.size : Int) > 100 then (quadrigalaw32_ClientTells.j0 k a0 a2 true a1_0 a1_1) else (if a0 < 0 then (quadrigalaw32_ClientTells.j0 k a0 a2 true a1_0 a1_1) else (quadrigalaw32_ClientTells.j0 k a0 a2 (decide (a0 > 100)) a1_0 a1_1))
theorem quadrigalaw32_ClientTells.mono_l : ∀ k, (∀ y0 y1 y2 y3 y4, LeO (quadrigalaw32_ClientTells.j0 k y0 y1 y2 y3 y4) (quadrigalaw32_ClientTells.j0 (k + 1) y0 y1 y2 y3 y4)) ∧ (∀ y0 y1 y2 y3 y4 y5 y6, LeO (quadrigalaw32_ClientTells.j1 k y0 y1 y2 y3 y4 y5 y6) (quadrigalaw32_ClientTells.j1 (k + 1) y0 y1 y2 y3 y4 y5 y6)) ∧ (∀ y0 y1 y2 y3 y4, LeO (quadrigalaw32_ClientTells.j2 k y0 y1 y2 y3 y4) (quadrigalaw32_ClientTells.j2 (k + 1) y0 y1 y2 y3 y4)) ∧ (∀ y0 y1 y2 y3 y4 y5, LeO (quadrigalaw32_ClientTells.j3 k y0 y1 y2 y3 y4 y5) (quadrigalaw32_ClientTells.j3 (k + 1) y0 y1 y2 y3 y4 y5)) ∧ (∀ y0 y1 y2 y3 y4, LeO (quadrigalaw32_ClientTells.j4 k y0 y1 y2 y3 y4) (quadrigalaw32_ClientTells.j4 (k + 1) y0 y1 y2 y3 y4)) ∧ (∀ y0 y1 y2 y3 y4 y5, LeO (quadrigalaw32_ClientTells.j5 k y0 y1 y2 y3 y4 y5) (quadrigalaw32_ClientTells.j5 (k + 1) y0 y1 y2 y3 y4 y5))
  | 0 => ⟨fun _ _ _ _ _ r h => by simp [quadrigalaw32_ClientTells.j0] at h, fun _ _ _ _ _ _ _ r h => by simp [quadrigalaw32_ClientTells.j1] at h, fun _ _ _ _ _ r h => by simp [quadrigalaw32_ClientTells.j2] at h, fun _ _ _ _ _ _ r h => by simp [quadrigalaw32_ClientTells.j3] at h, fun _ _ _ _ _ r h => by simp [quadrigalaw32_ClientTells.j4] at h, fun _ _ _ _ _ _ r h => by simp [quadrigalaw32_ClientTells.j5] at h⟩
  | k + 1 => by
    obtain ⟨ih0, ih1, ih2, ih3, ih4, ih5⟩ := quadrigalaw32_ClientTells.mono_l k
    refine ⟨?_, ?_, ?_, ?_, ?_, ?_⟩
    · intro y0 y1 y2 y3 y4
      unfold quadrigalaw32_ClientTells.j0
      repeat' first
      | (with_reducible exact ih0 _ _ _ _ _)
      | (with_reducible exact ih1 _ _ _ _ _ _ _)
      | (with_reducible exact ih2 _ _ _ _ _)
      | (with_reducible exact ih3 _ _ _ _ _ _)
      | (with_reducible exact ih4 _ _ _ _ _)
      | (with_reducible exact ih5 _ _ _ _ _ _)
      | (with_reducible exact quadrigaref25_Number.mono _ _)
      | (with_reducible exact quadrigaref32_Text.mono _ _)
      | (with_reducible exact LeO.refl _)
      | (with_reducible exact LeO.none _)
      | (with_reducible refine LeO.ite ?_ ?_)
      | (with_reducible refine LeO.bind ?_ (fun _ => ?_))
      | exact ih0 _ _ _ _ _
      | exact ih1 _ _ _ _ _ _ _
      | exact ih2 _ _ _ _ _
      | exact ih3 _ _ _ _ _ _
      | exact ih4 _ _ _ _ _
      | exact ih5 _ _ _ _ _ _
      | exact quadrigaref25_Number.mono _ _
      | exact quadrigaref32_Text.mono _ _
      | exact LeO.none _
      | refine LeO.ite ?_ ?_
      | refine LeO.bind ?_ (fun _ => ?_)
    · intro y0 y1 y2 y3 y4 y5 y6
      unfold quadrigalaw32_ClientTells.j1
      repeat' first
      | (with_reducible exact ih0 _ _ _ _ _)
      | (with_reducible exact ih1 _ _ _ _ _ _ _)
      | (with_reducible exact ih2 _ _ _ _ _)
      | (with_reducible exact ih3 _ _ _ _ _ _)
      | (with_reducible exact ih4 _ _ _ _ _)
      | (with_reducible exact ih5 _ _ _ _ _ _)
      | (with_reducible exact quadrigaref25_Number.mono _ _)
      | (with_reducible exact quadrigaref32_Text.mono _ _)
      | (with_reducible exact LeO.refl _)
      | (with_reducible exact LeO.none _)
      | (with_reducible refine LeO.ite ?_ ?_)
      | (with_reducible refine LeO.bind ?_ (fun _ => ?_))
      | exact ih0 _ _ _ _ _
      | exact ih1 _ _ _ _ _ _ _
      | exact ih2 _ _ _ _ _
      | exact ih3 _ _ _ _ _ _
      | exact ih4 _ _ _ _ _
      | exact ih5 _ _ _ _ _ _
      | exact quadrigaref25_Number.mono _ _
      | exact quadrigaref32_Text.mono _ _
      | exact LeO.none _
      | refine LeO.ite ?_ ?_
      | refine LeO.bind ?_ (fun _ => ?_)
    · intro y0 y1 y2 y3 y4
      unfold quadrigalaw32_ClientTells.j2
      repeat' first
      | (with_reducible exact ih0 _ _ _ _ _)
      | (with_reducible exact ih1 _ _ _ _ _ _ _)
      | (with_reducible exact ih2 _ _ _ _ _)
      | (with_reducible exact ih3 _ _ _ _ _ _)
      | (with_reducible exact ih4 _ _ _ _ _)
      | (with_reducible exact ih5 _ _ _ _ _ _)
      | (with_reducible exact quadrigaref25_Number.mono _ _)
      | (with_reducible exact quadrigaref32_Text.mono _ _)
      | (with_reducible exact LeO.refl _)
      | (with_reducible exact LeO.none _)
      | (with_reducible refine LeO.ite ?_ ?_)
      | (with_reducible refine LeO.bind ?_ (fun _ => ?_))
      | exact ih0 _ _ _ _ _
      | exact ih1 _ _ _ _ _ _ _
      | exact ih2 _ _ _ _ _
      | exact ih3 _ _ _ _ _ _
      | exact ih4 _ _ _ _ _
      | exact ih5 _ _ _ _ _ _
      | exact quadrigaref25_Number.mono _ _
      | exact quadrigaref32_Text.mono _ _
      | exact LeO.none _
      | refine LeO.ite ?_ ?_
      | refine LeO.bind ?_ (fun _ => ?_)
    · intro y0 y1 y2 y3 y4 y5
      unfold quadrigalaw32_ClientTells.j3
      repeat' first
      | (with_reducible exact ih0 _ _ _ _ _)
      | (with_reducible exact ih1 _ _ _ _ _ _ _)
      | (with_reducible exact ih2 _ _ _ _ _)
      | (with_reducible exact ih3 _ _ _ _ _ _)
      | (with_reducible exact ih4 _ _ _ _ _)
      | (with_reducible exact ih5 _ _ _ _ _ _)
      | (with_reducible exact quadrigaref25_Number.mono _ _)
      | (with_reducible exact quadrigaref32_Text.mono _ _)
      | (with_reducible exact LeO.refl _)
      | (with_reducible exact LeO.none _)
      | (with_reducible refine LeO.ite ?_ ?_)
      | (with_reducible refine LeO.bind ?_ (fun _ => ?_))
      | exact ih0 _ _ _ _ _
      | exact ih1 _ _ _ _ _ _ _
      | exact ih2 _ _ _ _ _
      | exact ih3 _ _ _ _ _ _
      | exact ih4 _ _ _ _ _
      | exact ih5 _ _ _ _ _ _
      | exact quadrigaref25_Number.mono _ _
      | exact quadrigaref32_Text.mono _ _
      | exact LeO.none _
      | refine LeO.ite ?_ ?_
      | refine LeO.bind ?_ (fun _ => ?_)
    · intro y0 y1 y2 y3 y4
      unfold quadrigalaw32_ClientTells.j4
      repeat' first
      | (with_reducible exact ih0 _ _ _ _ _)
      | (with_reducible exact ih1 _ _ _ _ _ _ _)
      | (with_reducible exact ih2 _ _ _ _ _)
      | (with_reducible exact ih3 _ _ _ _ _ _)
      | (with_reducible exact ih4 _ _ _ _ _)
      | (with_reducible exact ih5 _ _ _ _ _ _)
      | (with_reducible exact quadrigaref25_Number.mono _ _)
      | (with_reducible exact quadrigaref32_Text.mono _ _)
      | (with_reducible exact LeO.refl _)
      | (with_reducible exact LeO.none _)
      | (with_reducible refine LeO.ite ?_ ?_)
      | (with_reducible refine LeO.bind ?_ (fun _ => ?_))
      | exact ih0 _ _ _ _ _
      | exact ih1 _ _ _ _ _ _ _
      | exact ih2 _ _ _ _ _
      | exact ih3 _ _ _ _ _ _
      | exact ih4 _ _ _ _ _
      | exact ih5 _ _ _ _ _ _
      | exact quadrigaref25_Number.mono _ _
      | exact quadrigaref32_Text.mono _ _
      | exact LeO.none _
      | refine LeO.ite ?_ ?_
      | refine LeO.bind ?_ (fun _ => ?_)
    · intro y0 y1 y2 y3 y4 y5
      unfold quadrigalaw32_ClientTells.j5
      repeat' first
      | (with_reducible exact ih0 _ _ _ _ _)
      | (with_reducible exact ih1 _ _ _ _ _ _ _)
      | (with_reducible exact ih2 _ _ _ _ _)
      | (with_reducible exact ih3 _ _ _ _ _ _)
      | (with_reducible exact ih4 _ _ _ _ _)
      | (with_reducible exact ih5 _ _ _ _ _ _)
      | (with_reducible exact quadrigaref25_Number.mono _ _)
      | (with_reducible exact quadrigaref32_Text.mono _ _)
      | (with_reducible exact LeO.refl _)
      | (with_reducible exact LeO.none _)
      | (with_reducible refine LeO.ite ?_ ?_)
      | (with_reducible refine LeO.bind ?_ (fun _ => ?_))
      | exact ih0 _ _ _ _ _
      | exact ih1 _ _ _ _ _ _ _
      | exact ih2 _ _ _ _ _
      | exact ih3 _ _ _ _ _ _
      | exact ih4 _ _ _ _ _
      | exact ih5 _ _ _ _ _ _
      | exact quadrigaref25_Number.mono _ _
      | exact quadrigaref32_Text.mono _ _
      | exact LeO.none _
      | refine LeO.ite ?_ ?_
      | refine LeO.bind ?_ (fun _ => ?_)
theorem quadrigalaw32_ClientTells.mono : ∀ a0 a1 a2 a3 k, LeO (quadrigalaw32_ClientTells.f k a0 a1 a2 a3) (quadrigalaw32_ClientTells.f (k + 1) a0 a1 a2 a3) := by
  intro a0 a1 a2 a3 k
  obtain ⟨ih0, ih1, ih2, ih3, ih4, ih5⟩ := quadrigalaw32_ClientTells.mono_l k
  unfold quadrigalaw32_ClientTells.f
  repeat' first
      | (with_reducible exact ih0 _ _ _ _ _)
      | (with_reducible exact ih1 _ _ _ _ _ _ _)
      | (with_reducible exact ih2 _ _ _ _ _)
      | (with_reducible exact ih3 _ _ _ _ _ _)
      | (with_reducible exact ih4 _ _ _ _ _)
      | (with_reducible exact ih5 _ _ _ _ _ _)
      | (with_reducible exact quadrigaref25_Number.mono _ _)
      | (with_reducible exact quadrigaref32_Text.mono _ _)
      | (with_reducible exact LeO.refl _)
      | (with_reducible exact LeO.none _)
      | (with_reducible refine LeO.ite ?_ ?_)
      | (with_reducible refine LeO.bind ?_ (fun _ => ?_))
      | exact ih0 _ _ _ _ _
      | exact ih1 _ _ _ _ _ _ _
      | exact ih2 _ _ _ _ _
      | exact ih3 _ _ _ _ _ _
      | exact ih4 _ _ _ _ _
      | exact ih5 _ _ _ _ _ _
      | exact quadrigaref25_Number.mono _ _
      | exact quadrigaref32_Text.mono _ _
      | exact LeO.none _
      | refine LeO.ite ?_ ?_
      | refine LeO.bind ?_ (fun _ => ?_)
set_option maxHeartbeats 8000000 in
set_option maxRecDepth 100000 in
theorem quadrigalaw32_ClientTells.calls (k : Nat) (a0 : Int) (a1_0 : Bool) (a1_1 : ByteArray) (a2 : Int) (r : Bool) (w : World) (h : quadrigalaw32_ClientTells.f k a0 a1_0 a1_1 a2 = some r) (ht : Tabs w) :
    Calls Tryd.prog 3 #[.int .i64 a0, .agg #[.bool a1_0, .string a1_1], .int .i64 a2] w fun e w' => e = .returned (.bool r) ∧ Below w.heap.size w w' := by
  have hu23 := Tryd.underlying23
  have hu31 := Tryd.underlying31
  have HB := Aside0.mk (Below.refl w.heap.size w)
  have HT0 := Aside0.mk (fun (W : World) (hb : Below w.heap.size w W) => ht.below hb)
  clear ht
  have H : (if (a1_1.size : Int) > 100 then (quadrigalaw32_ClientTells.j0 k a0 a2 true a1_0 a1_1) else (if a0 < 0 then (quadrigalaw32_ClientTells.j0 k a0 a2 true a1_0 a1_1) else (quadrigalaw32_ClientTells.j0 k a0 a2 (decide (a0 > 100)) a1_0 a1_1))) = some r := h
  clear h
  have HC4 := Aside0.mk H
  clear H
  go_enter Tryd.func3, Tryd.ntmps3
  go_upto_region 1 with (first | ((with_reducible refine gate_dst (N := 4) rfl ?_); refine box_event ?hg (N := 4) ?hd (cs := #[.bool a1_0, .string a1_1]) (t := 23) ?hr ?_; (case hd => rfl); (case hg => rfl); (case hr => first | (go_simp; done) | (go_simp; rfl)); intro gb199 hg w5 hbox hb; have n0_ := Aside0.mk (below_step (by repeat (first | (with_reducible first | exact HB.out | apply below_alloc | apply pw_below_drewN | apply below_drew1) | exact HB.out)) hb); have n1_ := Aside0.mk (hbox); have n2_ := Aside0.mk ((by rw [hg]; exact (below_size (by repeat (first | (with_reducible first | exact HB.out | apply below_alloc | apply pw_below_drewN | apply below_drew1) | exact HB.out))) : w.heap.size ≤ gb199)); have n3_ := Aside0.mk ((by rw [hg]; exact (below_size (by repeat (first | (with_reducible first | exact HB.out | apply below_alloc | apply pw_below_drewN | apply below_drew1) | exact HB.out))) : w.heap.size ≤ gb199)); clear HB; have HB := n0_; have BK199 := n1_; have GW199 := n2_; have GE199 := n3_; clear n0_ n1_ n2_ n3_; clear hb hbox hg))
  (try simp only [Act.put, List.setIfInBounds_toArray, List.set_cons_zero, List.set_cons_succ])
  go_cut [20] (fun v20 wc => ∃ (kq : Nat) (x20_3 : Bool), v20 = .bool x20_3 ∧ Aside0 (quadrigalaw32_ClientTells.j0 kq a0 a2 x20_3 a1_0 a1_1 = some r) ∧ Aside0 (kq ≤ k) ∧ Aside0 (wc.heap[gb199]? = some (.cells #[.bool a1_0, .string a1_1] 23 (0, 0))) ∧ Aside0 (Below w.heap.size w wc))
  case first =>
    have H := HC4.out
    clear HC4
    by_cases c6 : (a1_1.size : Int) > 100
    · rw [if_pos c6] at H
      have c6b0 : decide (100 < (a1_1.size : Int)) = true := decide_eq_true c6
      have c6b1 : decide (100 < a1_1.size) = true := decide_eq_true (by omega)
      clear c6
      (first | rw [c6b0] | (simp only [i64_w, i32_w]; rw [c6b0]) | skip)
      have H' := Aside0.mk H
      clear H
      have hcz7_0 : w5.cell? ⟨gb199, 0, none⟩ = some (.bool a1_0) := (blk_cell BK199.out 0).trans rfl
      have hcz7_1 : w5.cell? ⟨gb199, 1, none⟩ = some (.string a1_1) := (blk_cell BK199.out 1).trans rfl
      have hfz7_0 := blk_frozen BK199.out 0
      have hfz7_1 := blk_frozen BK199.out 1
      go_wp2
      go_meet
      case rel => exact ⟨_, (true), (by first | rfl | (simp; done) | (simp [*]; done) | (simp; exact isE_c0_ _)), H', ⟨by first | omega | exact Nat.le_refl _⟩, ⟨by (with_reducible repeat (first | refine blk_drewN ?_ _ | refine blk_drew ?_ | refine blk_alloc ?_ _)); exact BK199.out⟩, ⟨by repeat (first | (with_reducible first | exact HB.out | apply below_alloc | apply pw_below_drewN | apply below_drew1 | refine below_set ?_ GE199.out) | exact HB.out)⟩⟩
    · rw [if_neg c6] at H
      have c6b0 : decide (100 < (a1_1.size : Int)) = false := decide_eq_false c6
      have c6b1 : decide (100 < a1_1.size) = false := decide_eq_false (by omega)
      clear c6
      (first | rw [c6b0] | (simp only [i64_w, i32_w]; rw [c6b0]) | skip)
      by_cases c8 : a0 < 0
      · rw [if_pos c8] at H
        have c8b0 : decide (a0 < 0) = true := decide_eq_true c8
        clear c8
        have H' := Aside0.mk H
        clear H
        have hcz9_0 : w5.cell? ⟨gb199, 0, none⟩ = some (.bool a1_0) := (blk_cell BK199.out 0).trans rfl
        have hcz9_1 : w5.cell? ⟨gb199, 1, none⟩ = some (.string a1_1) := (blk_cell BK199.out 1).trans rfl
        have hfz9_0 := blk_frozen BK199.out 0
        have hfz9_1 := blk_frozen BK199.out 1
        go_wp2
        go_meet
        case rel => exact ⟨_, (true), (by first | rfl | (simp; done) | (simp [*]; done) | (simp; exact isE_c0_ _)), H', ⟨by first | omega | exact Nat.le_refl _⟩, ⟨by (with_reducible repeat (first | refine blk_drewN ?_ _ | refine blk_drew ?_ | refine blk_alloc ?_ _)); exact BK199.out⟩, ⟨by repeat (first | (with_reducible first | exact HB.out | apply below_alloc | apply pw_below_drewN | apply below_drew1 | refine below_set ?_ GE199.out) | exact HB.out)⟩⟩
      · rw [if_neg c8] at H
        have c8b0 : decide (a0 < 0) = false := decide_eq_false c8
        clear c8
        have H' := Aside0.mk H
        clear H
        have hcz10_0 : w5.cell? ⟨gb199, 0, none⟩ = some (.bool a1_0) := (blk_cell BK199.out 0).trans rfl
        have hcz10_1 : w5.cell? ⟨gb199, 1, none⟩ = some (.string a1_1) := (blk_cell BK199.out 1).trans rfl
        have hfz10_0 := blk_frozen BK199.out 0
        have hfz10_1 := blk_frozen BK199.out 1
        go_wp2
        go_meet
        case rel => exact ⟨_, (decide (a0 > 100)), (by first | rfl | (simp; done) | (simp [*]; done) | (simp; exact isE_c0_ _)), H', ⟨by first | omega | exact Nat.le_refl _⟩, ⟨by (with_reducible repeat (first | refine blk_drewN ?_ _ | refine blk_drew ?_ | refine blk_alloc ?_ _)); exact BK199.out⟩, ⟨by repeat (first | (with_reducible first | exact HB.out | apply below_alloc | apply pw_below_drewN | apply below_drew1 | refine below_set ?_ GE199.out) | exact HB.out)⟩⟩
  case rest =>
    clear HC4
    try clear p2
    try clear c3
    try clear c6
    try clear c6b0
    try clear c6b1
    try clear c8
    try clear c8b0
    try clear hcz10_0
    try clear hcz10_1
    try clear hcz7_0
    try clear hcz7_1
    try clear hcz9_0
    try clear hcz9_1
    try clear hfz10_0
    try clear hfz10_1
    try clear hfz7_0
    try clear hfz7_1
    try clear hfz9_0
    try clear hfz9_1
    obtain ⟨kq, x20_3, rfl, HA, HJ3, BK199, HB⟩ := hcut
    cases kq with
    | zero => exact absurd HA.out (by simp [quadrigalaw32_ClientTells.j0])
    | succ kj3 =>
      have H := HA.out
      clear HA
      simp only [quadrigalaw32_ClientTells.j0] at H
      by_cases c11 : x20_3 = true
      · subst c11
        have H1 : ((quadrigalaw32_awake.f).bind fun t200 => (some t200)) = some r := by rw [if_pos rfl] at H; exact H
        clear H
        have H := H1
        clear H1
        replace H := Option.bind_eq_some_iff.mp H
        obtain ⟨t200, A120, H⟩ := H
        replace H : (some t200) = some r := H
        have A12 := Aside0.mk A120
        clear A120
        obtain rfl := Option.some.inj H
        go_wp2_with (first | ((with_reducible refine gate_callee (f := 5) rfl ?_); refine goesL_ (some 21) rfl rfl Tryd.func5 (by kernel_rfl) rfl #[] rfl (by (try simp only [List.map_toArray, List.map_cons, List.map_nil]); first | done | rfl | (simp only [List.length_drop, List.length_take]; rfl)) ?_; (with_reducible refine (quadrigalaw32_awake.calls  t200 _ A12.out).mono ?_); rintro e w13 ⟨rfl, hb⟩; refine ⟨_, rfl, ?_⟩; have n0_ := Aside0.mk (blk_below (g := gb199) (o := .cells #[.bool a1_0, .string a1_1] 23 (0, 0)) (by (with_reducible repeat (first | refine blk_drewN ?_ _ | refine blk_drew ?_ | refine blk_alloc ?_ _)); exact BK199.out) hb); have n1_ := Aside0.mk (below_step (by repeat (first | (with_reducible first | exact HB.out | apply below_alloc | apply pw_below_drewN | apply below_drew1 | refine below_set ?_ GE199.out) | exact HB.out)) hb); clear BK199; clear HB; have BK199 := n0_; have HB := n1_; clear n0_ n1_; (try clear hb); (try clear hb2); (try clear hk); (try clear hi)))
        go_ret
        exact ⟨by first | rfl | (simp [errW_none, errW_some] <;> rfl) | (simp [*, errW_none, errW_some] <;> rfl), by repeat (first | (with_reducible first | exact HB.out | apply below_alloc | apply pw_below_drewN | apply below_drew1 | refine below_set ?_ GE199.out) | exact HB.out)⟩
      · replace c11 := Bool.eq_false_iff.mpr c11
        subst c11
        have H1 : ((some (([(⟨#[111, 107]⟩ : ByteArray), (⟨#[]⟩ : ByteArray), (⟨#[]⟩ : ByteArray), (⟨#[]⟩ : ByteArray), (⟨#[102, 117, 108, 108]⟩ : ByteArray), (⟨#[108, 111, 103]⟩ : ByteArray), (⟨#[]⟩ : ByteArray), (⟨#[110, 111, 110, 101]⟩ : ByteArray), (⟨#[116, 104, 101, 114, 101]⟩ : ByteArray), (⟨#[]⟩ : ByteArray), (⟨#[119, 97, 105, 116]⟩ : ByteArray), (⟨#[100, 101, 97, 100]⟩ : ByteArray)] : List ByteArray) : List ByteArray)).bind fun y201 => ((quadrigaref25_Number.f kj3 a0).bind fun t204 => (if 6 + t204.size ≤ 9223372036854775807 then (if a0 < (y201.length : Int) then (if 0 ≤ a0 then (quadrigalaw32_ClientTells.j1 kj3 a0 a2 y201 ((⟨#[101, 114, 114, 111, 114, 32]⟩ : ByteArray) ++ t204) ((rdOf ByteArray.empty y201 a0).toList != ([] : List UInt8)) a1_0 a1_1) else (none)) else (quadrigalaw32_ClientTells.j1 kj3 a0 a2 y201 ((⟨#[101, 114, 114, 111, 114, 32]⟩ : ByteArray) ++ t204) false a1_0 a1_1)) else (none)))) = some r := by rw [if_neg (show ¬ (false = true) by decide)] at H; exact H
        clear H
        have H := H1
        clear H1
        obtain ⟨y201, hy201⟩ : ∃ y_ : List ByteArray, y_ = (([(⟨#[111, 107]⟩ : ByteArray), (⟨#[]⟩ : ByteArray), (⟨#[]⟩ : ByteArray), (⟨#[]⟩ : ByteArray), (⟨#[102, 117, 108, 108]⟩ : ByteArray), (⟨#[108, 111, 103]⟩ : ByteArray), (⟨#[]⟩ : ByteArray), (⟨#[110, 111, 110, 101]⟩ : ByteArray), (⟨#[116, 104, 101, 114, 101]⟩ : ByteArray), (⟨#[]⟩ : ByteArray), (⟨#[119, 97, 105, 116]⟩ : ByteArray), (⟨#[100, 101, 97, 100]⟩ : ByteArray)] : List ByteArray)) := ⟨_, rfl⟩
        replace H : ((quadrigaref25_Number.f kj3 a0).bind fun t204 => (if 6 + t204.size ≤ 9223372036854775807 then (if a0 < (y201.length : Int) then (if 0 ≤ a0 then (quadrigalaw32_ClientTells.j1 kj3 a0 a2 y201 ((⟨#[101, 114, 114, 111, 114, 32]⟩ : ByteArray) ++ t204) ((rdOf ByteArray.empty y201 a0).toList != ([] : List UInt8)) a1_0 a1_1) else (none)) else (quadrigalaw32_ClientTells.j1 kj3 a0 a2 y201 ((⟨#[101, 114, 114, 111, 114, 32]⟩ : ByteArray) ++ t204) false a1_0 a1_1)) else (none))) = some r := by first | (rw [hy201]; with_reducible exact H) | (have H2_ := (Option.bind_some _ _).symm.trans H; rw [hy201]; with_reducible exact H2_) | (have H2_ := (Option.bind_some _ _).symm.trans H; with_reducible exact H2_) | with_reducible exact H | (rw [hy201]; exact H) | exact H
        have Ny201 := Aside0.mk hy201
        clear hy201
        replace H := Option.bind_eq_some_iff.mp H
        obtain ⟨t204, A140, H⟩ := H
        replace H : (if 6 + t204.size ≤ 9223372036854775807 then (if a0 < (y201.length : Int) then (if 0 ≤ a0 then (quadrigalaw32_ClientTells.j1 kj3 a0 a2 y201 ((⟨#[101, 114, 114, 111, 114, 32]⟩ : ByteArray) ++ t204) ((rdOf ByteArray.empty y201 a0).toList != ([] : List UInt8)) a1_0 a1_1) else (none)) else (quadrigalaw32_ClientTells.j1 kj3 a0 a2 y201 ((⟨#[101, 114, 114, 111, 114, 32]⟩ : ByteArray) ++ t204) false a1_0 a1_1)) else (none)) = some r := H
        have A14 := Aside0.mk A140
        clear A140
        by_cases c15 : 6 + t204.size ≤ 9223372036854775807
        · rw [if_pos c15] at H
          have c15b0 := eq_true c15
          try (have c15s := c15; simp only [ByteArray.size_append] at c15s; have c15m := eq_false (Nat.not_lt.2 c15s); have c15t := eq_true c15s)
          have c15b1 : decide (6 + t204.size ≤ 9223372036854775807) = true := decide_eq_true c15
          try have c15b2 : (9223372036854775807 < 6 + t204.size) = False := eq_false (Nat.not_lt.2 c15)
          have HC16 := Aside0.mk H
          clear H
          go_upto_region 5 with (first | ((with_reducible refine gate_dst (N := 22) rfl ?_); refine Kd.R_lit Kd.string _ 9 ?hg (N := 22) ?hd (xs := ([(⟨#[111, 107]⟩ : ByteArray), (⟨#[]⟩ : ByteArray), (⟨#[]⟩ : ByteArray), (⟨#[]⟩ : ByteArray), (⟨#[102, 117, 108, 108]⟩ : ByteArray), (⟨#[108, 111, 103]⟩ : ByteArray), (⟨#[]⟩ : ByteArray), (⟨#[110, 111, 110, 101]⟩ : ByteArray), (⟨#[116, 104, 101, 114, 101]⟩ : ByteArray), (⟨#[]⟩ : ByteArray), (⟨#[119, 97, 105, 116]⟩ : ByteArray), (⟨#[100, 101, 97, 100]⟩ : ByteArray)] : List ByteArray)) (inner := [.string (⟨#[111, 107]⟩ : ByteArray), .string (⟨#[]⟩ : ByteArray), .string (⟨#[]⟩ : ByteArray), .string (⟨#[]⟩ : ByteArray), .string (⟨#[102, 117, 108, 108]⟩ : ByteArray), .string (⟨#[108, 111, 103]⟩ : ByteArray), .string (⟨#[]⟩ : ByteArray), .string (⟨#[110, 111, 110, 101]⟩ : ByteArray), .string (⟨#[116, 104, 101, 114, 101]⟩ : ByteArray), .string (⟨#[]⟩ : ByteArray), .string (⟨#[119, 97, 105, 116]⟩ : ByteArray), .string (⟨#[100, 101, 97, 100]⟩ : ByteArray)]) (ok := fun _ => True) (okp := fun _ => True) ?hr ?hp (fun _ hk => hk) trivial (Below.refl _ _) (Nat.le_refl _) (by simp) ?_; (case hd => rfl); (case hg => rfl); (case hr => first | (go_simp; done) | (go_simp; rfl)); (case hp => exact (Reps.one (show Kd.M Kd.string _ _ _ (⟨#[111, 107]⟩ : ByteArray) [.string (⟨#[111, 107]⟩ : ByteArray)] from rfl) (Reps.one (show Kd.M Kd.string _ _ _ (⟨#[]⟩ : ByteArray) [.string (⟨#[]⟩ : ByteArray)] from rfl) (Reps.one (show Kd.M Kd.string _ _ _ (⟨#[]⟩ : ByteArray) [.string (⟨#[]⟩ : ByteArray)] from rfl) (Reps.one (show Kd.M Kd.string _ _ _ (⟨#[]⟩ : ByteArray) [.string (⟨#[]⟩ : ByteArray)] from rfl) (Reps.one (show Kd.M Kd.string _ _ _ (⟨#[102, 117, 108, 108]⟩ : ByteArray) [.string (⟨#[102, 117, 108, 108]⟩ : ByteArray)] from rfl) (Reps.one (show Kd.M Kd.string _ _ _ (⟨#[108, 111, 103]⟩ : ByteArray) [.string (⟨#[108, 111, 103]⟩ : ByteArray)] from rfl) (Reps.one (show Kd.M Kd.string _ _ _ (⟨#[]⟩ : ByteArray) [.string (⟨#[]⟩ : ByteArray)] from rfl) (Reps.one (show Kd.M Kd.string _ _ _ (⟨#[110, 111, 110, 101]⟩ : ByteArray) [.string (⟨#[110, 111, 110, 101]⟩ : ByteArray)] from rfl) (Reps.one (show Kd.M Kd.string _ _ _ (⟨#[116, 104, 101, 114, 101]⟩ : ByteArray) [.string (⟨#[116, 104, 101, 114, 101]⟩ : ByteArray)] from rfl) (Reps.one (show Kd.M Kd.string _ _ _ (⟨#[]⟩ : ByteArray) [.string (⟨#[]⟩ : ByteArray)] from rfl) (Reps.one (show Kd.M Kd.string _ _ _ (⟨#[119, 97, 105, 116]⟩ : ByteArray) [.string (⟨#[119, 97, 105, 116]⟩ : ByteArray)] from rfl) (Reps.one (show Kd.M Kd.string _ _ _ (⟨#[100, 101, 97, 100]⟩ : ByteArray) [.string (⟨#[100, 101, 97, 100]⟩ : ByteArray)] from rfl) (Reps.none _ _)))))))))))))); intro v202 w17 ho18 hb hg_ hnew_; clear hg_ hnew_; (first | rw [← Ny201.out] at ho18 | (simp only [Int.reduceToNat] at ho18; rw [← Ny201.out] at ho18)); have n0_ := Aside0.mk (Kd.R_lower ho18 (below_size (by repeat (first | (with_reducible first | exact HB.out | apply below_alloc | apply pw_below_drewN | apply below_drew1 | refine below_set ?_ GE199.out) | exact HB.out)))); have n1_ := Aside0.mk (blk_below (g := gb199) (o := .cells #[.bool a1_0, .string a1_1] 23 (0, 0)) (by (with_reducible repeat (first | refine blk_drewN ?_ _ | refine blk_drew ?_ | refine blk_alloc ?_ _)); exact BK199.out) hb); have n2_ := Aside0.mk (below_step (by repeat (first | (with_reducible first | exact HB.out | apply below_alloc | apply pw_below_drewN | apply below_drew1 | refine below_set ?_ GE199.out) | exact HB.out)) hb); clear BK199; clear HB; have HO203 := n0_; have BK199 := n1_; have HB := n2_; clear n0_ n1_ n2_; clear hb ho18) | ((with_reducible refine gate_callee (f := 6) rfl ?_); refine goesL_ (some 24) rfl rfl Tryd.func6 (by kernel_rfl) rfl #[.int .i64 a0] rfl (by (try simp only [List.map_toArray, List.map_cons, List.map_nil]); first | done | rfl | (simp only [List.length_drop, List.length_take]; rfl)) ?_; (with_reducible refine (quadrigaref25_Number.calls kj3 a0 t204 _ A14.out).mono ?_); rintro e w19 ⟨rfl, hb⟩; refine ⟨_, rfl, ?_⟩; have n0_ := Aside0.mk (Kd.R_below (by (with_reducible repeat (first | apply Kd.R_alloc | apply Kd.R_drewN | apply Kd.R_drew)); exact HO203.out) hb); have n1_ := Aside0.mk (blk_below (g := gb199) (o := .cells #[.bool a1_0, .string a1_1] 23 (0, 0)) (by (with_reducible repeat (first | refine blk_drewN ?_ _ | refine blk_drew ?_ | refine blk_alloc ?_ _)); exact BK199.out) hb); have n2_ := Aside0.mk (below_step (by repeat (first | (with_reducible first | exact HB.out | apply below_alloc | apply pw_below_drewN | apply below_drew1 | refine below_set ?_ GE199.out) | exact HB.out)) hb); clear HO203; clear BK199; clear HB; have HO203 := n0_; have BK199 := n1_; have HB := n2_; clear n0_ n1_ n2_; (try clear hb); (try clear hb2); (try clear hk); (try clear hi)))
          (try simp only [Act.put, List.setIfInBounds_toArray, List.set_cons_zero, List.set_cons_succ])
          go_cut [36] (fun v36 wc => ∃ (kq : Nat) (x36_15 : Bool), v36 = .bool x36_15 ∧ Aside0 (quadrigalaw32_ClientTells.j1 kq a0 a2 y201 ((⟨#[101, 114, 114, 111, 114, 32]⟩ : ByteArray) ++ t204) x36_15 a1_0 a1_1 = some r) ∧ Aside0 (kq ≤ kj3) ∧ Aside0 (Kd.R Kd.string 9 wc w.heap.size (fun _ => True) v202 y201) ∧ Aside0 (wc.heap[gb199]? = some (.cells #[.bool a1_0, .string a1_1] 23 (0, 0))) ∧ Aside0 (Below w.heap.size w wc))
          case first =>
            have H := HC16.out
            clear HC16
            by_cases c20 : a0 < (y201.length : Int)
            · rw [if_pos c20] at H
              have c20b0 : decide (a0 < (y201.length : Int)) = true := decide_eq_true c20
              clear c20
              (first | rw [c20b0] | (simp only [i64_w, i32_w]; rw [c20b0]) | skip)
              by_cases c21 : 0 ≤ a0
              · rw [if_pos c21] at H
                have c21b0 : decide (0 ≤ a0) = true := decide_eq_true c21
                clear c21
                have H' := Aside0.mk H
                clear H
                obtain ⟨Ao22, co22, eo22⟩ := Kd.R_slice HO203.out
                subst eo22
                have p205 : 0 ≤ (a0 : Int) := of_decide_eq_true (by first | (with_reducible assumption) | assumption)
                have q205 : a0 < (y201.length : Int) := of_decide_eq_true (by first | (with_reducible assumption) | assumption)
                obtain ⟨ad205, e205, hx205_0⟩ := Kd.at_string (Kd.R_reads' HO203.out).2.2 a0 p205 q205
                cases e205
                replace p205 := eq_true p205
                replace q205 := eq_true q205
                go_wp2
                go_meet
                case rel => exact ⟨_, (((rdOf ByteArray.empty y201 a0).toList != ([] : List UInt8))), (by first | rfl | (simp; done) | (simp [*]; done) | (simp; exact isE_c0_ _)), H', ⟨by have := HJ3.out; first | omega | exact Nat.le_refl _⟩, ⟨by (with_reducible repeat (first | apply Kd.R_alloc | apply Kd.R_drewN | apply Kd.R_drew)); exact HO203.out⟩, ⟨by (with_reducible repeat (first | refine blk_drewN ?_ _ | refine blk_drew ?_ | refine blk_alloc ?_ _)); exact BK199.out⟩, ⟨by repeat (first | (with_reducible first | exact HB.out | apply below_alloc | apply pw_below_drewN | apply below_drew1 | refine below_set ?_ GE199.out) | exact HB.out)⟩⟩
              · rw [if_neg c21] at H
                exact absurd H (by simp)
            · rw [if_neg c20] at H
              have c20b0 : decide (a0 < (y201.length : Int)) = false := decide_eq_false c20
              clear c20
              (first | rw [c20b0] | (simp only [i64_w, i32_w]; rw [c20b0]) | skip)
              have H' := Aside0.mk H
              clear H
              obtain ⟨Ao23, co23, eo23⟩ := Kd.R_slice HO203.out
              subst eo23
              go_wp2
              go_meet
              case rel => exact ⟨_, (false), (by first | rfl | (simp; done) | (simp [*]; done) | (simp; exact isE_c0_ _)), H', ⟨by have := HJ3.out; first | omega | exact Nat.le_refl _⟩, ⟨by (with_reducible repeat (first | apply Kd.R_alloc | apply Kd.R_drewN | apply Kd.R_drew)); exact HO203.out⟩, ⟨by (with_reducible repeat (first | refine blk_drewN ?_ _ | refine blk_drew ?_ | refine blk_alloc ?_ _)); exact BK199.out⟩, ⟨by repeat (first | (with_reducible first | exact HB.out | apply below_alloc | apply pw_below_drewN | apply below_drew1 | refine below_set ?_ GE199.out) | exact HB.out)⟩⟩
          case rest =>
            clear HC16
            try clear c1
            try clear c2
            try clear p2
            try clear q2
            try clear hx2
            try clear c3
            try clear c5
            try clear c6
            try clear c6b0
            try clear c6b1
            try clear c8
            try clear c8b0
            try clear c11
            try clear c15
            try clear c15b0
            try clear c15b1
            try clear c15b2
            try clear c20
            try clear c20b0
            try clear p20
            try clear q20
            try clear hx20
            try clear c21
            try clear c21b0
            try clear hcz10_0
            try clear hcz10_1
            try clear hcz7_0
            try clear hcz7_1
            try clear hcz9_0
            try clear hcz9_1
            try clear hfz10_0
            try clear hfz10_1
            try clear hfz7_0
            try clear hfz7_1
            try clear hfz9_0
            try clear hfz9_1
            try clear hx205_0
            try clear p2
            try clear p205
            try clear q205
            obtain ⟨kq, x36_15, rfl, HA, HJ15, HO_7, BK199, HB⟩ := hcut
            cases kq with
            | zero => exact absurd HA.out (by simp [quadrigalaw32_ClientTells.j1])
            | succ kj15 =>
              have H := HA.out
              clear HA
              simp only [quadrigalaw32_ClientTells.j1] at H
              have HC24 := Aside0.mk H
              clear H
              go_upto_if 36 with (fail)
              go_cut [8] (fun v8 wc => ∃ (kq : Nat) (x8_23 : ByteArray), v8 = .string x8_23 ∧ Aside0 (quadrigalaw32_ClientTells.j2 kq a0 a2 x8_23 a1_0 a1_1 = some r) ∧ Aside0 (kq ≤ kj15) ∧ Aside0 (wc.heap[gb199]? = some (.cells #[.bool a1_0, .string a1_1] 23 (0, 0))) ∧ Aside0 (Below w.heap.size w wc))
              case first =>
                have H := HC24.out
                clear HC24
                by_cases c25 : x36_15 = true
                · subst c25
                  have H1 : (if 0 ≤ a0 then (if a0 < (y201.length : Int) then (quadrigalaw32_ClientTells.j2 kj15 a0 a2 (rdOf ByteArray.empty y201 a0) a1_0 a1_1) else (none)) else (none)) = some r := by rw [if_pos rfl] at H; exact H
                  clear H
                  have H := H1
                  clear H1
                  by_cases c26 : 0 ≤ a0
                  · rw [if_pos c26] at H
                    have c26b0 : decide (0 ≤ a0) = true := decide_eq_true c26
                    clear c26
                    (first | rw [c26b0] | (simp only [i64_w, i32_w]; rw [c26b0]) | skip)
                    by_cases c27 : a0 < (y201.length : Int)
                    · rw [if_pos c27] at H
                      have c27b0 : decide (a0 < (y201.length : Int)) = true := decide_eq_true c27
                      clear c27
                      have H' := Aside0.mk H
                      clear H
                      obtain ⟨Ao28, co28, eo28⟩ := Kd.R_slice HO_7.out
                      subst eo28
                      have p206 : 0 ≤ (a0 : Int) := of_decide_eq_true (by first | (with_reducible assumption) | assumption)
                      have q206 : a0 < (y201.length : Int) := of_decide_eq_true (by first | (with_reducible assumption) | assumption)
                      obtain ⟨ad206, e206, hx206_0⟩ := Kd.at_string (Kd.R_reads' HO_7.out).2.2 a0 p206 q206
                      cases e206
                      replace p206 := eq_true p206
                      replace q206 := eq_true q206
                      go_wp2
                      go_meet
                      case rel => exact ⟨_, (rdOf ByteArray.empty y201 a0), (by first | rfl | (simp; done) | (simp [*]; done) | (simp; exact isE_c0_ _)), H', ⟨by have := HJ3.out; have := HJ15.out; first | omega | exact Nat.le_refl _⟩, ⟨by (with_reducible repeat (first | refine blk_drewN ?_ _ | refine blk_drew ?_ | refine blk_alloc ?_ _)); exact BK199.out⟩, ⟨by repeat (first | (with_reducible first | exact HB.out | apply below_alloc | apply pw_below_drewN | apply below_drew1 | refine below_set ?_ GE199.out) | exact HB.out)⟩⟩
                    · rw [if_neg c27] at H
                      exact absurd H (by simp)
                  · rw [if_neg c26] at H
                    exact absurd H (by simp)
                · replace c25 := Bool.eq_false_iff.mpr c25
                  subst c25
                  have H1 : (quadrigalaw32_ClientTells.j2 kj15 a0 a2 ((⟨#[101, 114, 114, 111, 114, 32]⟩ : ByteArray) ++ t204) a1_0 a1_1) = some r := by rw [if_neg (show ¬ (false = true) by decide)] at H; exact H
                  clear H
                  have H := H1
                  clear H1
                  have H' := Aside0.mk H
                  clear H
                  go_wp2
                  go_meet
                  case rel => exact ⟨_, (((⟨#[101, 114, 114, 111, 114, 32]⟩ : ByteArray) ++ t204)), (by first | rfl | (simp; done) | (simp [*]; done) | (simp; exact isE_c0_ _)), H', ⟨by have := HJ3.out; have := HJ15.out; first | omega | exact Nat.le_refl _⟩, ⟨by (with_reducible repeat (first | refine blk_drewN ?_ _ | refine blk_drew ?_ | refine blk_alloc ?_ _)); exact BK199.out⟩, ⟨by repeat (first | (with_reducible first | exact HB.out | apply below_alloc | apply pw_below_drewN | apply below_drew1 | refine below_set ?_ GE199.out) | exact HB.out)⟩⟩
              case rest =>
                clear HC24
                try clear c1
                try clear c2
                try clear p2
                try clear q2
                try clear hx2
                try clear c3
                try clear c5
                try clear c6
                try clear c6b0
                try clear c6b1
                try clear c8
                try clear c8b0
                try clear c11
                try clear c15
                try clear c15b0
                try clear c15b1
                try clear c15b2
                try clear c20
                try clear c20b0
                try clear p20
                try clear q20
                try clear hx20
                try clear c21
                try clear c21b0
                try clear c25
                try clear c26
                try clear c26b0
                try clear c27
                try clear c27b0
                try clear hcz10_0
                try clear hcz10_1
                try clear hcz7_0
                try clear hcz7_1
                try clear hcz9_0
                try clear hcz9_1
                try clear hfz10_0
                try clear hfz10_1
                try clear hfz7_0
                try clear hfz7_1
                try clear hfz9_0
                try clear hfz9_1
                try clear hx205_0
                try clear hx206_0
                try clear p2
                try clear p20
                try clear p205
                try clear p206
                try clear q2
                try clear q20
                try clear q205
                try clear q206
                obtain ⟨kq, x8_23, rfl, HA, HJ23, BK199, HB⟩ := hcut
                cases kq with
                | zero => exact absurd HA.out (by simp [quadrigalaw32_ClientTells.j2])
                | succ kj23 =>
                  have H := HA.out
                  clear HA
                  simp only [quadrigalaw32_ClientTells.j2] at H
                  have HC29 := Aside0.mk H
                  clear H
                  go_upto_region 7 with (fail)
                  go_cut [46] (fun v46 wc => ∃ (kq : Nat) (x46_28 : Bool), v46 = .bool x46_28 ∧ Aside0 (quadrigalaw32_ClientTells.j3 kq a0 a2 x8_23 x46_28 a1_0 a1_1 = some r) ∧ Aside0 (kq ≤ kj23) ∧ Aside0 (wc.heap[gb199]? = some (.cells #[.bool a1_0, .string a1_1] 23 (0, 0))) ∧ Aside0 (Below w.heap.size w wc))
                  case first =>
                    have H := HC29.out
                    clear HC29
                    by_cases c30 : a0 = 0
                    · rw [if_pos c30] at H
                      have c30b0 : (a0 == 0) = true := beq_iff_eq.mpr c30
                      have c30b1 : (a0 != 0) = false := bne_eq_false_iff_eq.mpr c30
                      clear c30
                      (first | rw [c30b0] | (simp only [i64_w, i32_w]; rw [c30b0]) | skip)
                      have H' := Aside0.mk H
                      clear H
                      have hcz31_0 : wc.cell? ⟨gb199, 0, none⟩ = some (.bool a1_0) := (blk_cell BK199.out 0).trans rfl
                      have hcz31_1 : wc.cell? ⟨gb199, 1, none⟩ = some (.string a1_1) := (blk_cell BK199.out 1).trans rfl
                      have hfz31_0 := blk_frozen BK199.out 0
                      have hfz31_1 := blk_frozen BK199.out 1
                      go_wp2
                      go_meet
                      case rel => exact ⟨_, (a1_0), (by first | rfl | (simp; done) | (simp [*]; done) | (simp; exact isE_c0_ _)), H', ⟨by have := HJ3.out; have := HJ15.out; have := HJ23.out; first | omega | exact Nat.le_refl _⟩, ⟨by (with_reducible repeat (first | refine blk_drewN ?_ _ | refine blk_drew ?_ | refine blk_alloc ?_ _)); exact BK199.out⟩, ⟨by repeat (first | (with_reducible first | exact HB.out | apply below_alloc | apply pw_below_drewN | apply below_drew1 | refine below_set ?_ GE199.out) | exact HB.out)⟩⟩
                    · rw [if_neg c30] at H
                      have c30b0 : (a0 == 0) = false := beq_eq_false_iff_ne.mpr c30
                      have c30b1 : (a0 != 0) = true := bne_iff_ne.mpr c30
                      (first | rw [c30b0] | (simp only [i64_w, i32_w]; rw [c30b0]) | skip)
                      have H' := Aside0.mk H
                      clear H
                      go_wp2
                      go_meet
                      case rel => exact ⟨_, (false), (by first | rfl | (simp; done) | (simp [*]; done) | (simp; exact isE_c0_ _)), H', ⟨by have := HJ3.out; have := HJ15.out; have := HJ23.out; first | omega | exact Nat.le_refl _⟩, ⟨by (with_reducible repeat (first | refine blk_drewN ?_ _ | refine blk_drew ?_ | refine blk_alloc ?_ _)); exact BK199.out⟩, ⟨by repeat (first | (with_reducible first | exact HB.out | apply below_alloc | apply pw_below_drewN | apply below_drew1 | refine below_set ?_ GE199.out) | exact HB.out)⟩⟩
                  case rest =>
                    clear HC29
                    try clear c1
                    try clear c2
                    try clear p2
                    try clear q2
                    try clear hx2
                    try clear c3
                    try clear c5
                    try clear c6
                    try clear c6b0
                    try clear c6b1
                    try clear c8
                    try clear c8b0
                    try clear c11
                    try clear c15
                    try clear c15b0
                    try clear c15b1
                    try clear c15b2
                    try clear c20
                    try clear c20b0
                    try clear p20
                    try clear q20
                    try clear hx20
                    try clear c21
                    try clear c21b0
                    try clear c25
                    try clear c26
                    try clear c26b0
                    try clear c27
                    try clear c27b0
                    try clear c30
                    try clear c30b0
                    try clear c30b1
                    try clear hcz10_0
                    try clear hcz10_1
                    try clear hcz31_0
                    try clear hcz31_1
                    try clear hcz7_0
                    try clear hcz7_1
                    try clear hcz9_0
                    try clear hcz9_1
                    try clear hfz10_0
                    try clear hfz10_1
                    try clear hfz31_0
                    try clear hfz31_1
                    try clear hfz7_0
                    try clear hfz7_1
                    try clear hfz9_0
                    try clear hfz9_1
                    try clear hx205_0
                    try clear hx206_0
                    try clear p2
                    try clear p20
                    try clear p205
                    try clear p206
                    try clear q2
                    try clear q20
                    try clear q205
                    try clear q206
                    obtain ⟨kq, x46_28, rfl, HA, HJ28, BK199, HB⟩ := hcut
                    cases kq with
                    | zero => exact absurd HA.out (by simp [quadrigalaw32_ClientTells.j3])
                    | succ kj28 =>
                      have H := HA.out
                      clear HA
                      simp only [quadrigalaw32_ClientTells.j3] at H
                      have HC32 := Aside0.mk H
                      clear H
                      go_upto_if 46 with (fail)
                      go_cut [8] (fun v8 wc => ∃ (kq : Nat) (x8_31 : ByteArray), v8 = .string x8_31 ∧ Aside0 (quadrigalaw32_ClientTells.j4 kq a0 a2 x8_31 a1_0 a1_1 = some r) ∧ Aside0 (kq ≤ kj28) ∧ Aside0 (wc.heap[gb199]? = some (.cells #[.bool a1_0, .string a1_1] 23 (0, 0))) ∧ Aside0 (Below w.heap.size w wc))
                      case first =>
                        have H := HC32.out
                        clear HC32
                        by_cases c33 : x46_28 = true
                        · subst c33
                          have H1 : (if x8_23.size + 1 ≤ 9223372036854775807 then ((quadrigaref32_Text.f kj28 a1_1).bind fun t207 => (if (x8_23 ++ (⟨#[32]⟩ : ByteArray)).size + t207.size ≤ 9223372036854775807 then (quadrigalaw32_ClientTells.j4 kj28 a0 a2 ((x8_23 ++ (⟨#[32]⟩ : ByteArray)) ++ t207) a1_0 a1_1) else (none))) else (none)) = some r := by rw [if_pos rfl] at H; exact H
                          clear H
                          have H := H1
                          clear H1
                          by_cases c34 : x8_23.size + 1 ≤ 9223372036854775807
                          · rw [if_pos c34] at H
                            have c34b0 := eq_true c34
                            try (have c34s := c34; simp only [ByteArray.size_append] at c34s; have c34m := eq_false (Nat.not_lt.2 c34s); have c34t := eq_true c34s)
                            have c34b1 : decide (x8_23.size + 1 ≤ 9223372036854775807) = true := decide_eq_true c34
                            try have c34b2 : (9223372036854775807 < x8_23.size + 1) = False := eq_false (Nat.not_lt.2 c34)
                            replace H := Option.bind_eq_some_iff.mp H
                            obtain ⟨t207, A350, H⟩ := H
                            replace H : (if (x8_23 ++ (⟨#[32]⟩ : ByteArray)).size + t207.size ≤ 9223372036854775807 then (quadrigalaw32_ClientTells.j4 kj28 a0 a2 ((x8_23 ++ (⟨#[32]⟩ : ByteArray)) ++ t207) a1_0 a1_1) else (none)) = some r := H
                            have A35 := Aside0.mk A350
                            clear A350
                            by_cases c36 : (x8_23 ++ (⟨#[32]⟩ : ByteArray)).size + t207.size ≤ 9223372036854775807
                            · rw [if_pos c36] at H
                              have c36b0 := eq_true c36
                              try (have c36s := c36; simp only [ByteArray.size_append] at c36s; have c36m := eq_false (Nat.not_lt.2 c36s); have c36t := eq_true c36s)
                              try (have c36u := c36; simp only [ByteArray.size_append, show (⟨#[32]⟩ : ByteArray).size = 1 from rfl] at c36u; have c36v := eq_false (Nat.not_lt.2 c36u); have c36w := eq_true c36u)
                              have c36b1 : decide ((x8_23 ++ (⟨#[32]⟩ : ByteArray)).size + t207.size ≤ 9223372036854775807) = true := decide_eq_true c36
                              try have c36b2 : (9223372036854775807 < (x8_23 ++ (⟨#[32]⟩ : ByteArray)).size + t207.size) = False := eq_false (Nat.not_lt.2 c36)
                              have H' := Aside0.mk H
                              clear H
                              have hcz37_0 : wc.cell? ⟨gb199, 0, none⟩ = some (.bool a1_0) := (blk_cell BK199.out 0).trans rfl
                              have hcz37_1 : wc.cell? ⟨gb199, 1, none⟩ = some (.string a1_1) := (blk_cell BK199.out 1).trans rfl
                              have hfz37_0 := blk_frozen BK199.out 0
                              have hfz37_1 := blk_frozen BK199.out 1
                              go_wp2_with (first | ((with_reducible refine gate_callee (f := 7) rfl ?_); refine goesL_ (some 51) rfl rfl Tryd.func7 (by kernel_rfl) rfl #[.string a1_1] rfl (by (try simp only [List.map_toArray, List.map_cons, List.map_nil]); first | done | rfl | (simp only [List.length_drop, List.length_take]; rfl)) ?_; (with_reducible refine (quadrigaref32_Text.calls kj28 a1_1 t207 _ A35.out).mono ?_); rintro e w38 ⟨rfl, hb⟩; refine ⟨_, rfl, ?_⟩; have n0_ := Aside0.mk (blk_below (g := gb199) (o := .cells #[.bool a1_0, .string a1_1] 23 (0, 0)) (by (with_reducible repeat (first | refine blk_drewN ?_ _ | refine blk_drew ?_ | refine blk_alloc ?_ _)); exact BK199.out) hb); have n1_ := Aside0.mk (below_step (by repeat (first | (with_reducible first | exact HB.out | apply below_alloc | apply pw_below_drewN | apply below_drew1 | refine below_set ?_ GE199.out) | exact HB.out)) hb); clear BK199; clear HB; have BK199 := n0_; have HB := n1_; clear n0_ n1_; (try clear hb); (try clear hb2); (try clear hk); (try clear hi)))
                              go_meet
                              case rel => exact ⟨_, ((x8_23 ++ (⟨#[32]⟩ : ByteArray)) ++ t207), (by first | rfl | (simp; done) | (simp [*]; done) | (simp; exact isE_c0_ _)), H', ⟨by have := HJ3.out; have := HJ15.out; have := HJ23.out; have := HJ28.out; first | omega | exact Nat.le_refl _⟩, ⟨by (with_reducible repeat (first | refine blk_drewN ?_ _ | refine blk_drew ?_ | refine blk_alloc ?_ _)); exact BK199.out⟩, ⟨by repeat (first | (with_reducible first | exact HB.out | apply below_alloc | apply pw_below_drewN | apply below_drew1 | refine below_set ?_ GE199.out) | exact HB.out)⟩⟩
                            · rw [if_neg c36] at H
                              exact absurd H (by simp)
                          · rw [if_neg c34] at H
                            exact absurd H (by simp)
                        · replace c33 := Bool.eq_false_iff.mpr c33
                          subst c33
                          have H1 : (quadrigalaw32_ClientTells.j4 kj28 a0 a2 x8_23 a1_0 a1_1) = some r := by rw [if_neg (show ¬ (false = true) by decide)] at H; exact H
                          clear H
                          have H := H1
                          clear H1
                          have H' := Aside0.mk H
                          clear H
                          go_wp2
                          go_meet
                          case rel => exact ⟨_, (x8_23), (by first | rfl | (simp; done) | (simp [*]; done) | (simp; exact isE_c0_ _)), H', ⟨by have := HJ3.out; have := HJ15.out; have := HJ23.out; have := HJ28.out; first | omega | exact Nat.le_refl _⟩, ⟨by (with_reducible repeat (first | refine blk_drewN ?_ _ | refine blk_drew ?_ | refine blk_alloc ?_ _)); exact BK199.out⟩, ⟨by repeat (first | (with_reducible first | exact HB.out | apply below_alloc | apply pw_below_drewN | apply below_drew1 | refine below_set ?_ GE199.out) | exact HB.out)⟩⟩
                      case rest =>
                        clear HC32
                        try clear c1
                        try clear c2
                        try clear p2
                        try clear q2
                        try clear hx2
                        try clear c3
                        try clear c5
                        try clear c6
                        try clear c6b0
                        try clear c6b1
                        try clear c7
                        try clear c8
                        try clear c8b0
                        try clear c11
                        try clear c15
                        try clear c15b0
                        try clear c15b1
                        try clear c15b2
                        try clear c20
                        try clear c20b0
                        try clear p20
                        try clear q20
                        try clear hx20
                        try clear c21
                        try clear c21b0
                        try clear c25
                        try clear c26
                        try clear c26b0
                        try clear c27
                        try clear c27b0
                        try clear c30
                        try clear c30b0
                        try clear c30b1
                        try clear c33
                        try clear c34
                        try clear c34b0
                        try clear c34b1
                        try clear c34b2
                        try clear c36
                        try clear c36b0
                        try clear c36b1
                        try clear c36b2
                        try clear hcz10_0
                        try clear hcz10_1
                        try clear hcz31_0
                        try clear hcz31_1
                        try clear hcz37_0
                        try clear hcz37_1
                        try clear hcz7_0
                        try clear hcz7_1
                        try clear hcz9_0
                        try clear hcz9_1
                        try clear hfz10_0
                        try clear hfz10_1
                        try clear hfz31_0
                        try clear hfz31_1
                        try clear hfz37_0
                        try clear hfz37_1
                        try clear hfz7_0
                        try clear hfz7_1
                        try clear hfz9_0
                        try clear hfz9_1
                        try clear hx205_0
                        try clear hx206_0
                        try clear p2
                        try clear p20
                        try clear p205
                        try clear p206
                        try clear q2
                        try clear q20
                        try clear q205
                        try clear q206
                        obtain ⟨kq, x8_31, rfl, HA, HJ31, BK199, HB⟩ := hcut
                        cases kq with
                        | zero => exact absurd HA.out (by simp [quadrigalaw32_ClientTells.j4])
                        | succ kj31 =>
                          have H := HA.out
                          clear HA
                          simp only [quadrigalaw32_ClientTells.j4] at H
                          have HC39 := Aside0.mk H
                          clear H
                          go_upto_region 9 with (fail)
                          go_cut [58] (fun v58 wc => ∃ (kq : Nat) (x58_38 : Bool), v58 = .bool x58_38 ∧ Aside0 (quadrigalaw32_ClientTells.j5 kq a0 a2 x8_31 x58_38 a1_0 a1_1 = some r) ∧ Aside0 (kq ≤ kj31) ∧ Aside0 (wc.heap[gb199]? = some (.cells #[.bool a1_0, .string a1_1] 23 (0, 0))) ∧ Aside0 (Below w.heap.size w wc))
                          case first =>
                            have H := HC39.out
                            clear HC39
                            by_cases c40 : a0 = 0
                            · rw [if_pos c40] at H
                              have c40b0 : (a0 == 0) = true := beq_iff_eq.mpr c40
                              have c40b1 : (a0 != 0) = false := bne_eq_false_iff_eq.mpr c40
                              clear c40
                              (first | rw [c40b0] | (simp only [i64_w, i32_w]; rw [c40b0]) | skip)
                              have H' := Aside0.mk H
                              clear H
                              go_wp2
                              go_meet
                              case rel => exact ⟨_, ((a2 != 0)), (by first | rfl | (simp; done) | (simp [*]; done) | (simp; exact isE_c0_ _)), H', ⟨by have := HJ3.out; have := HJ15.out; have := HJ23.out; have := HJ28.out; have := HJ31.out; first | omega | exact Nat.le_refl _⟩, ⟨by (with_reducible repeat (first | refine blk_drewN ?_ _ | refine blk_drew ?_ | refine blk_alloc ?_ _)); exact BK199.out⟩, ⟨by repeat (first | (with_reducible first | exact HB.out | apply below_alloc | apply pw_below_drewN | apply below_drew1 | refine below_set ?_ GE199.out) | exact HB.out)⟩⟩
                            · rw [if_neg c40] at H
                              have c40b0 : (a0 == 0) = false := beq_eq_false_iff_ne.mpr c40
                              have c40b1 : (a0 != 0) = true := bne_iff_ne.mpr c40
                              (first | rw [c40b0] | (simp only [i64_w, i32_w]; rw [c40b0]) | skip)
                              have H' := Aside0.mk H
                              clear H
                              go_wp2
                              go_meet
                              case rel => exact ⟨_, (false), (by first | rfl | (simp; done) | (simp [*]; done) | (simp; exact isE_c0_ _)), H', ⟨by have := HJ3.out; have := HJ15.out; have := HJ23.out; have := HJ28.out; have := HJ31.out; first | omega | exact Nat.le_refl _⟩, ⟨by (with_reducible repeat (first | refine blk_drewN ?_ _ | refine blk_drew ?_ | refine blk_alloc ?_ _)); exact BK199.out⟩, ⟨by repeat (first | (with_reducible first | exact HB.out | apply below_alloc | apply pw_below_drewN | apply below_drew1 | refine below_set ?_ GE199.out) | exact HB.out)⟩⟩
                          case rest =>
                            clear HC39
                            try clear c1
                            try clear c2
                            try clear p2
                            try clear q2
                            try clear hx2
                            try clear c3
                            try clear c4
                            try clear c5
                            try clear c6
                            try clear c6b0
                            try clear c6b1
                            try clear c7
                            try clear c8
                            try clear c8b0
                            try clear c11
                            try clear c15
                            try clear c15b0
                            try clear c15b1
                            try clear c15b2
                            try clear c20
                            try clear c20b0
                            try clear p20
                            try clear q20
                            try clear hx20
                            try clear c21
                            try clear c21b0
                            try clear c25
                            try clear c26
                            try clear c26b0
                            try clear c27
                            try clear c27b0
                            try clear c30
                            try clear c30b0
                            try clear c30b1
                            try clear c33
                            try clear c34
                            try clear c34b0
                            try clear c34b1
                            try clear c34b2
                            try clear c36
                            try clear c36b0
                            try clear c36b1
                            try clear c36b2
                            try clear c40
                            try clear c40b0
                            try clear c40b1
                            try clear hcz10_0
                            try clear hcz10_1
                            try clear hcz31_0
                            try clear hcz31_1
                            try clear hcz37_0
                            try clear hcz37_1
                            try clear hcz7_0
                            try clear hcz7_1
                            try clear hcz9_0
                            try clear hcz9_1
                            try clear hfz10_0
                            try clear hfz10_1
                            try clear hfz31_0
                            try clear hfz31_1
                            try clear hfz37_0
                            try clear hfz37_1
                            try clear hfz7_0
                            try clear hfz7_1
                            try clear hfz9_0
                            try clear hfz9_1
                            try clear hx205_0
                            try clear hx206_0
                            try clear p2
                            try clear p20
                            try clear p205
                            try clear p206
                            try clear q2
                            try clear q20
                            try clear q205
                            try clear q206
                            obtain ⟨kq, x58_38, rfl, HA, HJ38, BK199, HB⟩ := hcut
                            cases kq with
                            | zero => exact absurd HA.out (by simp [quadrigalaw32_ClientTells.j5])
                            | succ kj38 =>
                              have H := HA.out
                              clear HA
                              simp only [quadrigalaw32_ClientTells.j5] at H
                              by_cases c41 : x58_38 = true
                              · subst c41
                                have H1 : (if x8_31.size + 2 ≤ 9223372036854775807 then ((quadrigaref25_Number.f kj38 a2).bind fun t208 => (if (x8_31 ++ (⟨#[32, 64]⟩ : ByteArray)).size + t208.size ≤ 9223372036854775807 then ((client_Tell.f a0 a1_0 a1_1 a2).bind fun t209 => (if t209.toList = ((x8_31 ++ (⟨#[32, 64]⟩ : ByteArray)) ++ t208).toList then ((quadrigalaw32_awake.f).bind fun t210 => (some t210)) else (some false))) else (none))) else (none)) = some r := by rw [if_pos rfl] at H; exact H
                                clear H
                                have H := H1
                                clear H1
                                by_cases c42 : x8_31.size + 2 ≤ 9223372036854775807
                                · rw [if_pos c42] at H
                                  have c42b0 := eq_true c42
                                  try (have c42s := c42; simp only [ByteArray.size_append] at c42s; have c42m := eq_false (Nat.not_lt.2 c42s); have c42t := eq_true c42s)
                                  have c42b1 : decide (x8_31.size + 2 ≤ 9223372036854775807) = true := decide_eq_true c42
                                  try have c42b2 : (9223372036854775807 < x8_31.size + 2) = False := eq_false (Nat.not_lt.2 c42)
                                  replace H := Option.bind_eq_some_iff.mp H
                                  obtain ⟨t208, A430, H⟩ := H
                                  replace H : (if (x8_31 ++ (⟨#[32, 64]⟩ : ByteArray)).size + t208.size ≤ 9223372036854775807 then ((client_Tell.f a0 a1_0 a1_1 a2).bind fun t209 => (if t209.toList = ((x8_31 ++ (⟨#[32, 64]⟩ : ByteArray)) ++ t208).toList then ((quadrigalaw32_awake.f).bind fun t210 => (some t210)) else (some false))) else (none)) = some r := H
                                  have A43 := Aside0.mk A430
                                  clear A430
                                  by_cases c44 : (x8_31 ++ (⟨#[32, 64]⟩ : ByteArray)).size + t208.size ≤ 9223372036854775807
                                  · rw [if_pos c44] at H
                                    have c44b0 := eq_true c44
                                    try (have c44s := c44; simp only [ByteArray.size_append] at c44s; have c44m := eq_false (Nat.not_lt.2 c44s); have c44t := eq_true c44s)
                                    try (have c44u := c44; simp only [ByteArray.size_append, show (⟨#[32, 64]⟩ : ByteArray).size = 2 from rfl] at c44u; have c44v := eq_false (Nat.not_lt.2 c44u); have c44w := eq_true c44u)
                                    have c44b1 : decide ((x8_31 ++ (⟨#[32, 64]⟩ : ByteArray)).size + t208.size ≤ 9223372036854775807) = true := decide_eq_true c44
                                    try have c44b2 : (9223372036854775807 < (x8_31 ++ (⟨#[32, 64]⟩ : ByteArray)).size + t208.size) = False := eq_false (Nat.not_lt.2 c44)
                                    replace H := Option.bind_eq_some_iff.mp H
                                    obtain ⟨t209, A450, H⟩ := H
                                    replace H : (if t209.toList = ((x8_31 ++ (⟨#[32, 64]⟩ : ByteArray)) ++ t208).toList then ((quadrigalaw32_awake.f).bind fun t210 => (some t210)) else (some false)) = some r := H
                                    have A45 := Aside0.mk A450
                                    clear A450
                                    by_cases c46 : t209.toList = ((x8_31 ++ (⟨#[32, 64]⟩ : ByteArray)) ++ t208).toList
                                    · rw [if_pos c46] at H
                                      have c46b0 : (t209.toList == ((x8_31 ++ (⟨#[32, 64]⟩ : ByteArray)) ++ t208).toList) = true := beq_iff_eq.mpr c46
                                      have c46b1 : (t209.toList != ((x8_31 ++ (⟨#[32, 64]⟩ : ByteArray)) ++ t208).toList) = false := bne_eq_false_iff_eq.mpr c46
                                      clear c46
                                      replace H := Option.bind_eq_some_iff.mp H
                                      obtain ⟨t210, A470, H⟩ := H
                                      replace H : (some t210) = some r := H
                                      have A47 := Aside0.mk A470
                                      clear A470
                                      obtain rfl := Option.some.inj H
                                      go_wp2_with (first | ((with_reducible refine gate_callee (f := 6) rfl ?_); refine goesL_ (some 62) rfl rfl Tryd.func6 (by kernel_rfl) rfl #[.int .i64 a2] rfl (by (try simp only [List.map_toArray, List.map_cons, List.map_nil]); first | done | rfl | (simp only [List.length_drop, List.length_take]; rfl)) ?_; (with_reducible refine (quadrigaref25_Number.calls kj38 a2 t208 _ A43.out).mono ?_); rintro e w48 ⟨rfl, hb⟩; refine ⟨_, rfl, ?_⟩; have n0_ := Aside0.mk (blk_below (g := gb199) (o := .cells #[.bool a1_0, .string a1_1] 23 (0, 0)) (by (with_reducible repeat (first | refine blk_drewN ?_ _ | refine blk_drew ?_ | refine blk_alloc ?_ _)); exact BK199.out) hb); have n1_ := Aside0.mk (below_step (by repeat (first | (with_reducible first | exact HB.out | apply below_alloc | apply pw_below_drewN | apply below_drew1 | refine below_set ?_ GE199.out) | exact HB.out)) hb); clear BK199; clear HB; have BK199 := n0_; have HB := n1_; clear n0_ n1_; (try clear hb); (try clear hb2); (try clear hk); (try clear hi); have hcz49_0 : w48.cell? ⟨gb199, 0, none⟩ = some (.bool a1_0) := (blk_cell BK199.out 0).trans rfl; have hcz49_1 : w48.cell? ⟨gb199, 1, none⟩ = some (.string a1_1) := (blk_cell BK199.out 1).trans rfl; have hfz49_0 := blk_frozen BK199.out 0; have hfz49_1 := blk_frozen BK199.out 1) | ((with_reducible refine gate_callee (f := 8) rfl ?_); refine goesL_ (some 68) rfl rfl Tryd.func8 (by kernel_rfl) rfl #[.agg #[.int .i64 a0, .bool a1_0, .string a1_1, .int .i64 a2]] rfl (by (try simp only [List.map_toArray, List.map_cons, List.map_nil]); first | done | rfl | (simp only [List.length_drop, List.length_take]; rfl)) ?_; (with_reducible refine (client_Tell.calls a0 a1_0 a1_1 a2 t209 _ A45.out (HT0.out _ (by repeat (first | (with_reducible first | exact HB.out | apply below_alloc | apply pw_below_drewN | apply below_drew1 | refine below_set ?_ GE199.out) | exact HB.out)))).mono ?_); rintro e w50 ⟨rfl, hb⟩; refine ⟨_, rfl, ?_⟩; have n0_ := Aside0.mk (blk_below (g := gb199) (o := .cells #[.bool a1_0, .string a1_1] 23 (0, 0)) (by (with_reducible repeat (first | refine blk_drewN ?_ _ | refine blk_drew ?_ | refine blk_alloc ?_ _)); exact BK199.out) hb); have n1_ := Aside0.mk (below_step (by repeat (first | (with_reducible first | exact HB.out | apply below_alloc | apply pw_below_drewN | apply below_drew1 | refine below_set ?_ GE199.out) | exact HB.out)) hb); clear BK199; clear HB; have BK199 := n0_; have HB := n1_; clear n0_ n1_; (try clear hb); (try clear hb2); (try clear hk); (try clear hi)) | (go_at_call 5; (with_reducible refine (quadrigalaw32_awake.calls  t210 _ A47.out).mono ?_); rintro e w51 ⟨rfl, hb⟩; have n0_ := Aside0.mk (blk_below (g := gb199) (o := .cells #[.bool a1_0, .string a1_1] 23 (0, 0)) (by (with_reducible repeat (first | refine blk_drewN ?_ _ | refine blk_drew ?_ | refine blk_alloc ?_ _)); exact BK199.out) hb); have n1_ := Aside0.mk (below_step (by repeat (first | (with_reducible first | exact HB.out | apply below_alloc | apply pw_below_drewN | apply below_drew1 | refine below_set ?_ GE199.out) | exact HB.out)) hb); clear BK199; clear HB; have BK199 := n0_; have HB := n1_; clear n0_ n1_; (try clear hb); (try clear hb2); (try clear hk); (try clear hi)))
                                      go_ret
                                      exact ⟨by first | rfl | (simp [errW_none, errW_some] <;> rfl) | (simp [*, errW_none, errW_some] <;> rfl), by repeat (first | (with_reducible first | exact HB.out | apply below_alloc | apply pw_below_drewN | apply below_drew1 | refine below_set ?_ GE199.out) | exact HB.out)⟩
                                    · rw [if_neg c46] at H
                                      have c46b0 : (t209.toList == ((x8_31 ++ (⟨#[32, 64]⟩ : ByteArray)) ++ t208).toList) = false := beq_eq_false_iff_ne.mpr c46
                                      have c46b1 : (t209.toList != ((x8_31 ++ (⟨#[32, 64]⟩ : ByteArray)) ++ t208).toList) = true := bne_iff_ne.mpr c46
                                      obtain rfl := Option.some.inj H
                                      go_wp2_with (first | ((with_reducible refine gate_callee (f := 6) rfl ?_); refine goesL_ (some 62) rfl rfl Tryd.func6 (by kernel_rfl) rfl #[.int .i64 a2] rfl (by (try simp only [List.map_toArray, List.map_cons, List.map_nil]); first | done | rfl | (simp only [List.length_drop, List.length_take]; rfl)) ?_; (with_reducible refine (quadrigaref25_Number.calls kj38 a2 t208 _ A43.out).mono ?_); rintro e w52 ⟨rfl, hb⟩; refine ⟨_, rfl, ?_⟩; have n0_ := Aside0.mk (blk_below (g := gb199) (o := .cells #[.bool a1_0, .string a1_1] 23 (0, 0)) (by (with_reducible repeat (first | refine blk_drewN ?_ _ | refine blk_drew ?_ | refine blk_alloc ?_ _)); exact BK199.out) hb); have n1_ := Aside0.mk (below_step (by repeat (first | (with_reducible first | exact HB.out | apply below_alloc | apply pw_below_drewN | apply below_drew1 | refine below_set ?_ GE199.out) | exact HB.out)) hb); clear BK199; clear HB; have BK199 := n0_; have HB := n1_; clear n0_ n1_; (try clear hb); (try clear hb2); (try clear hk); (try clear hi); have hcz53_0 : w52.cell? ⟨gb199, 0, none⟩ = some (.bool a1_0) := (blk_cell BK199.out 0).trans rfl; have hcz53_1 : w52.cell? ⟨gb199, 1, none⟩ = some (.string a1_1) := (blk_cell BK199.out 1).trans rfl; have hfz53_0 := blk_frozen BK199.out 0; have hfz53_1 := blk_frozen BK199.out 1) | ((with_reducible refine gate_callee (f := 8) rfl ?_); refine goesL_ (some 68) rfl rfl Tryd.func8 (by kernel_rfl) rfl #[.agg #[.int .i64 a0, .bool a1_0, .string a1_1, .int .i64 a2]] rfl (by (try simp only [List.map_toArray, List.map_cons, List.map_nil]); first | done | rfl | (simp only [List.length_drop, List.length_take]; rfl)) ?_; (with_reducible refine (client_Tell.calls a0 a1_0 a1_1 a2 t209 _ A45.out (HT0.out _ (by repeat (first | (with_reducible first | exact HB.out | apply below_alloc | apply pw_below_drewN | apply below_drew1 | refine below_set ?_ GE199.out) | exact HB.out)))).mono ?_); rintro e w54 ⟨rfl, hb⟩; refine ⟨_, rfl, ?_⟩; have n0_ := Aside0.mk (blk_below (g := gb199) (o := .cells #[.bool a1_0, .string a1_1] 23 (0, 0)) (by (with_reducible repeat (first | refine blk_drewN ?_ _ | refine blk_drew ?_ | refine blk_alloc ?_ _)); exact BK199.out) hb); have n1_ := Aside0.mk (below_step (by repeat (first | (with_reducible first | exact HB.out | apply below_alloc | apply pw_below_drewN | apply below_drew1 | refine below_set ?_ GE199.out) | exact HB.out)) hb); clear BK199; clear HB; have BK199 := n0_; have HB := n1_; clear n0_ n1_; (try clear hb); (try clear hb2); (try clear hk); (try clear hi)))
                                      go_ret
                                      exact ⟨by first | rfl | (simp [errW_none, errW_some] <;> rfl) | (simp [*, errW_none, errW_some] <;> rfl), by repeat (first | (with_reducible first | exact HB.out | apply below_alloc | apply pw_below_drewN | apply below_drew1 | refine below_set ?_ GE199.out) | exact HB.out)⟩
                                  · rw [if_neg c44] at H
                                    exact absurd H (by simp)
                                · rw [if_neg c42] at H
                                  exact absurd H (by simp)
                              · replace c41 := Bool.eq_false_iff.mpr c41
                                subst c41
                                have H1 : ((client_Tell.f a0 a1_0 a1_1 a2).bind fun t211 => (if t211.toList = x8_31.toList then ((quadrigalaw32_awake.f).bind fun t212 => (some t212)) else (some false))) = some r := by rw [if_neg (show ¬ (false = true) by decide)] at H; exact H
                                clear H
                                have H := H1
                                clear H1
                                replace H := Option.bind_eq_some_iff.mp H
                                obtain ⟨t211, A550, H⟩ := H
                                replace H : (if t211.toList = x8_31.toList then ((quadrigalaw32_awake.f).bind fun t212 => (some t212)) else (some false)) = some r := H
                                have A55 := Aside0.mk A550
                                clear A550
                                by_cases c56 : t211.toList = x8_31.toList
                                · rw [if_pos c56] at H
                                  have c56b0 : (t211.toList == x8_31.toList) = true := beq_iff_eq.mpr c56
                                  have c56b1 : (t211.toList != x8_31.toList) = false := bne_eq_false_iff_eq.mpr c56
                                  clear c56
                                  replace H := Option.bind_eq_some_iff.mp H
                                  obtain ⟨t212, A570, H⟩ := H
                                  replace H : (some t212) = some r := H
                                  have A57 := Aside0.mk A570
                                  clear A570
                                  obtain rfl := Option.some.inj H
                                  have hcz58_0 : wc.cell? ⟨gb199, 0, none⟩ = some (.bool a1_0) := (blk_cell BK199.out 0).trans rfl
                                  have hcz58_1 : wc.cell? ⟨gb199, 1, none⟩ = some (.string a1_1) := (blk_cell BK199.out 1).trans rfl
                                  have hfz58_0 := blk_frozen BK199.out 0
                                  have hfz58_1 := blk_frozen BK199.out 1
                                  go_wp2_with (first | ((with_reducible refine gate_callee (f := 8) rfl ?_); refine goesL_ (some 68) rfl rfl Tryd.func8 (by kernel_rfl) rfl #[.agg #[.int .i64 a0, .bool a1_0, .string a1_1, .int .i64 a2]] rfl (by (try simp only [List.map_toArray, List.map_cons, List.map_nil]); first | done | rfl | (simp only [List.length_drop, List.length_take]; rfl)) ?_; (with_reducible refine (client_Tell.calls a0 a1_0 a1_1 a2 t211 _ A55.out (HT0.out _ (by repeat (first | (with_reducible first | exact HB.out | apply below_alloc | apply pw_below_drewN | apply below_drew1 | refine below_set ?_ GE199.out) | exact HB.out)))).mono ?_); rintro e w59 ⟨rfl, hb⟩; refine ⟨_, rfl, ?_⟩; have n0_ := Aside0.mk (blk_below (g := gb199) (o := .cells #[.bool a1_0, .string a1_1] 23 (0, 0)) (by (with_reducible repeat (first | refine blk_drewN ?_ _ | refine blk_drew ?_ | refine blk_alloc ?_ _)); exact BK199.out) hb); have n1_ := Aside0.mk (below_step (by repeat (first | (with_reducible first | exact HB.out | apply below_alloc | apply pw_below_drewN | apply below_drew1 | refine below_set ?_ GE199.out) | exact HB.out)) hb); clear BK199; clear HB; have BK199 := n0_; have HB := n1_; clear n0_ n1_; (try clear hb); (try clear hb2); (try clear hk); (try clear hi)) | (go_at_call 5; (with_reducible refine (quadrigalaw32_awake.calls  t212 _ A57.out).mono ?_); rintro e w60 ⟨rfl, hb⟩; have n0_ := Aside0.mk (blk_below (g := gb199) (o := .cells #[.bool a1_0, .string a1_1] 23 (0, 0)) (by (with_reducible repeat (first | refine blk_drewN ?_ _ | refine blk_drew ?_ | refine blk_alloc ?_ _)); exact BK199.out) hb); have n1_ := Aside0.mk (below_step (by repeat (first | (with_reducible first | exact HB.out | apply below_alloc | apply pw_below_drewN | apply below_drew1 | refine below_set ?_ GE199.out) | exact HB.out)) hb); clear BK199; clear HB; have BK199 := n0_; have HB := n1_; clear n0_ n1_; (try clear hb); (try clear hb2); (try clear hk); (try clear hi)))
                                  go_ret
                                  exact ⟨by first | rfl | (simp [errW_none, errW_some] <;> rfl) | (simp [*, errW_none, errW_some] <;> rfl), by repeat (first | (with_reducible first | exact HB.out | apply below_alloc | apply pw_below_drewN | apply below_drew1 | refine below_set ?_ GE199.out) | exact HB.out)⟩
                                · rw [if_neg c56] at H
                                  have c56b0 : (t211.toList == x8_31.toList) = false := beq_eq_false_iff_ne.mpr c56
                                  have c56b1 : (t211.toList != x8_31.toList) = true := bne_iff_ne.mpr c56
                                  obtain rfl := Option.some.inj H
                                  have hcz61_0 : wc.cell? ⟨gb199, 0, none⟩ = some (.bool a1_0) := (blk_cell BK199.out 0).trans rfl
                                  have hcz61_1 : wc.cell? ⟨gb199, 1, none⟩ = some (.string a1_1) := (blk_cell BK199.out 1).trans rfl
                                  have hfz61_0 := blk_frozen BK199.out 0
                                  have hfz61_1 := blk_frozen BK199.out 1
                                  go_wp2_with (first | ((with_reducible refine gate_callee (f := 8) rfl ?_); refine goesL_ (some 68) rfl rfl Tryd.func8 (by kernel_rfl) rfl #[.agg #[.int .i64 a0, .bool a1_0, .string a1_1, .int .i64 a2]] rfl (by (try simp only [List.map_toArray, List.map_cons, List.map_nil]); first | done | rfl | (simp only [List.length_drop, List.length_take]; rfl)) ?_; (with_reducible refine (client_Tell.calls a0 a1_0 a1_1 a2 t211 _ A55.out (HT0.out _ (by repeat (first | (with_reducible first | exact HB.out | apply below_alloc | apply pw_below_drewN | apply below_drew1 | refine below_set ?_ GE199.out) | exact HB.out)))).mono ?_); rintro e w62 ⟨rfl, hb⟩; refine ⟨_, rfl, ?_⟩; have n0_ := Aside0.mk (blk_below (g := gb199) (o := .cells #[.bool a1_0, .string a1_1] 23 (0, 0)) (by (with_reducible repeat (first | refine blk_drewN ?_ _ | refine blk_drew ?_ | refine blk_alloc ?_ _)); exact BK199.out) hb); have n1_ := Aside0.mk (below_step (by repeat (first | (with_reducible first | exact HB.out | apply below_alloc | apply pw_below_drewN | apply below_drew1 | refine below_set ?_ GE199.out) | exact HB.out)) hb); clear BK199; clear HB; have BK199 := n0_; have HB := n1_; clear n0_ n1_; (try clear hb); (try clear hb2); (try clear hk); (try clear hi)))
                                  go_ret
                                  exact ⟨by first | rfl | (simp [errW_none, errW_some] <;> rfl) | (simp [*, errW_none, errW_some] <;> rfl), by repeat (first | (with_reducible first | exact HB.out | apply below_alloc | apply pw_below_drewN | apply below_drew1 | refine below_set ?_ GE199.out) | exact HB.out)⟩
        · rw [if_neg c15] at H
          exact absurd H (by simp)

end Go.Proofs.YtiidffblbpoijaaDoor.Q32
