-- Written by a program of this session (wip/bin/stubprint.py) out of the translation; not trusted: Lean checks it.
import Derived.Test.YtlicobfjeajcfaaQ29x0
import Derived.Test.YtlicobfjeajcfaaQ29x8
namespace Go.Proofs.Ytlicobfjeajcfaa.Q29
open Go.RowKit Go.Proofs.YtlicobfjeajcfaaW.PrintWords Go.Proofs.YtlicobfjeajcfaaW.PrintLast Go.Proofs.YtlicobfjeajcfaaW.PrintMore
attribute [local go_sem] max2_int min2_int max_two min_two max_three min_three max_four min_four   -- for this text's walks alone
set_option linter.unusedVariables false
set_option linter.unusedSimpArgs false

/-! ### quadrigalaw29_number: function 25 -/
mutual
def quadrigalaw29_number.l0 : Nat → List (S81) → List (S79) → Int → Option ((List (S79)) × Int)
  | 0, _, _, _ => none
  | k + 1, x0, x4, x5 => if x5 < (x0.length : Int) then (if 0 ≤ x5 then (quadrigalaw29_number.l1 k x0 x4 x5 0 0 0 ((rd_T81 x0 x5).f1.f0) (wrap64 (x5 + 1)) ((rd_T81 x0 x5).f1.f2) ((rd_T81 x0 x5).f1.f3) ((rd_T81 x0 x5).f1.f4) ((rd_T81 x0 x5).f1.f5) ((rd_T81 x0 x5).f1.f6.f0) ((rd_T81 x0 x5).f1.f6.f1) ((rd_T81 x0 x5).f1.f7.f0) ((rd_T81 x0 x5).f1.f7.f1) ((rd_T81 x0 x5).f1.f8)) else (none)) else (some (x4, 0))
def quadrigalaw29_number.l1 : Nat → List (S81) → List (S79) → Int → Int → Int → Int → Int → Int → Int → Int → Int → ByteArray → Bool → ByteArray → Bool → ByteArray → Int → Option ((List (S79)) × Int)
  | 0, _, _, _, _, _, _, _, _, _, _, _, _, _, _, _, _, _ => none
  | k + 1, x0, x4, x5, x7, x8, x9, x174000, x174001, x174002, x174003, x174004, x174005, x174006, x174007, x174008, x174009, x174010 => if x9 < x5 then (if 0 ≤ x9 then (if x9 < (x0.length : Int) then (if ((rd_T81 x0 x9).f1.f2) = x174002 then (quadrigalaw29_number.j2 k x0 x4 x5 x7 x8 x9 (((rd_T81 x0 x9).f1.f1) == x174003) x174000 x174001 x174002 x174003 x174004 x174005 x174006 x174007 x174008 x174009 x174010) else (quadrigalaw29_number.j2 k x0 x4 x5 x7 x8 x9 false x174000 x174001 x174002 x174003 x174004 x174005 x174006 x174007 x174008 x174009 x174010)) else (none)) else (none)) else (if x174003 > 0 then (if x7 = 0 then (quadrigalaw29_number.j3 k x0 x4 x5 x7 x8 true x174000 x174001 x174002 x174003 x174004 x174005 x174006 x174007 x174008 x174009 x174010) else (if x174000 = 3 then (quadrigalaw29_number.j3 k x0 x4 x5 x7 x8 (x8 == 0) x174000 x174001 x174002 x174003 x174004 x174005 x174006 x174007 x174008 x174009 x174010) else (quadrigalaw29_number.j3 k x0 x4 x5 x7 x8 false x174000 x174001 x174002 x174003 x174004 x174005 x174006 x174007 x174008 x174009 x174010))) else (if x174000 = 3 then (quadrigalaw29_number.j3 k x0 x4 x5 x7 x8 (x8 == 0) x174000 x174001 x174002 x174003 x174004 x174005 x174006 x174007 x174008 x174009 x174010) else (quadrigalaw29_number.j3 k x0 x4 x5 x7 x8 false x174000 x174001 x174002 x174003 x174004 x174005 x174006 x174007 x174008 x174009 x174010)))
def quadrigalaw29_number.j2 : Nat → List (S81) → List (S79) → Int → Int → Int → Int → Bool → Int → Int → Int → Int → Int → ByteArray → Bool → ByteArray → Bool → ByteArray → Int → Option ((List (S79)) × Int)
  | 0, _, _, _, _, _, _, _, _, _, _, _, _, _, _, _, _, _, _ => none
  | k + 1, x0, x4, x5, x7, x8, x9, x51, x174000, x174001, x174002, x174003, x174004, x174005, x174006, x174007, x174008, x174009, x174010 => if x51 = true then (if 0 ≤ x9 then (if x9 < (x0.length : Int) then (if ((rd_T81 x0 x9).f1.f2) = x174002 then (if ((rd_T81 x0 x9).f1.f1) = x174010 then (quadrigalaw29_number.l1 k x0 x4 x5 (wrap64 (x9 + 1)) (wrap64 (x9 + 1)) (wrap64 (x9 + 1)) x174000 x174001 x174002 x174003 x174004 x174005 x174006 x174007 x174008 x174009 x174010) else (quadrigalaw29_number.l1 k x0 x4 x5 (wrap64 (x9 + 1)) x8 (wrap64 (x9 + 1)) x174000 x174001 x174002 x174003 x174004 x174005 x174006 x174007 x174008 x174009 x174010)) else (quadrigalaw29_number.l1 k x0 x4 x5 (wrap64 (x9 + 1)) x8 (wrap64 (x9 + 1)) x174000 x174001 x174002 x174003 x174004 x174005 x174006 x174007 x174008 x174009 x174010)) else (none)) else (none)) else (if 0 ≤ x9 then (if x9 < (x0.length : Int) then (if ((rd_T81 x0 x9).f1.f2) = x174002 then (if ((rd_T81 x0 x9).f1.f1) = x174010 then (quadrigalaw29_number.l1 k x0 x4 x5 x7 (wrap64 (x9 + 1)) (wrap64 (x9 + 1)) x174000 x174001 x174002 x174003 x174004 x174005 x174006 x174007 x174008 x174009 x174010) else (quadrigalaw29_number.l1 k x0 x4 x5 x7 x8 (wrap64 (x9 + 1)) x174000 x174001 x174002 x174003 x174004 x174005 x174006 x174007 x174008 x174009 x174010)) else (quadrigalaw29_number.l1 k x0 x4 x5 x7 x8 (wrap64 (x9 + 1)) x174000 x174001 x174002 x174003 x174004 x174005 x174006 x174007 x174008 x174009 x174010)) else (none)) else (none))
def quadrigalaw29_number.j3 : Nat → List (S81) → List (S79) → Int → Int → Int → Bool → Int → Int → Int → Int → Int → ByteArray → Bool → ByteArray → Bool → ByteArray → Int → Option ((List (S79)) × Int)
  | 0, _, _, _, _, _, _, _, _, _, _, _, _, _, _, _, _, _ => none
  | k + 1, x0, x4, x5, x7, x8, x91, x174000, x174001, x174002, x174003, x174004, x174005, x174006, x174007, x174008, x174009, x174010 => if x91 = true then (some (([] : List (S79)), 7)) else (if x174000 = 3 then (if x4.length < 1256584717458 then (quadrigalaw29_number.l0 k x0 (x4 ++ [(⟨x174000, x174001, x174002, x7, x174004, x174005, (⟨x174006, x174007⟩ : S77), (⟨x174008, x174009⟩ : S77), x8⟩ : S79)]) (wrap64 (x5 + 1))) else (none)) else (if x4.length < 1256584717458 then (quadrigalaw29_number.l0 k x0 (x4 ++ [(⟨x174000, x174001, x174002, x7, x174004, x174005, (⟨x174006, x174007⟩ : S77), (⟨x174008, x174009⟩ : S77), x174010⟩ : S79)]) (wrap64 (x5 + 1))) else (none)))
end
def quadrigalaw29_number.f (k : Nat) (l0 : List (S81)) : Option ((List (S79)) × Int) := (quadrigaref18_Right.f k l0).bind fun t171 => (if t171 = true then (quadrigalaw29_number.l0 k l0 ([] : List (S79)) 0) else (some (([] : List (S79)), 1)))
theorem quadrigalaw29_number.mono_l : ∀ k, (∀ y0 y1 y2, LeO (quadrigalaw29_number.l0 k y0 y1 y2) (quadrigalaw29_number.l0 (k + 1) y0 y1 y2)) ∧ (∀ y0 y1 y2 y3 y4 y5 y6 y7 y8 y9 y10 y11 y12 y13 y14 y15 y16, LeO (quadrigalaw29_number.l1 k y0 y1 y2 y3 y4 y5 y6 y7 y8 y9 y10 y11 y12 y13 y14 y15 y16) (quadrigalaw29_number.l1 (k + 1) y0 y1 y2 y3 y4 y5 y6 y7 y8 y9 y10 y11 y12 y13 y14 y15 y16)) ∧ (∀ y0 y1 y2 y3 y4 y5 y6 y7 y8 y9 y10 y11 y12 y13 y14 y15 y16 y17, LeO (quadrigalaw29_number.j2 k y0 y1 y2 y3 y4 y5 y6 y7 y8 y9 y10 y11 y12 y13 y14 y15 y16 y17) (quadrigalaw29_number.j2 (k + 1) y0 y1 y2 y3 y4 y5 y6 y7 y8 y9 y10 y11 y12 y13 y14 y15 y16 y17)) ∧ (∀ y0 y1 y2 y3 y4 y5 y6 y7 y8 y9 y10 y11 y12 y13 y14 y15 y16, LeO (quadrigalaw29_number.j3 k y0 y1 y2 y3 y4 y5 y6 y7 y8 y9 y10 y11 y12 y13 y14 y15 y16) (quadrigalaw29_number.j3 (k + 1) y0 y1 y2 y3 y4 y5 y6 y7 y8 y9 y10 y11 y12 y13 y14 y15 y16))
  | 0 => ⟨fun _ _ _ r h => by simp [quadrigalaw29_number.l0] at h, fun _ _ _ _ _ _ _ _ _ _ _ _ _ _ _ _ _ r h => by simp [quadrigalaw29_number.l1] at h, fun _ _ _ _ _ _ _ _ _ _ _ _ _ _ _ _ _ _ r h => by simp [quadrigalaw29_number.j2] at h, fun _ _ _ _ _ _ _ _ _ _ _ _ _ _ _ _ _ r h => by simp [quadrigalaw29_number.j3] at h⟩
  | k + 1 => by
    obtain ⟨ih0, ih1, ih2, ih3⟩ := quadrigalaw29_number.mono_l k
    refine ⟨?_, ?_, ?_, ?_⟩
    · intro y0 y1 y2
      unfold quadrigalaw29_number.l0
      repeat' first
      | (with_reducible exact ih0 _ _ _)
      | (with_reducible exact ih1 _ _ _ _ _ _ _ _ _ _ _ _ _ _ _ _ _)
      | (with_reducible exact ih2 _ _ _ _ _ _ _ _ _ _ _ _ _ _ _ _ _ _)
      | (with_reducible exact ih3 _ _ _ _ _ _ _ _ _ _ _ _ _ _ _ _ _)
      | (with_reducible exact quadrigaref18_Right.mono _ _)
      | (with_reducible exact LeO.refl _)
      | (with_reducible exact LeO.none _)
      | (with_reducible refine LeO.ite ?_ ?_)
      | (with_reducible refine LeO.bind ?_ (fun _ => ?_))
      | exact ih0 _ _ _
      | exact ih1 _ _ _ _ _ _ _ _ _ _ _ _ _ _ _ _ _
      | exact ih2 _ _ _ _ _ _ _ _ _ _ _ _ _ _ _ _ _ _
      | exact ih3 _ _ _ _ _ _ _ _ _ _ _ _ _ _ _ _ _
      | exact quadrigaref18_Right.mono _ _
      | exact LeO.none _
      | refine LeO.ite ?_ ?_
      | refine LeO.bind ?_ (fun _ => ?_)
    · intro y0 y1 y2 y3 y4 y5 y6 y7 y8 y9 y10 y11 y12 y13 y14 y15 y16
      unfold quadrigalaw29_number.l1
      repeat' first
      | (with_reducible exact ih0 _ _ _)
      | (with_reducible exact ih1 _ _ _ _ _ _ _ _ _ _ _ _ _ _ _ _ _)
      | (with_reducible exact ih2 _ _ _ _ _ _ _ _ _ _ _ _ _ _ _ _ _ _)
      | (with_reducible exact ih3 _ _ _ _ _ _ _ _ _ _ _ _ _ _ _ _ _)
      | (with_reducible exact quadrigaref18_Right.mono _ _)
      | (with_reducible exact LeO.refl _)
      | (with_reducible exact LeO.none _)
      | (with_reducible refine LeO.ite ?_ ?_)
      | (with_reducible refine LeO.bind ?_ (fun _ => ?_))
      | exact ih0 _ _ _
      | exact ih1 _ _ _ _ _ _ _ _ _ _ _ _ _ _ _ _ _
      | exact ih2 _ _ _ _ _ _ _ _ _ _ _ _ _ _ _ _ _ _
      | exact ih3 _ _ _ _ _ _ _ _ _ _ _ _ _ _ _ _ _
      | exact quadrigaref18_Right.mono _ _
      | exact LeO.none _
      | refine LeO.ite ?_ ?_
      | refine LeO.bind ?_ (fun _ => ?_)
    · intro y0 y1 y2 y3 y4 y5 y6 y7 y8 y9 y10 y11 y12 y13 y14 y15 y16 y17
      unfold quadrigalaw29_number.j2
      repeat' first
      | (with_reducible exact ih0 _ _ _)
      | (with_reducible exact ih1 _ _ _ _ _ _ _ _ _ _ _ _ _ _ _ _ _)
      | (with_reducible exact ih2 _ _ _ _ _ _ _ _ _ _ _ _ _ _ _ _ _ _)
      | (with_reducible exact ih3 _ _ _ _ _ _ _ _ _ _ _ _ _ _ _ _ _)
      | (with_reducible exact quadrigaref18_Right.mono _ _)
      | (with_reducible exact LeO.refl _)
      | (with_reducible exact LeO.none _)
      | (with_reducible refine LeO.ite ?_ ?_)
      | (with_reducible refine LeO.bind ?_ (fun _ => ?_))
      | exact ih0 _ _ _
      | exact ih1 _ _ _ _ _ _ _ _ _ _ _ _ _ _ _ _ _
      | exact ih2 _ _ _ _ _ _ _ _ _ _ _ _ _ _ _ _ _ _
      | exact ih3 _ _ _ _ _ _ _ _ _ _ _ _ _ _ _ _ _
      | exact quadrigaref18_Right.mono _ _
      | exact LeO.none _
      | refine LeO.ite ?_ ?_
      | refine LeO.bind ?_ (fun _ => ?_)
    · intro y0 y1 y2 y3 y4 y5 y6 y7 y8 y9 y10 y11 y12 y13 y14 y15 y16
      unfold quadrigalaw29_number.j3
      repeat' first
      | (with_reducible exact ih0 _ _ _)
      | (with_reducible exact ih1 _ _ _ _ _ _ _ _ _ _ _ _ _ _ _ _ _)
      | (with_reducible exact ih2 _ _ _ _ _ _ _ _ _ _ _ _ _ _ _ _ _ _)
      | (with_reducible exact ih3 _ _ _ _ _ _ _ _ _ _ _ _ _ _ _ _ _)
      | (with_reducible exact quadrigaref18_Right.mono _ _)
      | (with_reducible exact LeO.refl _)
      | (with_reducible exact LeO.none _)
      | (with_reducible refine LeO.ite ?_ ?_)
      | (with_reducible refine LeO.bind ?_ (fun _ => ?_))
      | exact ih0 _ _ _
      | exact ih1 _ _ _ _ _ _ _ _ _ _ _ _ _ _ _ _ _
      | exact ih2 _ _ _ _ _ _ _ _ _ _ _ _ _ _ _ _ _ _
      | exact ih3 _ _ _ _ _ _ _ _ _ _ _ _ _ _ _ _ _
      | exact quadrigaref18_Right.mono _ _
      | exact LeO.none _
      | refine LeO.ite ?_ ?_
      | refine LeO.bind ?_ (fun _ => ?_)
theorem quadrigalaw29_number.mono : ∀ a0 k, LeO (quadrigalaw29_number.f k a0) (quadrigalaw29_number.f (k + 1) a0) := by
  intro a0 k
  obtain ⟨ih0, ih1, ih2, ih3⟩ := quadrigalaw29_number.mono_l k
  unfold quadrigalaw29_number.f
  repeat' first
      | (with_reducible exact ih0 _ _ _)
      | (with_reducible exact ih1 _ _ _ _ _ _ _ _ _ _ _ _ _ _ _ _ _)
      | (with_reducible exact ih2 _ _ _ _ _ _ _ _ _ _ _ _ _ _ _ _ _ _)
      | (with_reducible exact ih3 _ _ _ _ _ _ _ _ _ _ _ _ _ _ _ _ _)
      | (with_reducible exact quadrigaref18_Right.mono _ _)
      | (with_reducible exact LeO.refl _)
      | (with_reducible exact LeO.none _)
      | (with_reducible refine LeO.ite ?_ ?_)
      | (with_reducible refine LeO.bind ?_ (fun _ => ?_))
      | exact ih0 _ _ _
      | exact ih1 _ _ _ _ _ _ _ _ _ _ _ _ _ _ _ _ _
      | exact ih2 _ _ _ _ _ _ _ _ _ _ _ _ _ _ _ _ _ _
      | exact ih3 _ _ _ _ _ _ _ _ _ _ _ _ _ _ _ _ _
      | exact quadrigaref18_Right.mono _ _
      | exact LeO.none _
      | refine LeO.ite ?_ ?_
      | refine LeO.bind ?_ (fun _ => ?_)
set_option maxHeartbeats 8000000 in
set_option maxRecDepth 100000 in
theorem quadrigalaw29_number.calls (k : Nat) (A0 : Option Addr) (c0 : Nat) (l0 : List (S81)) (r1 : List (S79)) (r2 : Int) (w : World) (hr0 : Kd.C k81 w A0 l0.length l0) (hc0 : l0.length ≤ c0) (h : quadrigalaw29_number.f k l0 = some (r1, r2)) :
    Calls Try.prog 25 #[.slice A0 l0.length c0] w fun e w' => ∃ v0_ : Value, e = .returned (.tuple #[v0_, .int .i64 r2]) ∧ Kd.R k79 79 w' w.heap.size (fun _ => True) v0_ r1 ∧ Below w.heap.size w w' := by
  have hu79 := Try.underlying79
  have HR0 := Aside0.mk hr0
  have HC0 := Aside0.mk hc0
  clear hr0 hc0
  have HB := Aside0.mk (Below.refl w.heap.size w)
  have H : ((quadrigaref18_Right.f k l0).bind fun t171 => (if t171 = true then (quadrigalaw29_number.l0 k l0 ([] : List (S79)) 0) else (some (([] : List (S79)), 1)))) = some (r1, r2) := h
  clear h
  replace H := Option.bind_eq_some_iff.mp H
  obtain ⟨t171, A20, H⟩ := H
  replace H : (if t171 = true then (quadrigalaw29_number.l0 k l0 ([] : List (S79)) 0) else (some (([] : List (S79)), 1))) = some (r1, r2) := H
  have A2 := Aside0.mk A20
  clear A20
  by_cases c3 : t171 = true
  · subst c3
    have H1 : (quadrigalaw29_number.l0 k l0 ([] : List (S79)) 0) = some (r1, r2) := by rw [if_pos rfl] at H; exact H
    clear H
    have H := H1
    clear H1
    have H' := Aside0.mk H
    clear H
    go_enter Try.func25, Try.ntmps25
    go_wp2_with (first | (go_at_call 35; (with_reducible refine (quadrigaref18_Right.calls k _ _ l0 true _ ?side1 ?side2 A2.out).mono ?_); (case side1 => repeat (first | exact HR0.out | (with_reducible refine Kd.C_alloc ?_ _) | (with_reducible refine Kd.C_drewN ?_ _) | (with_reducible refine Kd.C_drew ?_))); (case side2 => exact HC0.out); rintro e w4 ⟨rfl, hb⟩; have n0_ := Aside0.mk (below_step (by repeat (first | (with_reducible first | exact HB.out | apply below_alloc | apply pw_below_drewN | apply below_drew1) | exact HB.out)) hb); clear HB; have HB := n0_; clear n0_; (try clear hb); (try clear hb2); (try clear hk); (try clear hi)))
    repeat (go_quiet (first | (go_at_call 35; (with_reducible refine (quadrigaref18_Right.calls k _ _ l0 true _ ?side1 ?side2 A2.out).mono ?_); (case side1 => repeat (first | exact HR0.out | (with_reducible refine Kd.C_alloc ?_ _) | (with_reducible refine Kd.C_drewN ?_ _) | (with_reducible refine Kd.C_drew ?_))); (case side2 => exact HC0.out); rintro e w4 ⟨rfl, hb⟩; have n0_ := Aside0.mk (below_step (by repeat (first | (with_reducible first | exact HB.out | apply below_alloc | apply pw_below_drewN | apply below_drew1) | exact HB.out)) hb); clear HB; have HB := n0_; clear n0_; (try clear hb); (try clear hb2); (try clear hk); (try clear hi))); try go_wp2_with (first | (go_at_call 35; (with_reducible refine (quadrigaref18_Right.calls k _ _ l0 true _ ?side1 ?side2 A2.out).mono ?_); (case side1 => repeat (first | exact HR0.out | (with_reducible refine Kd.C_alloc ?_ _) | (with_reducible refine Kd.C_drewN ?_ _) | (with_reducible refine Kd.C_drew ?_))); (case side2 => exact HC0.out); rintro e w4 ⟨rfl, hb⟩; have n0_ := Aside0.mk (below_step (by repeat (first | (with_reducible first | exact HB.out | apply below_alloc | apply pw_below_drewN | apply below_drew1) | exact HB.out)) hb); clear HB; have HB := n0_; clear n0_; (try clear hb); (try clear hb2); (try clear hk); (try clear hi))))
    go_loopg [4, 5] k (fun kq v4 v5 w' => ∃ (x4_1 : List (S79)) (x5_1 : Int), v5 = .int .i64 x5_1 ∧ Aside0 (quadrigalaw29_number.l0 kq l0 x4_1 x5_1 = some (r1, r2)) ∧ Aside0 (kq ≤ k) ∧ Aside0 (Kd.R k79 79 w' w.heap.size (fun _ => True) v4 x4_1) ∧ Aside0 (Below w.heap.size w w'))
    case atStart => exact ⟨(([] : List (S79))), (0), (by first | rfl | (simp; done) | (simp [*]; done)), H', ⟨Nat.le_refl _⟩, ⟨by first | exact Kd.R_nil _ _ _ _ _ | exact Kd.N_nil _ _ _ _ _ | exact Kd.V_nil _ _ _ _ _ | exact Kd.Q_nil _ _ _ _ _ | exact Kd.S_nil _ _ _ _ _⟩, ⟨by repeat (first | (with_reducible first | exact HB.out | apply below_alloc | apply pw_below_drewN | apply below_drew1) | exact HB.out)⟩⟩
    case round =>
      clear H'
      try clear c2
      try clear p2
      try clear c3
      obtain ⟨x4_1, x5_1, rfl, HA, HK1, HO_4, HB⟩ := hrel
      cases gk with
      | zero => exact absurd HA.out (by simp [quadrigalaw29_number.l0])
      | succ k1 =>
        have H := HA.out
        clear HA
        simp only [quadrigalaw29_number.l0] at H
        by_cases c5 : x5_1 < (l0.length : Int)
        · rw [if_pos c5] at H
          have c5b0 : decide (x5_1 < (l0.length : Int)) = true := decide_eq_true c5
          clear c5
          by_cases c6 : 0 ≤ x5_1
          · rw [if_pos c6] at H
            have c6b0 : decide (0 ≤ x5_1) = true := decide_eq_true c6
            clear c6
            have H' := Aside0.mk H
            clear H
            have p172 : 0 ≤ (x5_1 : Int) := of_decide_eq_true (by first | (with_reducible assumption) | assumption)
            have q172 : x5_1 < (l0.length : Int) := of_decide_eq_true (by first | (with_reducible assumption) | assumption)
            obtain ⟨ad172, e172, hx172_0, hx172_1, hx172_2, hx172_3, hx172_4, hx172_5, hx172_6, hx172_7, hx172_8, hx172_9, hx172_10, hx172_11⟩ := at_T81 HR0.out x5_1 p172 q172
            cases e172
            replace hx172_0 := (HB.out.cell (World.block_lt_of_cell? w _ hx172_0)).trans hx172_0
            replace hx172_1 := (HB.out.cell (World.block_lt_of_cell? w _ hx172_1)).trans hx172_1
            replace hx172_2 := (HB.out.cell (World.block_lt_of_cell? w _ hx172_2)).trans hx172_2
            replace hx172_3 := (HB.out.cell (World.block_lt_of_cell? w _ hx172_3)).trans hx172_3
            replace hx172_4 := (HB.out.cell (World.block_lt_of_cell? w _ hx172_4)).trans hx172_4
            replace hx172_5 := (HB.out.cell (World.block_lt_of_cell? w _ hx172_5)).trans hx172_5
            replace hx172_6 := (HB.out.cell (World.block_lt_of_cell? w _ hx172_6)).trans hx172_6
            replace hx172_7 := (HB.out.cell (World.block_lt_of_cell? w _ hx172_7)).trans hx172_7
            replace hx172_8 := (HB.out.cell (World.block_lt_of_cell? w _ hx172_8)).trans hx172_8
            replace hx172_9 := (HB.out.cell (World.block_lt_of_cell? w _ hx172_9)).trans hx172_9
            replace hx172_10 := (HB.out.cell (World.block_lt_of_cell? w _ hx172_10)).trans hx172_10
            replace hx172_11 := (HB.out.cell (World.block_lt_of_cell? w _ hx172_11)).trans hx172_11
            replace p172 := eq_true p172
            replace q172 := eq_true q172
            go_wp2_with (first | ((with_reducible refine gate_dst (N := 6) rfl ?_); refine box_event ?hg (N := 6) ?hd (cs := #[.int .i64 0, .int .i64 0, .int .i64 0, .int .i64 0, .int .i64 0, .string (⟨#[]⟩ : ByteArray), .bool false, .string (⟨#[]⟩ : ByteArray), .bool false, .string (⟨#[]⟩ : ByteArray), .int .i64 0]) (t := 79) ?hr ?_; (case hd => rfl); (case hg => rfl); (case hr => first | (go_simp; done) | (go_simp; rfl)); intro gb173 hg w7 hbox hb; have n0_ := Aside0.mk (Kd.R_below (Kd.R_elderB (by (with_reducible repeat (first | apply Kd.R_alloc | apply Kd.R_drewN | apply Kd.R_drew)); exact HO_4.out) gb173 (Nat.le_of_eq hg.symm)) hb); have n1_ := Aside0.mk (below_step (by repeat (first | (with_reducible first | exact HB.out | apply below_alloc | apply pw_below_drewN | apply below_drew1) | exact HB.out)) hb); have n2_ := Aside0.mk (hbox); have n3_ := Aside0.mk ((by rw [hg]; exact (below_size (by repeat (first | (with_reducible first | exact HB.out | apply below_alloc | apply pw_below_drewN | apply below_drew1) | exact HB.out))) : w.heap.size ≤ gb173)); have n4_ := Aside0.mk ((by rw [hg]; exact (below_size (by repeat (first | (with_reducible first | exact HB.out | apply below_alloc | apply pw_below_drewN | apply below_drew1) | exact HB.out))) : w.heap.size ≤ gb173)); clear HO_4; clear HB; have HO_4 := n0_; have HB := n1_; have BK173 := n2_; have GW173 := n3_; have GE173 := n4_; clear n0_ n1_ n2_ n3_ n4_; clear hb hbox hg; have hcz8_0 : w7.cell? ⟨gb173, 0, none⟩ = some (.int .i64 0) := (blk_cell BK173.out 0).trans rfl; have hcz8_1 : w7.cell? ⟨gb173, 1, none⟩ = some (.int .i64 0) := (blk_cell BK173.out 1).trans rfl; have hcz8_2 : w7.cell? ⟨gb173, 2, none⟩ = some (.int .i64 0) := (blk_cell BK173.out 2).trans rfl; have hcz8_3 : w7.cell? ⟨gb173, 3, none⟩ = some (.int .i64 0) := (blk_cell BK173.out 3).trans rfl; have hcz8_4 : w7.cell? ⟨gb173, 4, none⟩ = some (.int .i64 0) := (blk_cell BK173.out 4).trans rfl; have hcz8_5 : w7.cell? ⟨gb173, 5, none⟩ = some (.string (⟨#[]⟩ : ByteArray)) := (blk_cell BK173.out 5).trans rfl; have hcz8_6 : w7.cell? ⟨gb173, 6, none⟩ = some (.bool false) := (blk_cell BK173.out 6).trans rfl; have hcz8_7 : w7.cell? ⟨gb173, 7, none⟩ = some (.string (⟨#[]⟩ : ByteArray)) := (blk_cell BK173.out 7).trans rfl; have hcz8_8 : w7.cell? ⟨gb173, 8, none⟩ = some (.bool false) := (blk_cell BK173.out 8).trans rfl; have hcz8_9 : w7.cell? ⟨gb173, 9, none⟩ = some (.string (⟨#[]⟩ : ByteArray)) := (blk_cell BK173.out 9).trans rfl; have hcz8_10 : w7.cell? ⟨gb173, 10, none⟩ = some (.int .i64 0) := (blk_cell BK173.out 10).trans rfl; have hfz8_0 := blk_frozen BK173.out 0; have hfz8_1 := blk_frozen BK173.out 1; have hfz8_2 := blk_frozen BK173.out 2; have hfz8_3 := blk_frozen BK173.out 3; have hfz8_4 := blk_frozen BK173.out 4; have hfz8_5 := blk_frozen BK173.out 5; have hfz8_6 := blk_frozen BK173.out 6; have hfz8_7 := blk_frozen BK173.out 7; have hfz8_8 := blk_frozen BK173.out 8; have hfz8_9 := blk_frozen BK173.out 9; have hfz8_10 := blk_frozen BK173.out 10))
            repeat (go_quiet (first | ((with_reducible refine gate_dst (N := 6) rfl ?_); refine box_event ?hg (N := 6) ?hd (cs := #[.int .i64 0, .int .i64 0, .int .i64 0, .int .i64 0, .int .i64 0, .string (⟨#[]⟩ : ByteArray), .bool false, .string (⟨#[]⟩ : ByteArray), .bool false, .string (⟨#[]⟩ : ByteArray), .int .i64 0]) (t := 79) ?hr ?_; (case hd => rfl); (case hg => rfl); (case hr => first | (go_simp; done) | (go_simp; rfl)); intro gb173 hg w7 hbox hb; have n0_ := Aside0.mk (Kd.R_below (Kd.R_elderB (by (with_reducible repeat (first | apply Kd.R_alloc | apply Kd.R_drewN | apply Kd.R_drew)); exact HO_4.out) gb173 (Nat.le_of_eq hg.symm)) hb); have n1_ := Aside0.mk (below_step (by repeat (first | (with_reducible first | exact HB.out | apply below_alloc | apply pw_below_drewN | apply below_drew1) | exact HB.out)) hb); have n2_ := Aside0.mk (hbox); have n3_ := Aside0.mk ((by rw [hg]; exact (below_size (by repeat (first | (with_reducible first | exact HB.out | apply below_alloc | apply pw_below_drewN | apply below_drew1) | exact HB.out))) : w.heap.size ≤ gb173)); have n4_ := Aside0.mk ((by rw [hg]; exact (below_size (by repeat (first | (with_reducible first | exact HB.out | apply below_alloc | apply pw_below_drewN | apply below_drew1) | exact HB.out))) : w.heap.size ≤ gb173)); clear HO_4; clear HB; have HO_4 := n0_; have HB := n1_; have BK173 := n2_; have GW173 := n3_; have GE173 := n4_; clear n0_ n1_ n2_ n3_ n4_; clear hb hbox hg; have hcz8_0 : w7.cell? ⟨gb173, 0, none⟩ = some (.int .i64 0) := (blk_cell BK173.out 0).trans rfl; have hcz8_1 : w7.cell? ⟨gb173, 1, none⟩ = some (.int .i64 0) := (blk_cell BK173.out 1).trans rfl; have hcz8_2 : w7.cell? ⟨gb173, 2, none⟩ = some (.int .i64 0) := (blk_cell BK173.out 2).trans rfl; have hcz8_3 : w7.cell? ⟨gb173, 3, none⟩ = some (.int .i64 0) := (blk_cell BK173.out 3).trans rfl; have hcz8_4 : w7.cell? ⟨gb173, 4, none⟩ = some (.int .i64 0) := (blk_cell BK173.out 4).trans rfl; have hcz8_5 : w7.cell? ⟨gb173, 5, none⟩ = some (.string (⟨#[]⟩ : ByteArray)) := (blk_cell BK173.out 5).trans rfl; have hcz8_6 : w7.cell? ⟨gb173, 6, none⟩ = some (.bool false) := (blk_cell BK173.out 6).trans rfl; have hcz8_7 : w7.cell? ⟨gb173, 7, none⟩ = some (.string (⟨#[]⟩ : ByteArray)) := (blk_cell BK173.out 7).trans rfl; have hcz8_8 : w7.cell? ⟨gb173, 8, none⟩ = some (.bool false) := (blk_cell BK173.out 8).trans rfl; have hcz8_9 : w7.cell? ⟨gb173, 9, none⟩ = some (.string (⟨#[]⟩ : ByteArray)) := (blk_cell BK173.out 9).trans rfl; have hcz8_10 : w7.cell? ⟨gb173, 10, none⟩ = some (.int .i64 0) := (blk_cell BK173.out 10).trans rfl; have hfz8_0 := blk_frozen BK173.out 0; have hfz8_1 := blk_frozen BK173.out 1; have hfz8_2 := blk_frozen BK173.out 2; have hfz8_3 := blk_frozen BK173.out 3; have hfz8_4 := blk_frozen BK173.out 4; have hfz8_5 := blk_frozen BK173.out 5; have hfz8_6 := blk_frozen BK173.out 6; have hfz8_7 := blk_frozen BK173.out 7; have hfz8_8 := blk_frozen BK173.out 8; have hfz8_9 := blk_frozen BK173.out 9; have hfz8_10 := blk_frozen BK173.out 10)); try go_wp2_with (first | ((with_reducible refine gate_dst (N := 6) rfl ?_); refine box_event ?hg (N := 6) ?hd (cs := #[.int .i64 0, .int .i64 0, .int .i64 0, .int .i64 0, .int .i64 0, .string (⟨#[]⟩ : ByteArray), .bool false, .string (⟨#[]⟩ : ByteArray), .bool false, .string (⟨#[]⟩ : ByteArray), .int .i64 0]) (t := 79) ?hr ?_; (case hd => rfl); (case hg => rfl); (case hr => first | (go_simp; done) | (go_simp; rfl)); intro gb173 hg w7 hbox hb; have n0_ := Aside0.mk (Kd.R_below (Kd.R_elderB (by (with_reducible repeat (first | apply Kd.R_alloc | apply Kd.R_drewN | apply Kd.R_drew)); exact HO_4.out) gb173 (Nat.le_of_eq hg.symm)) hb); have n1_ := Aside0.mk (below_step (by repeat (first | (with_reducible first | exact HB.out | apply below_alloc | apply pw_below_drewN | apply below_drew1) | exact HB.out)) hb); have n2_ := Aside0.mk (hbox); have n3_ := Aside0.mk ((by rw [hg]; exact (below_size (by repeat (first | (with_reducible first | exact HB.out | apply below_alloc | apply pw_below_drewN | apply below_drew1) | exact HB.out))) : w.heap.size ≤ gb173)); have n4_ := Aside0.mk ((by rw [hg]; exact (below_size (by repeat (first | (with_reducible first | exact HB.out | apply below_alloc | apply pw_below_drewN | apply below_drew1) | exact HB.out))) : w.heap.size ≤ gb173)); clear HO_4; clear HB; have HO_4 := n0_; have HB := n1_; have BK173 := n2_; have GW173 := n3_; have GE173 := n4_; clear n0_ n1_ n2_ n3_ n4_; clear hb hbox hg; have hcz8_0 : w7.cell? ⟨gb173, 0, none⟩ = some (.int .i64 0) := (blk_cell BK173.out 0).trans rfl; have hcz8_1 : w7.cell? ⟨gb173, 1, none⟩ = some (.int .i64 0) := (blk_cell BK173.out 1).trans rfl; have hcz8_2 : w7.cell? ⟨gb173, 2, none⟩ = some (.int .i64 0) := (blk_cell BK173.out 2).trans rfl; have hcz8_3 : w7.cell? ⟨gb173, 3, none⟩ = some (.int .i64 0) := (blk_cell BK173.out 3).trans rfl; have hcz8_4 : w7.cell? ⟨gb173, 4, none⟩ = some (.int .i64 0) := (blk_cell BK173.out 4).trans rfl; have hcz8_5 : w7.cell? ⟨gb173, 5, none⟩ = some (.string (⟨#[]⟩ : ByteArray)) := (blk_cell BK173.out 5).trans rfl; have hcz8_6 : w7.cell? ⟨gb173, 6, none⟩ = some (.bool false) := (blk_cell BK173.out 6).trans rfl; have hcz8_7 : w7.cell? ⟨gb173, 7, none⟩ = some (.string (⟨#[]⟩ : ByteArray)) := (blk_cell BK173.out 7).trans rfl; have hcz8_8 : w7.cell? ⟨gb173, 8, none⟩ = some (.bool false) := (blk_cell BK173.out 8).trans rfl; have hcz8_9 : w7.cell? ⟨gb173, 9, none⟩ = some (.string (⟨#[]⟩ : ByteArray)) := (blk_cell BK173.out 9).trans rfl; have hcz8_10 : w7.cell? ⟨gb173, 10, none⟩ = some (.int .i64 0) := (blk_cell BK173.out 10).trans rfl; have hfz8_0 := blk_frozen BK173.out 0; have hfz8_1 := blk_frozen BK173.out 1; have hfz8_2 := blk_frozen BK173.out 2; have hfz8_3 := blk_frozen BK173.out 3; have hfz8_4 := blk_frozen BK173.out 4; have hfz8_5 := blk_frozen BK173.out 5; have hfz8_6 := blk_frozen BK173.out 6; have hfz8_7 := blk_frozen BK173.out 7; have hfz8_8 := blk_frozen BK173.out 8; have hfz8_9 := blk_frozen BK173.out 9; have hfz8_10 := blk_frozen BK173.out 10)))
            go_loopg [7, 8, 9] k1 (fun kq v7 v8 v9 w' => ∃ (x7_2 : Int) (x8_2 : Int) (x9_2 : Int), v7 = .int .i64 x7_2 ∧ v8 = .int .i64 x8_2 ∧ v9 = .int .i64 x9_2 ∧ Aside0 (quadrigalaw29_number.l1 kq l0 x4_1 x5_1 x7_2 x8_2 x9_2 ((rd_T81 l0 x5_1).f1.f0) (wrap64 (x5_1 + 1)) ((rd_T81 l0 x5_1).f1.f2) ((rd_T81 l0 x5_1).f1.f3) ((rd_T81 l0 x5_1).f1.f4) ((rd_T81 l0 x5_1).f1.f5) ((rd_T81 l0 x5_1).f1.f6.f0) ((rd_T81 l0 x5_1).f1.f6.f1) ((rd_T81 l0 x5_1).f1.f7.f0) ((rd_T81 l0 x5_1).f1.f7.f1) ((rd_T81 l0 x5_1).f1.f8) = some (r1, r2)) ∧ Aside0 (kq ≤ k1) ∧ Aside0 (Kd.R k79 79 w' w.heap.size (fun k_ => k_ ≠ gb173) u4 x4_1) ∧ Aside0 (w'.heap[gb173]? = some (.cells #[.int .i64 ((rd_T81 l0 x5_1).f1.f0), .int .i64 (wrap64 (x5_1 + 1)), .int .i64 ((rd_T81 l0 x5_1).f1.f2), .int .i64 ((rd_T81 l0 x5_1).f1.f3), .int .i64 ((rd_T81 l0 x5_1).f1.f4), .string ((rd_T81 l0 x5_1).f1.f5), .bool ((rd_T81 l0 x5_1).f1.f6.f0), .string ((rd_T81 l0 x5_1).f1.f6.f1), .bool ((rd_T81 l0 x5_1).f1.f7.f0), .string ((rd_T81 l0 x5_1).f1.f7.f1), .int .i64 ((rd_T81 l0 x5_1).f1.f8)] 79 (0, 0))) ∧ Aside0 (Below w.heap.size w w'))
            case atStart => exact ⟨(0), (0), (0), (by first | rfl | (simp; done) | (simp [*]; done)), (by first | rfl | (simp; done) | (simp [*]; done)), (by first | rfl | (simp; done) | (simp [*]; done)), H', ⟨Nat.le_refl _⟩, ⟨by (with_reducible repeat (first | apply Kd.R_alloc | apply Kd.R_drewN | apply Kd.R_drew)); exact Kd.R_mono (Kd.R_far (p := ⟨gb173, 1, none⟩) (Kd.R_far (p := ⟨gb173, 10, none⟩) (Kd.R_far (p := ⟨gb173, 9, none⟩) (Kd.R_far (p := ⟨gb173, 8, none⟩) (Kd.R_far (p := ⟨gb173, 7, none⟩) (Kd.R_far (p := ⟨gb173, 6, none⟩) (Kd.R_far (p := ⟨gb173, 5, none⟩) (Kd.R_far (p := ⟨gb173, 4, none⟩) (Kd.R_far (p := ⟨gb173, 3, none⟩) (Kd.R_far (p := ⟨gb173, 2, none⟩) (Kd.R_far (p := ⟨gb173, 1, none⟩) (Kd.R_far (p := ⟨gb173, 0, none⟩) (Kd.R_mono HO_4.out (fun k_ hk => (⟨hk, hk.2⟩ : _ ∧ k_ ≠ gb173))) (fun _ hk => hk.2) (.int .i64 ((rd_T81 l0 x5_1).f1.f0))) (fun _ hk => hk.2) (.int .i64 ((rd_T81 l0 x5_1).f1.f1))) (fun _ hk => hk.2) (.int .i64 ((rd_T81 l0 x5_1).f1.f2))) (fun _ hk => hk.2) (.int .i64 ((rd_T81 l0 x5_1).f1.f3))) (fun _ hk => hk.2) (.int .i64 ((rd_T81 l0 x5_1).f1.f4))) (fun _ hk => hk.2) (.string ((rd_T81 l0 x5_1).f1.f5))) (fun _ hk => hk.2) (.bool ((rd_T81 l0 x5_1).f1.f6.f0))) (fun _ hk => hk.2) (.string ((rd_T81 l0 x5_1).f1.f6.f1))) (fun _ hk => hk.2) (.bool ((rd_T81 l0 x5_1).f1.f7.f0))) (fun _ hk => hk.2) (.string ((rd_T81 l0 x5_1).f1.f7.f1))) (fun _ hk => hk.2) (.int .i64 ((rd_T81 l0 x5_1).f1.f8))) (fun _ hk => hk.2) (.int .i64 (wrap64 (x5_1 + 1)))) (fun _ hk => hk.1.2)⟩, ⟨by (with_reducible repeat (first | refine blk_drewN ?_ _ | refine blk_drew ?_ | refine blk_alloc ?_ _)); refine blk_put (cs := #[.int .i64 ((rd_T81 l0 x5_1).f1.f0), .int .i64 ((rd_T81 l0 x5_1).f1.f1), .int .i64 ((rd_T81 l0 x5_1).f1.f2), .int .i64 ((rd_T81 l0 x5_1).f1.f3), .int .i64 ((rd_T81 l0 x5_1).f1.f4), .string ((rd_T81 l0 x5_1).f1.f5), .bool ((rd_T81 l0 x5_1).f1.f6.f0), .string ((rd_T81 l0 x5_1).f1.f6.f1), .bool ((rd_T81 l0 x5_1).f1.f7.f0), .string ((rd_T81 l0 x5_1).f1.f7.f1), .int .i64 ((rd_T81 l0 x5_1).f1.f8)]) ?_ 1 _ rfl; (with_reducible repeat (first | refine blk_drewN ?_ _ | refine blk_drew ?_ | refine blk_alloc ?_ _)); refine blk_put (cs := #[.int .i64 ((rd_T81 l0 x5_1).f1.f0), .int .i64 ((rd_T81 l0 x5_1).f1.f1), .int .i64 ((rd_T81 l0 x5_1).f1.f2), .int .i64 ((rd_T81 l0 x5_1).f1.f3), .int .i64 ((rd_T81 l0 x5_1).f1.f4), .string ((rd_T81 l0 x5_1).f1.f5), .bool ((rd_T81 l0 x5_1).f1.f6.f0), .string ((rd_T81 l0 x5_1).f1.f6.f1), .bool ((rd_T81 l0 x5_1).f1.f7.f0), .string ((rd_T81 l0 x5_1).f1.f7.f1), .int .i64 0]) ?_ 10 _ rfl; (with_reducible repeat (first | refine blk_drewN ?_ _ | refine blk_drew ?_ | refine blk_alloc ?_ _)); refine blk_put (cs := #[.int .i64 ((rd_T81 l0 x5_1).f1.f0), .int .i64 ((rd_T81 l0 x5_1).f1.f1), .int .i64 ((rd_T81 l0 x5_1).f1.f2), .int .i64 ((rd_T81 l0 x5_1).f1.f3), .int .i64 ((rd_T81 l0 x5_1).f1.f4), .string ((rd_T81 l0 x5_1).f1.f5), .bool ((rd_T81 l0 x5_1).f1.f6.f0), .string ((rd_T81 l0 x5_1).f1.f6.f1), .bool ((rd_T81 l0 x5_1).f1.f7.f0), .string (⟨#[]⟩ : ByteArray), .int .i64 0]) ?_ 9 _ rfl; (with_reducible repeat (first | refine blk_drewN ?_ _ | refine blk_drew ?_ | refine blk_alloc ?_ _)); refine blk_put (cs := #[.int .i64 ((rd_T81 l0 x5_1).f1.f0), .int .i64 ((rd_T81 l0 x5_1).f1.f1), .int .i64 ((rd_T81 l0 x5_1).f1.f2), .int .i64 ((rd_T81 l0 x5_1).f1.f3), .int .i64 ((rd_T81 l0 x5_1).f1.f4), .string ((rd_T81 l0 x5_1).f1.f5), .bool ((rd_T81 l0 x5_1).f1.f6.f0), .string ((rd_T81 l0 x5_1).f1.f6.f1), .bool false, .string (⟨#[]⟩ : ByteArray), .int .i64 0]) ?_ 8 _ rfl; (with_reducible repeat (first | refine blk_drewN ?_ _ | refine blk_drew ?_ | refine blk_alloc ?_ _)); refine blk_put (cs := #[.int .i64 ((rd_T81 l0 x5_1).f1.f0), .int .i64 ((rd_T81 l0 x5_1).f1.f1), .int .i64 ((rd_T81 l0 x5_1).f1.f2), .int .i64 ((rd_T81 l0 x5_1).f1.f3), .int .i64 ((rd_T81 l0 x5_1).f1.f4), .string ((rd_T81 l0 x5_1).f1.f5), .bool ((rd_T81 l0 x5_1).f1.f6.f0), .string (⟨#[]⟩ : ByteArray), .bool false, .string (⟨#[]⟩ : ByteArray), .int .i64 0]) ?_ 7 _ rfl; (with_reducible repeat (first | refine blk_drewN ?_ _ | refine blk_drew ?_ | refine blk_alloc ?_ _)); refine blk_put (cs := #[.int .i64 ((rd_T81 l0 x5_1).f1.f0), .int .i64 ((rd_T81 l0 x5_1).f1.f1), .int .i64 ((rd_T81 l0 x5_1).f1.f2), .int .i64 ((rd_T81 l0 x5_1).f1.f3), .int .i64 ((rd_T81 l0 x5_1).f1.f4), .string ((rd_T81 l0 x5_1).f1.f5), .bool false, .string (⟨#[]⟩ : ByteArray), .bool false, .string (⟨#[]⟩ : ByteArray), .int .i64 0]) ?_ 6 _ rfl; (with_reducible repeat (first | refine blk_drewN ?_ _ | refine blk_drew ?_ | refine blk_alloc ?_ _)); refine blk_put (cs := #[.int .i64 ((rd_T81 l0 x5_1).f1.f0), .int .i64 ((rd_T81 l0 x5_1).f1.f1), .int .i64 ((rd_T81 l0 x5_1).f1.f2), .int .i64 ((rd_T81 l0 x5_1).f1.f3), .int .i64 ((rd_T81 l0 x5_1).f1.f4), .string (⟨#[]⟩ : ByteArray), .bool false, .string (⟨#[]⟩ : ByteArray), .bool false, .string (⟨#[]⟩ : ByteArray), .int .i64 0]) ?_ 5 _ rfl; (with_reducible repeat (first | refine blk_drewN ?_ _ | refine blk_drew ?_ | refine blk_alloc ?_ _)); refine blk_put (cs := #[.int .i64 ((rd_T81 l0 x5_1).f1.f0), .int .i64 ((rd_T81 l0 x5_1).f1.f1), .int .i64 ((rd_T81 l0 x5_1).f1.f2), .int .i64 ((rd_T81 l0 x5_1).f1.f3), .int .i64 0, .string (⟨#[]⟩ : ByteArray), .bool false, .string (⟨#[]⟩ : ByteArray), .bool false, .string (⟨#[]⟩ : ByteArray), .int .i64 0]) ?_ 4 _ rfl; (with_reducible repeat (first | refine blk_drewN ?_ _ | refine blk_drew ?_ | refine blk_alloc ?_ _)); refine blk_put (cs := #[.int .i64 ((rd_T81 l0 x5_1).f1.f0), .int .i64 ((rd_T81 l0 x5_1).f1.f1), .int .i64 ((rd_T81 l0 x5_1).f1.f2), .int .i64 0, .int .i64 0, .string (⟨#[]⟩ : ByteArray), .bool false, .string (⟨#[]⟩ : ByteArray), .bool false, .string (⟨#[]⟩ : ByteArray), .int .i64 0]) ?_ 3 _ rfl; (with_reducible repeat (first | refine blk_drewN ?_ _ | refine blk_drew ?_ | refine blk_alloc ?_ _)); refine blk_put (cs := #[.int .i64 ((rd_T81 l0 x5_1).f1.f0), .int .i64 ((rd_T81 l0 x5_1).f1.f1), .int .i64 0, .int .i64 0, .int .i64 0, .string (⟨#[]⟩ : ByteArray), .bool false, .string (⟨#[]⟩ : ByteArray), .bool false, .string (⟨#[]⟩ : ByteArray), .int .i64 0]) ?_ 2 _ rfl; (with_reducible repeat (first | refine blk_drewN ?_ _ | refine blk_drew ?_ | refine blk_alloc ?_ _)); refine blk_put (cs := #[.int .i64 ((rd_T81 l0 x5_1).f1.f0), .int .i64 0, .int .i64 0, .int .i64 0, .int .i64 0, .string (⟨#[]⟩ : ByteArray), .bool false, .string (⟨#[]⟩ : ByteArray), .bool false, .string (⟨#[]⟩ : ByteArray), .int .i64 0]) ?_ 1 _ rfl; (with_reducible repeat (first | refine blk_drewN ?_ _ | refine blk_drew ?_ | refine blk_alloc ?_ _)); refine blk_put (cs := #[.int .i64 0, .int .i64 0, .int .i64 0, .int .i64 0, .int .i64 0, .string (⟨#[]⟩ : ByteArray), .bool false, .string (⟨#[]⟩ : ByteArray), .bool false, .string (⟨#[]⟩ : ByteArray), .int .i64 0]) ?_ 0 _ rfl; (with_reducible repeat (first | refine blk_drewN ?_ _ | refine blk_drew ?_ | refine blk_alloc ?_ _)); exact BK173.out⟩, ⟨by repeat (first | (with_reducible first | exact HB.out | apply below_alloc | apply pw_below_drewN | apply below_drew1 | refine below_set ?_ GE173.out) | exact HB.out)⟩⟩
            case round =>
              clear H'
              try clear p1
              try clear q1
              try clear hx1
              try clear c2
              try clear p2
              try clear c3
              try clear c5
              try clear c5b0
              try clear c6
              try clear c6b0
              try clear p6
              try clear hcz8_0
              try clear hcz8_1
              try clear hcz8_10
              try clear hcz8_2
              try clear hcz8_3
              try clear hcz8_4
              try clear hcz8_5
              try clear hcz8_6
              try clear hcz8_7
              try clear hcz8_8
              try clear hcz8_9
              try clear hfz8_0
              try clear hfz8_1
              try clear hfz8_10
              try clear hfz8_2
              try clear hfz8_3
              try clear hfz8_4
              try clear hfz8_5
              try clear hfz8_6
              try clear hfz8_7
              try clear hfz8_8
              try clear hfz8_9
              try clear hx172_0
              try clear hx172_1
              try clear hx172_10
              try clear hx172_11
              try clear hx172_2
              try clear hx172_3
              try clear hx172_4
              try clear hx172_5
              try clear hx172_6
              try clear hx172_7
              try clear hx172_8
              try clear hx172_9
              try clear p172
              try clear p2
              try clear q172
              obtain ⟨x7_2, x8_2, x9_2, rfl, rfl, rfl, HA, HK2, HO_4, BK173, HB⟩ := hrel
              cases gk with
              | zero => exact absurd HA.out (by simp [quadrigalaw29_number.l1])
              | succ k2 =>
                have H := HA.out
                clear HA
                simp only [quadrigalaw29_number.l1] at H
                by_cases c9 : x9_2 < x5_1
                · rw [if_pos c9] at H
                  have c9b0 : decide (x9_2 < x5_1) = true := decide_eq_true c9
                  clear c9
                  have HC10 := Aside0.mk H
                  clear H
                  go_upto_region 13 with (fail)
                  repeat (go_quiet (fail); go_upto_region 13 with (fail))
                  go_cut [51] (fun v51 wc => ∃ (kq : Nat) (x51_9 : Bool), v51 = .bool x51_9 ∧ Aside0 (quadrigalaw29_number.j2 kq l0 x4_1 x5_1 x7_2 x8_2 x9_2 x51_9 ((rd_T81 l0 x5_1).f1.f0) (wrap64 (x5_1 + 1)) ((rd_T81 l0 x5_1).f1.f2) ((rd_T81 l0 x5_1).f1.f3) ((rd_T81 l0 x5_1).f1.f4) ((rd_T81 l0 x5_1).f1.f5) ((rd_T81 l0 x5_1).f1.f6.f0) ((rd_T81 l0 x5_1).f1.f6.f1) ((rd_T81 l0 x5_1).f1.f7.f0) ((rd_T81 l0 x5_1).f1.f7.f1) ((rd_T81 l0 x5_1).f1.f8) = some (r1, r2)) ∧ Aside0 (kq ≤ k2) ∧ Aside0 (Kd.R k79 79 wc w.heap.size (fun k_ => k_ ≠ gb173) u4 x4_1) ∧ Aside0 (wc.heap[gb173]? = some (.cells #[.int .i64 ((rd_T81 l0 x5_1).f1.f0), .int .i64 (wrap64 (x5_1 + 1)), .int .i64 ((rd_T81 l0 x5_1).f1.f2), .int .i64 ((rd_T81 l0 x5_1).f1.f3), .int .i64 ((rd_T81 l0 x5_1).f1.f4), .string ((rd_T81 l0 x5_1).f1.f5), .bool ((rd_T81 l0 x5_1).f1.f6.f0), .string ((rd_T81 l0 x5_1).f1.f6.f1), .bool ((rd_T81 l0 x5_1).f1.f7.f0), .string ((rd_T81 l0 x5_1).f1.f7.f1), .int .i64 ((rd_T81 l0 x5_1).f1.f8)] 79 (0, 0))) ∧ Aside0 (Below w.heap.size w wc))
                  case first =>
                    have H := HC10.out
                    clear HC10
                    by_cases c11 : 0 ≤ x9_2
                    · rw [if_pos c11] at H
                      have c11b0 : decide (0 ≤ x9_2) = true := decide_eq_true c11
                      clear c11
                      (first | rw [c11b0] | (simp only [i64_w, i32_w]; rw [c11b0]) | skip)
                      by_cases c12 : x9_2 < (l0.length : Int)
                      · rw [if_pos c12] at H
                        have c12b0 : decide (x9_2 < (l0.length : Int)) = true := decide_eq_true c12
                        clear c12
                        by_cases c13 : ((rd_T81 l0 x9_2).f1.f2) = ((rd_T81 l0 x5_1).f1.f2)
                        · rw [if_pos c13] at H
                          have c13b0 : (((rd_T81 l0 x9_2).f1.f2) == ((rd_T81 l0 x5_1).f1.f2)) = true := beq_iff_eq.mpr c13
                          have c13b1 : (((rd_T81 l0 x9_2).f1.f2) != ((rd_T81 l0 x5_1).f1.f2)) = false := bne_eq_false_iff_eq.mpr c13
                          clear c13
                          have H' := Aside0.mk H
                          clear H
                          have p174 : 0 ≤ (x9_2 : Int) := of_decide_eq_true (by first | (with_reducible assumption) | assumption)
                          have q174 : x9_2 < (l0.length : Int) := of_decide_eq_true (by first | (with_reducible assumption) | assumption)
                          obtain ⟨ad174, e174, hx174_0, hx174_1, hx174_2, hx174_3, hx174_4, hx174_5, hx174_6, hx174_7, hx174_8, hx174_9, hx174_10, hx174_11⟩ := at_T81 HR0.out x9_2 p174 q174
                          obtain rfl : ad172 = ad174 := (by injection e174)
                          replace hx174_0 := (HB.out.cell (World.block_lt_of_cell? w _ hx174_0)).trans hx174_0
                          replace hx174_1 := (HB.out.cell (World.block_lt_of_cell? w _ hx174_1)).trans hx174_1
                          replace hx174_2 := (HB.out.cell (World.block_lt_of_cell? w _ hx174_2)).trans hx174_2
                          replace hx174_3 := (HB.out.cell (World.block_lt_of_cell? w _ hx174_3)).trans hx174_3
                          replace hx174_4 := (HB.out.cell (World.block_lt_of_cell? w _ hx174_4)).trans hx174_4
                          replace hx174_5 := (HB.out.cell (World.block_lt_of_cell? w _ hx174_5)).trans hx174_5
                          replace hx174_6 := (HB.out.cell (World.block_lt_of_cell? w _ hx174_6)).trans hx174_6
                          replace hx174_7 := (HB.out.cell (World.block_lt_of_cell? w _ hx174_7)).trans hx174_7
                          replace hx174_8 := (HB.out.cell (World.block_lt_of_cell? w _ hx174_8)).trans hx174_8
                          replace hx174_9 := (HB.out.cell (World.block_lt_of_cell? w _ hx174_9)).trans hx174_9
                          replace hx174_10 := (HB.out.cell (World.block_lt_of_cell? w _ hx174_10)).trans hx174_10
                          replace hx174_11 := (HB.out.cell (World.block_lt_of_cell? w _ hx174_11)).trans hx174_11
                          replace p174 := eq_true p174
                          replace q174 := eq_true q174
                          have hcz14_0 : wr.cell? ⟨gb173, 0, none⟩ = some (.int .i64 ((rd_T81 l0 x5_1).f1.f0)) := (blk_cell BK173.out 0).trans rfl
                          have hcz14_1 : wr.cell? ⟨gb173, 1, none⟩ = some (.int .i64 (wrap64 (x5_1 + 1))) := (blk_cell BK173.out 1).trans rfl
                          have hcz14_2 : wr.cell? ⟨gb173, 2, none⟩ = some (.int .i64 ((rd_T81 l0 x5_1).f1.f2)) := (blk_cell BK173.out 2).trans rfl
                          have hcz14_3 : wr.cell? ⟨gb173, 3, none⟩ = some (.int .i64 ((rd_T81 l0 x5_1).f1.f3)) := (blk_cell BK173.out 3).trans rfl
                          have hcz14_4 : wr.cell? ⟨gb173, 4, none⟩ = some (.int .i64 ((rd_T81 l0 x5_1).f1.f4)) := (blk_cell BK173.out 4).trans rfl
                          have hcz14_5 : wr.cell? ⟨gb173, 5, none⟩ = some (.string ((rd_T81 l0 x5_1).f1.f5)) := (blk_cell BK173.out 5).trans rfl
                          have hcz14_6 : wr.cell? ⟨gb173, 6, none⟩ = some (.bool ((rd_T81 l0 x5_1).f1.f6.f0)) := (blk_cell BK173.out 6).trans rfl
                          have hcz14_7 : wr.cell? ⟨gb173, 7, none⟩ = some (.string ((rd_T81 l0 x5_1).f1.f6.f1)) := (blk_cell BK173.out 7).trans rfl
                          have hcz14_8 : wr.cell? ⟨gb173, 8, none⟩ = some (.bool ((rd_T81 l0 x5_1).f1.f7.f0)) := (blk_cell BK173.out 8).trans rfl
                          have hcz14_9 : wr.cell? ⟨gb173, 9, none⟩ = some (.string ((rd_T81 l0 x5_1).f1.f7.f1)) := (blk_cell BK173.out 9).trans rfl
                          have hcz14_10 : wr.cell? ⟨gb173, 10, none⟩ = some (.int .i64 ((rd_T81 l0 x5_1).f1.f8)) := (blk_cell BK173.out 10).trans rfl
                          have hfz14_0 := blk_frozen BK173.out 0
                          have hfz14_1 := blk_frozen BK173.out 1
                          have hfz14_2 := blk_frozen BK173.out 2
                          have hfz14_3 := blk_frozen BK173.out 3
                          have hfz14_4 := blk_frozen BK173.out 4
                          have hfz14_5 := blk_frozen BK173.out 5
                          have hfz14_6 := blk_frozen BK173.out 6
                          have hfz14_7 := blk_frozen BK173.out 7
                          have hfz14_8 := blk_frozen BK173.out 8
                          have hfz14_9 := blk_frozen BK173.out 9
                          have hfz14_10 := blk_frozen BK173.out 10
                          have p175 : 0 ≤ (x9_2 : Int) := of_decide_eq_true (by first | (with_reducible assumption) | assumption)
                          have q175 : x9_2 < (l0.length : Int) := of_decide_eq_true (by first | (with_reducible assumption) | assumption)
                          obtain ⟨ad175, e175, hx175_0, hx175_1, hx175_2, hx175_3, hx175_4, hx175_5, hx175_6, hx175_7, hx175_8, hx175_9, hx175_10, hx175_11⟩ := at_T81 HR0.out x9_2 p175 q175
                          obtain rfl : ad172 = ad175 := (by injection e175)
                          replace hx175_0 := (HB.out.cell (World.block_lt_of_cell? w _ hx175_0)).trans hx175_0
                          replace hx175_1 := (HB.out.cell (World.block_lt_of_cell? w _ hx175_1)).trans hx175_1
                          replace hx175_2 := (HB.out.cell (World.block_lt_of_cell? w _ hx175_2)).trans hx175_2
                          replace hx175_3 := (HB.out.cell (World.block_lt_of_cell? w _ hx175_3)).trans hx175_3
                          replace hx175_4 := (HB.out.cell (World.block_lt_of_cell? w _ hx175_4)).trans hx175_4
                          replace hx175_5 := (HB.out.cell (World.block_lt_of_cell? w _ hx175_5)).trans hx175_5
                          replace hx175_6 := (HB.out.cell (World.block_lt_of_cell? w _ hx175_6)).trans hx175_6
                          replace hx175_7 := (HB.out.cell (World.block_lt_of_cell? w _ hx175_7)).trans hx175_7
                          replace hx175_8 := (HB.out.cell (World.block_lt_of_cell? w _ hx175_8)).trans hx175_8
                          replace hx175_9 := (HB.out.cell (World.block_lt_of_cell? w _ hx175_9)).trans hx175_9
                          replace hx175_10 := (HB.out.cell (World.block_lt_of_cell? w _ hx175_10)).trans hx175_10
                          replace hx175_11 := (HB.out.cell (World.block_lt_of_cell? w _ hx175_11)).trans hx175_11
                          replace p175 := eq_true p175
                          replace q175 := eq_true q175
                          go_wp2
                          repeat (go_quiet (fail); try go_wp2)
                          go_meet
                          case rel => exact ⟨_, ((((rd_T81 l0 x9_2).f1.f1) == ((rd_T81 l0 x5_1).f1.f3))), (by first | rfl | (simp; done) | (simp [*]; done)), H', ⟨by have := HK1.out; have := HK2.out; first | omega | exact Nat.le_refl _⟩, ⟨by (with_reducible repeat (first | apply Kd.R_alloc | apply Kd.R_drewN | apply Kd.R_drew)); exact HO_4.out⟩, ⟨by (with_reducible repeat (first | refine blk_drewN ?_ _ | refine blk_drew ?_ | refine blk_alloc ?_ _)); exact BK173.out⟩, ⟨by repeat (first | (with_reducible first | exact HB.out | apply below_alloc | apply pw_below_drewN | apply below_drew1 | refine below_set ?_ GE173.out) | exact HB.out)⟩⟩
                        · rw [if_neg c13] at H
                          have c13b0 : (((rd_T81 l0 x9_2).f1.f2) == ((rd_T81 l0 x5_1).f1.f2)) = false := beq_eq_false_iff_ne.mpr c13
                          have c13b1 : (((rd_T81 l0 x9_2).f1.f2) != ((rd_T81 l0 x5_1).f1.f2)) = true := bne_iff_ne.mpr c13
                          have H' := Aside0.mk H
                          clear H
                          have p174 : 0 ≤ (x9_2 : Int) := of_decide_eq_true (by first | (with_reducible assumption) | assumption)
                          have q174 : x9_2 < (l0.length : Int) := of_decide_eq_true (by first | (with_reducible assumption) | assumption)
                          obtain ⟨ad174, e174, hx174_0, hx174_1, hx174_2, hx174_3, hx174_4, hx174_5, hx174_6, hx174_7, hx174_8, hx174_9, hx174_10, hx174_11⟩ := at_T81 HR0.out x9_2 p174 q174
                          obtain rfl : ad172 = ad174 := (by injection e174)
                          replace hx174_0 := (HB.out.cell (World.block_lt_of_cell? w _ hx174_0)).trans hx174_0
                          replace hx174_1 := (HB.out.cell (World.block_lt_of_cell? w _ hx174_1)).trans hx174_1
                          replace hx174_2 := (HB.out.cell (World.block_lt_of_cell? w _ hx174_2)).trans hx174_2
                          replace hx174_3 := (HB.out.cell (World.block_lt_of_cell? w _ hx174_3)).trans hx174_3
                          replace hx174_4 := (HB.out.cell (World.block_lt_of_cell? w _ hx174_4)).trans hx174_4
                          replace hx174_5 := (HB.out.cell (World.block_lt_of_cell? w _ hx174_5)).trans hx174_5
                          replace hx174_6 := (HB.out.cell (World.block_lt_of_cell? w _ hx174_6)).trans hx174_6
                          replace hx174_7 := (HB.out.cell (World.block_lt_of_cell? w _ hx174_7)).trans hx174_7
                          replace hx174_8 := (HB.out.cell (World.block_lt_of_cell? w _ hx174_8)).trans hx174_8
                          replace hx174_9 := (HB.out.cell (World.block_lt_of_cell? w _ hx174_9)).trans hx174_9
                          replace hx174_10 := (HB.out.cell (World.block_lt_of_cell? w _ hx174_10)).trans hx174_10
                          replace hx174_11 := (HB.out.cell (World.block_lt_of_cell? w _ hx174_11)).trans hx174_11
                          replace p174 := eq_true p174
                          replace q174 := eq_true q174
                          have hcz15_0 : wr.cell? ⟨gb173, 0, none⟩ = some (.int .i64 ((rd_T81 l0 x5_1).f1.f0)) := (blk_cell BK173.out 0).trans rfl
                          have hcz15_1 : wr.cell? ⟨gb173, 1, none⟩ = some (.int .i64 (wrap64 (x5_1 + 1))) := (blk_cell BK173.out 1).trans rfl
                          have hcz15_2 : wr.cell? ⟨gb173, 2, none⟩ = some (.int .i64 ((rd_T81 l0 x5_1).f1.f2)) := (blk_cell BK173.out 2).trans rfl
                          have hcz15_3 : wr.cell? ⟨gb173, 3, none⟩ = some (.int .i64 ((rd_T81 l0 x5_1).f1.f3)) := (blk_cell BK173.out 3).trans rfl
                          have hcz15_4 : wr.cell? ⟨gb173, 4, none⟩ = some (.int .i64 ((rd_T81 l0 x5_1).f1.f4)) := (blk_cell BK173.out 4).trans rfl
                          have hcz15_5 : wr.cell? ⟨gb173, 5, none⟩ = some (.string ((rd_T81 l0 x5_1).f1.f5)) := (blk_cell BK173.out 5).trans rfl
                          have hcz15_6 : wr.cell? ⟨gb173, 6, none⟩ = some (.bool ((rd_T81 l0 x5_1).f1.f6.f0)) := (blk_cell BK173.out 6).trans rfl
                          have hcz15_7 : wr.cell? ⟨gb173, 7, none⟩ = some (.string ((rd_T81 l0 x5_1).f1.f6.f1)) := (blk_cell BK173.out 7).trans rfl
                          have hcz15_8 : wr.cell? ⟨gb173, 8, none⟩ = some (.bool ((rd_T81 l0 x5_1).f1.f7.f0)) := (blk_cell BK173.out 8).trans rfl
                          have hcz15_9 : wr.cell? ⟨gb173, 9, none⟩ = some (.string ((rd_T81 l0 x5_1).f1.f7.f1)) := (blk_cell BK173.out 9).trans rfl
                          have hcz15_10 : wr.cell? ⟨gb173, 10, none⟩ = some (.int .i64 ((rd_T81 l0 x5_1).f1.f8)) := (blk_cell BK173.out 10).trans rfl
                          have hfz15_0 := blk_frozen BK173.out 0
                          have hfz15_1 := blk_frozen BK173.out 1
                          have hfz15_2 := blk_frozen BK173.out 2
                          have hfz15_3 := blk_frozen BK173.out 3
                          have hfz15_4 := blk_frozen BK173.out 4
                          have hfz15_5 := blk_frozen BK173.out 5
                          have hfz15_6 := blk_frozen BK173.out 6
                          have hfz15_7 := blk_frozen BK173.out 7
                          have hfz15_8 := blk_frozen BK173.out 8
                          have hfz15_9 := blk_frozen BK173.out 9
                          have hfz15_10 := blk_frozen BK173.out 10
                          go_wp2
                          repeat (go_quiet (fail); try go_wp2)
                          go_meet
                          case rel => exact ⟨_, (false), (by first | rfl | (simp; done) | (simp [*]; done)), H', ⟨by have := HK1.out; have := HK2.out; first | omega | exact Nat.le_refl _⟩, ⟨by (with_reducible repeat (first | apply Kd.R_alloc | apply Kd.R_drewN | apply Kd.R_drew)); exact HO_4.out⟩, ⟨by (with_reducible repeat (first | refine blk_drewN ?_ _ | refine blk_drew ?_ | refine blk_alloc ?_ _)); exact BK173.out⟩, ⟨by repeat (first | (with_reducible first | exact HB.out | apply below_alloc | apply pw_below_drewN | apply below_drew1 | refine below_set ?_ GE173.out) | exact HB.out)⟩⟩
                      · rw [if_neg c12] at H
                        exact absurd H (by simp)
                    · rw [if_neg c11] at H
                      exact absurd H (by simp)
                  case rest =>
                    clear HC10
                    try clear c1
                    try clear p1
                    try clear q1
                    try clear hx1
                    try clear c2
                    try clear p2
                    try clear c3
                    try clear c5
                    try clear c5b0
                    try clear c6
                    try clear c6b0
                    try clear p6
                    try clear c9
                    try clear c9b0
                    try clear c11
                    try clear c11b0
                    try clear c12
                    try clear c12b0
                    try clear c13
                    try clear c13b0
                    try clear c13b1
                    try clear hcz14_0
                    try clear hcz14_1
                    try clear hcz14_10
                    try clear hcz14_2
                    try clear hcz14_3
                    try clear hcz14_4
                    try clear hcz14_5
                    try clear hcz14_6
                    try clear hcz14_7
                    try clear hcz14_8
                    try clear hcz14_9
                    try clear hcz15_0
                    try clear hcz15_1
                    try clear hcz15_10
                    try clear hcz15_2
                    try clear hcz15_3
                    try clear hcz15_4
                    try clear hcz15_5
                    try clear hcz15_6
                    try clear hcz15_7
                    try clear hcz15_8
                    try clear hcz15_9
                    try clear hcz8_0
                    try clear hcz8_1
                    try clear hcz8_10
                    try clear hcz8_2
                    try clear hcz8_3
                    try clear hcz8_4
                    try clear hcz8_5
                    try clear hcz8_6
                    try clear hcz8_7
                    try clear hcz8_8
                    try clear hcz8_9
                    try clear hfz14_0
                    try clear hfz14_1
                    try clear hfz14_10
                    try clear hfz14_2
                    try clear hfz14_3
                    try clear hfz14_4
                    try clear hfz14_5
                    try clear hfz14_6
                    try clear hfz14_7
                    try clear hfz14_8
                    try clear hfz14_9
                    try clear hfz15_0
                    try clear hfz15_1
                    try clear hfz15_10
                    try clear hfz15_2
                    try clear hfz15_3
                    try clear hfz15_4
                    try clear hfz15_5
                    try clear hfz15_6
                    try clear hfz15_7
                    try clear hfz15_8
                    try clear hfz15_9
                    try clear hfz8_0
                    try clear hfz8_1
                    try clear hfz8_10
                    try clear hfz8_2
                    try clear hfz8_3
                    try clear hfz8_4
                    try clear hfz8_5
                    try clear hfz8_6
                    try clear hfz8_7
                    try clear hfz8_8
                    try clear hfz8_9
                    try clear hx172_0
                    try clear hx172_1
                    try clear hx172_10
                    try clear hx172_11
                    try clear hx172_2
                    try clear hx172_3
                    try clear hx172_4
                    try clear hx172_5
                    try clear hx172_6
                    try clear hx172_7
                    try clear hx172_8
                    try clear hx172_9
                    try clear hx174_0
                    try clear hx174_1
                    try clear hx174_10
                    try clear hx174_11
                    try clear hx174_2
                    try clear hx174_3
                    try clear hx174_4
                    try clear hx174_5
                    try clear hx174_6
                    try clear hx174_7
                    try clear hx174_8
                    try clear hx174_9
                    try clear hx175_0
                    try clear hx175_1
                    try clear hx175_10
                    try clear hx175_11
                    try clear hx175_2
                    try clear hx175_3
                    try clear hx175_4
                    try clear hx175_5
                    try clear hx175_6
                    try clear hx175_7
                    try clear hx175_8
                    try clear hx175_9
                    try clear p1
                    try clear p172
                    try clear p174
                    try clear p175
                    try clear p2
                    try clear p6
                    try clear q1
                    try clear q172
                    try clear q174
                    try clear q175
                    obtain ⟨kq, x51_9, rfl, HA, HJ9, HO_4, BK173, HB⟩ := hcut
                    cases kq with
                    | zero => exact absurd HA.out (by simp [quadrigalaw29_number.j2])
                    | succ kj9 =>
                      have H := HA.out
                      clear HA
                      simp only [quadrigalaw29_number.j2] at H
                      by_cases c16 : x51_9 = true
                      · subst c16
                        have H1 : (if 0 ≤ x9_2 then (if x9_2 < (l0.length : Int) then (if ((rd_T81 l0 x9_2).f1.f2) = ((rd_T81 l0 x5_1).f1.f2) then (if ((rd_T81 l0 x9_2).f1.f1) = ((rd_T81 l0 x5_1).f1.f8) then (quadrigalaw29_number.l1 kj9 l0 x4_1 x5_1 (wrap64 (x9_2 + 1)) (wrap64 (x9_2 + 1)) (wrap64 (x9_2 + 1)) ((rd_T81 l0 x5_1).f1.f0) (wrap64 (x5_1 + 1)) ((rd_T81 l0 x5_1).f1.f2) ((rd_T81 l0 x5_1).f1.f3) ((rd_T81 l0 x5_1).f1.f4) ((rd_T81 l0 x5_1).f1.f5) ((rd_T81 l0 x5_1).f1.f6.f0) ((rd_T81 l0 x5_1).f1.f6.f1) ((rd_T81 l0 x5_1).f1.f7.f0) ((rd_T81 l0 x5_1).f1.f7.f1) ((rd_T81 l0 x5_1).f1.f8)) else (quadrigalaw29_number.l1 kj9 l0 x4_1 x5_1 (wrap64 (x9_2 + 1)) x8_2 (wrap64 (x9_2 + 1)) ((rd_T81 l0 x5_1).f1.f0) (wrap64 (x5_1 + 1)) ((rd_T81 l0 x5_1).f1.f2) ((rd_T81 l0 x5_1).f1.f3) ((rd_T81 l0 x5_1).f1.f4) ((rd_T81 l0 x5_1).f1.f5) ((rd_T81 l0 x5_1).f1.f6.f0) ((rd_T81 l0 x5_1).f1.f6.f1) ((rd_T81 l0 x5_1).f1.f7.f0) ((rd_T81 l0 x5_1).f1.f7.f1) ((rd_T81 l0 x5_1).f1.f8))) else (quadrigalaw29_number.l1 kj9 l0 x4_1 x5_1 (wrap64 (x9_2 + 1)) x8_2 (wrap64 (x9_2 + 1)) ((rd_T81 l0 x5_1).f1.f0) (wrap64 (x5_1 + 1)) ((rd_T81 l0 x5_1).f1.f2) ((rd_T81 l0 x5_1).f1.f3) ((rd_T81 l0 x5_1).f1.f4) ((rd_T81 l0 x5_1).f1.f5) ((rd_T81 l0 x5_1).f1.f6.f0) ((rd_T81 l0 x5_1).f1.f6.f1) ((rd_T81 l0 x5_1).f1.f7.f0) ((rd_T81 l0 x5_1).f1.f7.f1) ((rd_T81 l0 x5_1).f1.f8))) else (none)) else (none)) = some (r1, r2) := by rw [if_pos rfl] at H; exact H
                        clear H
                        have H := H1
                        clear H1
                        by_cases c17 : 0 ≤ x9_2
                        · rw [if_pos c17] at H
                          have c17b0 : decide (0 ≤ x9_2) = true := decide_eq_true c17
                          clear c17
                          by_cases c18 : x9_2 < (l0.length : Int)
                          · rw [if_pos c18] at H
                            have c18b0 : decide (x9_2 < (l0.length : Int)) = true := decide_eq_true c18
                            clear c18
                            by_cases c19 : ((rd_T81 l0 x9_2).f1.f2) = ((rd_T81 l0 x5_1).f1.f2)
                            · rw [if_pos c19] at H
                              have c19b0 : (((rd_T81 l0 x9_2).f1.f2) == ((rd_T81 l0 x5_1).f1.f2)) = true := beq_iff_eq.mpr c19
                              have c19b1 : (((rd_T81 l0 x9_2).f1.f2) != ((rd_T81 l0 x5_1).f1.f2)) = false := bne_eq_false_iff_eq.mpr c19
                              clear c19
                              by_cases c20 : ((rd_T81 l0 x9_2).f1.f1) = ((rd_T81 l0 x5_1).f1.f8)
                              · rw [if_pos c20] at H
                                have c20b0 : (((rd_T81 l0 x9_2).f1.f1) == ((rd_T81 l0 x5_1).f1.f8)) = true := beq_iff_eq.mpr c20
                                have c20b1 : (((rd_T81 l0 x9_2).f1.f1) != ((rd_T81 l0 x5_1).f1.f8)) = false := bne_eq_false_iff_eq.mpr c20
                                clear c20
                                have H' := Aside0.mk H
                                clear H
                                have p176 : 0 ≤ (x9_2 : Int) := of_decide_eq_true (by first | (with_reducible assumption) | assumption)
                                have q176 : x9_2 < (l0.length : Int) := of_decide_eq_true (by first | (with_reducible assumption) | assumption)
                                obtain ⟨ad176, e176, hx176_0, hx176_1, hx176_2, hx176_3, hx176_4, hx176_5, hx176_6, hx176_7, hx176_8, hx176_9, hx176_10, hx176_11⟩ := at_T81 HR0.out x9_2 p176 q176
                                obtain rfl : ad172 = ad176 := (by injection e176)
                                replace hx176_0 := (HB.out.cell (World.block_lt_of_cell? w _ hx176_0)).trans hx176_0
                                replace hx176_1 := (HB.out.cell (World.block_lt_of_cell? w _ hx176_1)).trans hx176_1
                                replace hx176_2 := (HB.out.cell (World.block_lt_of_cell? w _ hx176_2)).trans hx176_2
                                replace hx176_3 := (HB.out.cell (World.block_lt_of_cell? w _ hx176_3)).trans hx176_3
                                replace hx176_4 := (HB.out.cell (World.block_lt_of_cell? w _ hx176_4)).trans hx176_4
                                replace hx176_5 := (HB.out.cell (World.block_lt_of_cell? w _ hx176_5)).trans hx176_5
                                replace hx176_6 := (HB.out.cell (World.block_lt_of_cell? w _ hx176_6)).trans hx176_6
                                replace hx176_7 := (HB.out.cell (World.block_lt_of_cell? w _ hx176_7)).trans hx176_7
                                replace hx176_8 := (HB.out.cell (World.block_lt_of_cell? w _ hx176_8)).trans hx176_8
                                replace hx176_9 := (HB.out.cell (World.block_lt_of_cell? w _ hx176_9)).trans hx176_9
                                replace hx176_10 := (HB.out.cell (World.block_lt_of_cell? w _ hx176_10)).trans hx176_10
                                replace hx176_11 := (HB.out.cell (World.block_lt_of_cell? w _ hx176_11)).trans hx176_11
                                replace p176 := eq_true p176
                                replace q176 := eq_true q176
                                have hcz21_0 : wc.cell? ⟨gb173, 0, none⟩ = some (.int .i64 ((rd_T81 l0 x5_1).f1.f0)) := (blk_cell BK173.out 0).trans rfl
                                have hcz21_1 : wc.cell? ⟨gb173, 1, none⟩ = some (.int .i64 (wrap64 (x5_1 + 1))) := (blk_cell BK173.out 1).trans rfl
                                have hcz21_2 : wc.cell? ⟨gb173, 2, none⟩ = some (.int .i64 ((rd_T81 l0 x5_1).f1.f2)) := (blk_cell BK173.out 2).trans rfl
                                have hcz21_3 : wc.cell? ⟨gb173, 3, none⟩ = some (.int .i64 ((rd_T81 l0 x5_1).f1.f3)) := (blk_cell BK173.out 3).trans rfl
                                have hcz21_4 : wc.cell? ⟨gb173, 4, none⟩ = some (.int .i64 ((rd_T81 l0 x5_1).f1.f4)) := (blk_cell BK173.out 4).trans rfl
                                have hcz21_5 : wc.cell? ⟨gb173, 5, none⟩ = some (.string ((rd_T81 l0 x5_1).f1.f5)) := (blk_cell BK173.out 5).trans rfl
                                have hcz21_6 : wc.cell? ⟨gb173, 6, none⟩ = some (.bool ((rd_T81 l0 x5_1).f1.f6.f0)) := (blk_cell BK173.out 6).trans rfl
                                have hcz21_7 : wc.cell? ⟨gb173, 7, none⟩ = some (.string ((rd_T81 l0 x5_1).f1.f6.f1)) := (blk_cell BK173.out 7).trans rfl
                                have hcz21_8 : wc.cell? ⟨gb173, 8, none⟩ = some (.bool ((rd_T81 l0 x5_1).f1.f7.f0)) := (blk_cell BK173.out 8).trans rfl
                                have hcz21_9 : wc.cell? ⟨gb173, 9, none⟩ = some (.string ((rd_T81 l0 x5_1).f1.f7.f1)) := (blk_cell BK173.out 9).trans rfl
                                have hcz21_10 : wc.cell? ⟨gb173, 10, none⟩ = some (.int .i64 ((rd_T81 l0 x5_1).f1.f8)) := (blk_cell BK173.out 10).trans rfl
                                have hfz21_0 := blk_frozen BK173.out 0
                                have hfz21_1 := blk_frozen BK173.out 1
                                have hfz21_2 := blk_frozen BK173.out 2
                                have hfz21_3 := blk_frozen BK173.out 3
                                have hfz21_4 := blk_frozen BK173.out 4
                                have hfz21_5 := blk_frozen BK173.out 5
                                have hfz21_6 := blk_frozen BK173.out 6
                                have hfz21_7 := blk_frozen BK173.out 7
                                have hfz21_8 := blk_frozen BK173.out 8
                                have hfz21_9 := blk_frozen BK173.out 9
                                have hfz21_10 := blk_frozen BK173.out 10
                                have p177 : 0 ≤ (x9_2 : Int) := of_decide_eq_true (by first | (with_reducible assumption) | assumption)
                                have q177 : x9_2 < (l0.length : Int) := of_decide_eq_true (by first | (with_reducible assumption) | assumption)
                                obtain ⟨ad177, e177, hx177_0, hx177_1, hx177_2, hx177_3, hx177_4, hx177_5, hx177_6, hx177_7, hx177_8, hx177_9, hx177_10, hx177_11⟩ := at_T81 HR0.out x9_2 p177 q177
                                obtain rfl : ad172 = ad177 := (by injection e177)
                                replace hx177_0 := (HB.out.cell (World.block_lt_of_cell? w _ hx177_0)).trans hx177_0
                                replace hx177_1 := (HB.out.cell (World.block_lt_of_cell? w _ hx177_1)).trans hx177_1
                                replace hx177_2 := (HB.out.cell (World.block_lt_of_cell? w _ hx177_2)).trans hx177_2
                                replace hx177_3 := (HB.out.cell (World.block_lt_of_cell? w _ hx177_3)).trans hx177_3
                                replace hx177_4 := (HB.out.cell (World.block_lt_of_cell? w _ hx177_4)).trans hx177_4
                                replace hx177_5 := (HB.out.cell (World.block_lt_of_cell? w _ hx177_5)).trans hx177_5
                                replace hx177_6 := (HB.out.cell (World.block_lt_of_cell? w _ hx177_6)).trans hx177_6
                                replace hx177_7 := (HB.out.cell (World.block_lt_of_cell? w _ hx177_7)).trans hx177_7
                                replace hx177_8 := (HB.out.cell (World.block_lt_of_cell? w _ hx177_8)).trans hx177_8
                                replace hx177_9 := (HB.out.cell (World.block_lt_of_cell? w _ hx177_9)).trans hx177_9
                                replace hx177_10 := (HB.out.cell (World.block_lt_of_cell? w _ hx177_10)).trans hx177_10
                                replace hx177_11 := (HB.out.cell (World.block_lt_of_cell? w _ hx177_11)).trans hx177_11
                                replace p177 := eq_true p177
                                replace q177 := eq_true q177
                                go_wp2
                                repeat (go_quiet (fail); try go_wp2)
                                go_roundg kj9
                                case measure => have := HK1.out; have := HK2.out; have := HJ9.out; omega
                                case rel => exact ⟨(wrap64 (x9_2 + 1)), (wrap64 (x9_2 + 1)), (wrap64 (x9_2 + 1)), (by first | rfl | (simp; done) | (simp [*]; done)), (by first | rfl | (simp; done) | (simp [*]; done)), (by first | rfl | (simp; done) | (simp [*]; done)), H', ⟨by have := HK1.out; have := HK2.out; have := HJ9.out; omega⟩, ⟨by (with_reducible repeat (first | apply Kd.R_alloc | apply Kd.R_drewN | apply Kd.R_drew)); exact HO_4.out⟩, ⟨by (with_reducible repeat (first | refine blk_drewN ?_ _ | refine blk_drew ?_ | refine blk_alloc ?_ _)); exact BK173.out⟩, ⟨by repeat (first | (with_reducible first | exact HB.out | apply below_alloc | apply pw_below_drewN | apply below_drew1 | refine below_set ?_ GE173.out) | exact HB.out)⟩⟩
                              · rw [if_neg c20] at H
                                have c20b0 : (((rd_T81 l0 x9_2).f1.f1) == ((rd_T81 l0 x5_1).f1.f8)) = false := beq_eq_false_iff_ne.mpr c20
                                have c20b1 : (((rd_T81 l0 x9_2).f1.f1) != ((rd_T81 l0 x5_1).f1.f8)) = true := bne_iff_ne.mpr c20
                                have H' := Aside0.mk H
                                clear H
                                have p176 : 0 ≤ (x9_2 : Int) := of_decide_eq_true (by first | (with_reducible assumption) | assumption)
                                have q176 : x9_2 < (l0.length : Int) := of_decide_eq_true (by first | (with_reducible assumption) | assumption)
                                obtain ⟨ad176, e176, hx176_0, hx176_1, hx176_2, hx176_3, hx176_4, hx176_5, hx176_6, hx176_7, hx176_8, hx176_9, hx176_10, hx176_11⟩ := at_T81 HR0.out x9_2 p176 q176
                                obtain rfl : ad172 = ad176 := (by injection e176)
                                replace hx176_0 := (HB.out.cell (World.block_lt_of_cell? w _ hx176_0)).trans hx176_0
                                replace hx176_1 := (HB.out.cell (World.block_lt_of_cell? w _ hx176_1)).trans hx176_1
                                replace hx176_2 := (HB.out.cell (World.block_lt_of_cell? w _ hx176_2)).trans hx176_2
                                replace hx176_3 := (HB.out.cell (World.block_lt_of_cell? w _ hx176_3)).trans hx176_3
                                replace hx176_4 := (HB.out.cell (World.block_lt_of_cell? w _ hx176_4)).trans hx176_4
                                replace hx176_5 := (HB.out.cell (World.block_lt_of_cell? w _ hx176_5)).trans hx176_5
                                replace hx176_6 := (HB.out.cell (World.block_lt_of_cell? w _ hx176_6)).trans hx176_6
                                replace hx176_7 := (HB.out.cell (World.block_lt_of_cell? w _ hx176_7)).trans hx176_7
                                replace hx176_8 := (HB.out.cell (World.block_lt_of_cell? w _ hx176_8)).trans hx176_8
                                replace hx176_9 := (HB.out.cell (World.block_lt_of_cell? w _ hx176_9)).trans hx176_9
                                replace hx176_10 := (HB.out.cell (World.block_lt_of_cell? w _ hx176_10)).trans hx176_10
                                replace hx176_11 := (HB.out.cell (World.block_lt_of_cell? w _ hx176_11)).trans hx176_11
                                replace p176 := eq_true p176
                                replace q176 := eq_true q176
                                have hcz22_0 : wc.cell? ⟨gb173, 0, none⟩ = some (.int .i64 ((rd_T81 l0 x5_1).f1.f0)) := (blk_cell BK173.out 0).trans rfl
                                have hcz22_1 : wc.cell? ⟨gb173, 1, none⟩ = some (.int .i64 (wrap64 (x5_1 + 1))) := (blk_cell BK173.out 1).trans rfl
                                have hcz22_2 : wc.cell? ⟨gb173, 2, none⟩ = some (.int .i64 ((rd_T81 l0 x5_1).f1.f2)) := (blk_cell BK173.out 2).trans rfl
                                have hcz22_3 : wc.cell? ⟨gb173, 3, none⟩ = some (.int .i64 ((rd_T81 l0 x5_1).f1.f3)) := (blk_cell BK173.out 3).trans rfl
                                have hcz22_4 : wc.cell? ⟨gb173, 4, none⟩ = some (.int .i64 ((rd_T81 l0 x5_1).f1.f4)) := (blk_cell BK173.out 4).trans rfl
                                have hcz22_5 : wc.cell? ⟨gb173, 5, none⟩ = some (.string ((rd_T81 l0 x5_1).f1.f5)) := (blk_cell BK173.out 5).trans rfl
                                have hcz22_6 : wc.cell? ⟨gb173, 6, none⟩ = some (.bool ((rd_T81 l0 x5_1).f1.f6.f0)) := (blk_cell BK173.out 6).trans rfl
                                have hcz22_7 : wc.cell? ⟨gb173, 7, none⟩ = some (.string ((rd_T81 l0 x5_1).f1.f6.f1)) := (blk_cell BK173.out 7).trans rfl
                                have hcz22_8 : wc.cell? ⟨gb173, 8, none⟩ = some (.bool ((rd_T81 l0 x5_1).f1.f7.f0)) := (blk_cell BK173.out 8).trans rfl
                                have hcz22_9 : wc.cell? ⟨gb173, 9, none⟩ = some (.string ((rd_T81 l0 x5_1).f1.f7.f1)) := (blk_cell BK173.out 9).trans rfl
                                have hcz22_10 : wc.cell? ⟨gb173, 10, none⟩ = some (.int .i64 ((rd_T81 l0 x5_1).f1.f8)) := (blk_cell BK173.out 10).trans rfl
                                have hfz22_0 := blk_frozen BK173.out 0
                                have hfz22_1 := blk_frozen BK173.out 1
                                have hfz22_2 := blk_frozen BK173.out 2
                                have hfz22_3 := blk_frozen BK173.out 3
                                have hfz22_4 := blk_frozen BK173.out 4
                                have hfz22_5 := blk_frozen BK173.out 5
                                have hfz22_6 := blk_frozen BK173.out 6
                                have hfz22_7 := blk_frozen BK173.out 7
                                have hfz22_8 := blk_frozen BK173.out 8
                                have hfz22_9 := blk_frozen BK173.out 9
                                have hfz22_10 := blk_frozen BK173.out 10
                                have p177 : 0 ≤ (x9_2 : Int) := of_decide_eq_true (by first | (with_reducible assumption) | assumption)
                                have q177 : x9_2 < (l0.length : Int) := of_decide_eq_true (by first | (with_reducible assumption) | assumption)
                                obtain ⟨ad177, e177, hx177_0, hx177_1, hx177_2, hx177_3, hx177_4, hx177_5, hx177_6, hx177_7, hx177_8, hx177_9, hx177_10, hx177_11⟩ := at_T81 HR0.out x9_2 p177 q177
                                obtain rfl : ad172 = ad177 := (by injection e177)
                                replace hx177_0 := (HB.out.cell (World.block_lt_of_cell? w _ hx177_0)).trans hx177_0
                                replace hx177_1 := (HB.out.cell (World.block_lt_of_cell? w _ hx177_1)).trans hx177_1
                                replace hx177_2 := (HB.out.cell (World.block_lt_of_cell? w _ hx177_2)).trans hx177_2
                                replace hx177_3 := (HB.out.cell (World.block_lt_of_cell? w _ hx177_3)).trans hx177_3
                                replace hx177_4 := (HB.out.cell (World.block_lt_of_cell? w _ hx177_4)).trans hx177_4
                                replace hx177_5 := (HB.out.cell (World.block_lt_of_cell? w _ hx177_5)).trans hx177_5
                                replace hx177_6 := (HB.out.cell (World.block_lt_of_cell? w _ hx177_6)).trans hx177_6
                                replace hx177_7 := (HB.out.cell (World.block_lt_of_cell? w _ hx177_7)).trans hx177_7
                                replace hx177_8 := (HB.out.cell (World.block_lt_of_cell? w _ hx177_8)).trans hx177_8
                                replace hx177_9 := (HB.out.cell (World.block_lt_of_cell? w _ hx177_9)).trans hx177_9
                                replace hx177_10 := (HB.out.cell (World.block_lt_of_cell? w _ hx177_10)).trans hx177_10
                                replace hx177_11 := (HB.out.cell (World.block_lt_of_cell? w _ hx177_11)).trans hx177_11
                                replace p177 := eq_true p177
                                replace q177 := eq_true q177
                                go_wp2
                                repeat (go_quiet (fail); try go_wp2)
                                go_roundg kj9
                                case measure => have := HK1.out; have := HK2.out; have := HJ9.out; omega
                                case rel => exact ⟨(wrap64 (x9_2 + 1)), (x8_2), (wrap64 (x9_2 + 1)), (by first | rfl | (simp; done) | (simp [*]; done)), (by first | rfl | (simp; done) | (simp [*]; done)), (by first | rfl | (simp; done) | (simp [*]; done)), H', ⟨by have := HK1.out; have := HK2.out; have := HJ9.out; omega⟩, ⟨by (with_reducible repeat (first | apply Kd.R_alloc | apply Kd.R_drewN | apply Kd.R_drew)); exact HO_4.out⟩, ⟨by (with_reducible repeat (first | refine blk_drewN ?_ _ | refine blk_drew ?_ | refine blk_alloc ?_ _)); exact BK173.out⟩, ⟨by repeat (first | (with_reducible first | exact HB.out | apply below_alloc | apply pw_below_drewN | apply below_drew1 | refine below_set ?_ GE173.out) | exact HB.out)⟩⟩
                            · rw [if_neg c19] at H
                              have c19b0 : (((rd_T81 l0 x9_2).f1.f2) == ((rd_T81 l0 x5_1).f1.f2)) = false := beq_eq_false_iff_ne.mpr c19
                              have c19b1 : (((rd_T81 l0 x9_2).f1.f2) != ((rd_T81 l0 x5_1).f1.f2)) = true := bne_iff_ne.mpr c19
                              have H' := Aside0.mk H
                              clear H
                              have p176 : 0 ≤ (x9_2 : Int) := of_decide_eq_true (by first | (with_reducible assumption) | assumption)
                              have q176 : x9_2 < (l0.length : Int) := of_decide_eq_true (by first | (with_reducible assumption) | assumption)
                              obtain ⟨ad176, e176, hx176_0, hx176_1, hx176_2, hx176_3, hx176_4, hx176_5, hx176_6, hx176_7, hx176_8, hx176_9, hx176_10, hx176_11⟩ := at_T81 HR0.out x9_2 p176 q176
                              obtain rfl : ad172 = ad176 := (by injection e176)
                              replace hx176_0 := (HB.out.cell (World.block_lt_of_cell? w _ hx176_0)).trans hx176_0
                              replace hx176_1 := (HB.out.cell (World.block_lt_of_cell? w _ hx176_1)).trans hx176_1
                              replace hx176_2 := (HB.out.cell (World.block_lt_of_cell? w _ hx176_2)).trans hx176_2
                              replace hx176_3 := (HB.out.cell (World.block_lt_of_cell? w _ hx176_3)).trans hx176_3
                              replace hx176_4 := (HB.out.cell (World.block_lt_of_cell? w _ hx176_4)).trans hx176_4
                              replace hx176_5 := (HB.out.cell (World.block_lt_of_cell? w _ hx176_5)).trans hx176_5
                              replace hx176_6 := (HB.out.cell (World.block_lt_of_cell? w _ hx176_6)).trans hx176_6
                              replace hx176_7 := (HB.out.cell (World.block_lt_of_cell? w _ hx176_7)).trans hx176_7
                              replace hx176_8 := (HB.out.cell (World.block_lt_of_cell? w _ hx176_8)).trans hx176_8
                              replace hx176_9 := (HB.out.cell (World.block_lt_of_cell? w _ hx176_9)).trans hx176_9
                              replace hx176_10 := (HB.out.cell (World.block_lt_of_cell? w _ hx176_10)).trans hx176_10
                              replace hx176_11 := (HB.out.cell (World.block_lt_of_cell? w _ hx176_11)).trans hx176_11
                              replace p176 := eq_true p176
                              replace q176 := eq_true q176
                              have hcz23_0 : wc.cell? ⟨gb173, 0, none⟩ = some (.int .i64 ((rd_T81 l0 x5_1).f1.f0)) := (blk_cell BK173.out 0).trans rfl
                              have hcz23_1 : wc.cell? ⟨gb173, 1, none⟩ = some (.int .i64 (wrap64 (x5_1 + 1))) := (blk_cell BK173.out 1).trans rfl
                              have hcz23_2 : wc.cell? ⟨gb173, 2, none⟩ = some (.int .i64 ((rd_T81 l0 x5_1).f1.f2)) := (blk_cell BK173.out 2).trans rfl
                              have hcz23_3 : wc.cell? ⟨gb173, 3, none⟩ = some (.int .i64 ((rd_T81 l0 x5_1).f1.f3)) := (blk_cell BK173.out 3).trans rfl
                              have hcz23_4 : wc.cell? ⟨gb173, 4, none⟩ = some (.int .i64 ((rd_T81 l0 x5_1).f1.f4)) := (blk_cell BK173.out 4).trans rfl
                              have hcz23_5 : wc.cell? ⟨gb173, 5, none⟩ = some (.string ((rd_T81 l0 x5_1).f1.f5)) := (blk_cell BK173.out 5).trans rfl
                              have hcz23_6 : wc.cell? ⟨gb173, 6, none⟩ = some (.bool ((rd_T81 l0 x5_1).f1.f6.f0)) := (blk_cell BK173.out 6).trans rfl
                              have hcz23_7 : wc.cell? ⟨gb173, 7, none⟩ = some (.string ((rd_T81 l0 x5_1).f1.f6.f1)) := (blk_cell BK173.out 7).trans rfl
                              have hcz23_8 : wc.cell? ⟨gb173, 8, none⟩ = some (.bool ((rd_T81 l0 x5_1).f1.f7.f0)) := (blk_cell BK173.out 8).trans rfl
                              have hcz23_9 : wc.cell? ⟨gb173, 9, none⟩ = some (.string ((rd_T81 l0 x5_1).f1.f7.f1)) := (blk_cell BK173.out 9).trans rfl
                              have hcz23_10 : wc.cell? ⟨gb173, 10, none⟩ = some (.int .i64 ((rd_T81 l0 x5_1).f1.f8)) := (blk_cell BK173.out 10).trans rfl
                              have hfz23_0 := blk_frozen BK173.out 0
                              have hfz23_1 := blk_frozen BK173.out 1
                              have hfz23_2 := blk_frozen BK173.out 2
                              have hfz23_3 := blk_frozen BK173.out 3
                              have hfz23_4 := blk_frozen BK173.out 4
                              have hfz23_5 := blk_frozen BK173.out 5
                              have hfz23_6 := blk_frozen BK173.out 6
                              have hfz23_7 := blk_frozen BK173.out 7
                              have hfz23_8 := blk_frozen BK173.out 8
                              have hfz23_9 := blk_frozen BK173.out 9
                              have hfz23_10 := blk_frozen BK173.out 10
                              go_wp2
                              repeat (go_quiet (fail); try go_wp2)
                              go_roundg kj9
                              case measure => have := HK1.out; have := HK2.out; have := HJ9.out; omega
                              case rel => exact ⟨(wrap64 (x9_2 + 1)), (x8_2), (wrap64 (x9_2 + 1)), (by first | rfl | (simp; done) | (simp [*]; done)), (by first | rfl | (simp; done) | (simp [*]; done)), (by first | rfl | (simp; done) | (simp [*]; done)), H', ⟨by have := HK1.out; have := HK2.out; have := HJ9.out; omega⟩, ⟨by (with_reducible repeat (first | apply Kd.R_alloc | apply Kd.R_drewN | apply Kd.R_drew)); exact HO_4.out⟩, ⟨by (with_reducible repeat (first | refine blk_drewN ?_ _ | refine blk_drew ?_ | refine blk_alloc ?_ _)); exact BK173.out⟩, ⟨by repeat (first | (with_reducible first | exact HB.out | apply below_alloc | apply pw_below_drewN | apply below_drew1 | refine below_set ?_ GE173.out) | exact HB.out)⟩⟩
                          · rw [if_neg c18] at H
                            exact absurd H (by simp)
                        · rw [if_neg c17] at H
                          exact absurd H (by simp)
                      · replace c16 := Bool.eq_false_iff.mpr c16
                        subst c16
                        have H1 : (if 0 ≤ x9_2 then (if x9_2 < (l0.length : Int) then (if ((rd_T81 l0 x9_2).f1.f2) = ((rd_T81 l0 x5_1).f1.f2) then (if ((rd_T81 l0 x9_2).f1.f1) = ((rd_T81 l0 x5_1).f1.f8) then (quadrigalaw29_number.l1 kj9 l0 x4_1 x5_1 x7_2 (wrap64 (x9_2 + 1)) (wrap64 (x9_2 + 1)) ((rd_T81 l0 x5_1).f1.f0) (wrap64 (x5_1 + 1)) ((rd_T81 l0 x5_1).f1.f2) ((rd_T81 l0 x5_1).f1.f3) ((rd_T81 l0 x5_1).f1.f4) ((rd_T81 l0 x5_1).f1.f5) ((rd_T81 l0 x5_1).f1.f6.f0) ((rd_T81 l0 x5_1).f1.f6.f1) ((rd_T81 l0 x5_1).f1.f7.f0) ((rd_T81 l0 x5_1).f1.f7.f1) ((rd_T81 l0 x5_1).f1.f8)) else (quadrigalaw29_number.l1 kj9 l0 x4_1 x5_1 x7_2 x8_2 (wrap64 (x9_2 + 1)) ((rd_T81 l0 x5_1).f1.f0) (wrap64 (x5_1 + 1)) ((rd_T81 l0 x5_1).f1.f2) ((rd_T81 l0 x5_1).f1.f3) ((rd_T81 l0 x5_1).f1.f4) ((rd_T81 l0 x5_1).f1.f5) ((rd_T81 l0 x5_1).f1.f6.f0) ((rd_T81 l0 x5_1).f1.f6.f1) ((rd_T81 l0 x5_1).f1.f7.f0) ((rd_T81 l0 x5_1).f1.f7.f1) ((rd_T81 l0 x5_1).f1.f8))) else (quadrigalaw29_number.l1 kj9 l0 x4_1 x5_1 x7_2 x8_2 (wrap64 (x9_2 + 1)) ((rd_T81 l0 x5_1).f1.f0) (wrap64 (x5_1 + 1)) ((rd_T81 l0 x5_1).f1.f2) ((rd_T81 l0 x5_1).f1.f3) ((rd_T81 l0 x5_1).f1.f4) ((rd_T81 l0 x5_1).f1.f5) ((rd_T81 l0 x5_1).f1.f6.f0) ((rd_T81 l0 x5_1).f1.f6.f1) ((rd_T81 l0 x5_1).f1.f7.f0) ((rd_T81 l0 x5_1).f1.f7.f1) ((rd_T81 l0 x5_1).f1.f8))) else (none)) else (none)) = some (r1, r2) := by rw [if_neg (show ¬ (false = true) by decide)] at H; exact H
                        clear H
                        have H := H1
                        clear H1
                        by_cases c24 : 0 ≤ x9_2
                        · rw [if_pos c24] at H
                          have c24b0 : decide (0 ≤ x9_2) = true := decide_eq_true c24
                          clear c24
                          by_cases c25 : x9_2 < (l0.length : Int)
                          · rw [if_pos c25] at H
                            have c25b0 : decide (x9_2 < (l0.length : Int)) = true := decide_eq_true c25
                            clear c25
                            by_cases c26 : ((rd_T81 l0 x9_2).f1.f2) = ((rd_T81 l0 x5_1).f1.f2)
                            · rw [if_pos c26] at H
                              have c26b0 : (((rd_T81 l0 x9_2).f1.f2) == ((rd_T81 l0 x5_1).f1.f2)) = true := beq_iff_eq.mpr c26
                              have c26b1 : (((rd_T81 l0 x9_2).f1.f2) != ((rd_T81 l0 x5_1).f1.f2)) = false := bne_eq_false_iff_eq.mpr c26
                              clear c26
                              by_cases c27 : ((rd_T81 l0 x9_2).f1.f1) = ((rd_T81 l0 x5_1).f1.f8)
                              · rw [if_pos c27] at H
                                have c27b0 : (((rd_T81 l0 x9_2).f1.f1) == ((rd_T81 l0 x5_1).f1.f8)) = true := beq_iff_eq.mpr c27
                                have c27b1 : (((rd_T81 l0 x9_2).f1.f1) != ((rd_T81 l0 x5_1).f1.f8)) = false := bne_eq_false_iff_eq.mpr c27
                                clear c27
                                have H' := Aside0.mk H
                                clear H
                                have p178 : 0 ≤ (x9_2 : Int) := of_decide_eq_true (by first | (with_reducible assumption) | assumption)
                                have q178 : x9_2 < (l0.length : Int) := of_decide_eq_true (by first | (with_reducible assumption) | assumption)
                                obtain ⟨ad178, e178, hx178_0, hx178_1, hx178_2, hx178_3, hx178_4, hx178_5, hx178_6, hx178_7, hx178_8, hx178_9, hx178_10, hx178_11⟩ := at_T81 HR0.out x9_2 p178 q178
                                obtain rfl : ad172 = ad178 := (by injection e178)
                                replace hx178_0 := (HB.out.cell (World.block_lt_of_cell? w _ hx178_0)).trans hx178_0
                                replace hx178_1 := (HB.out.cell (World.block_lt_of_cell? w _ hx178_1)).trans hx178_1
                                replace hx178_2 := (HB.out.cell (World.block_lt_of_cell? w _ hx178_2)).trans hx178_2
                                replace hx178_3 := (HB.out.cell (World.block_lt_of_cell? w _ hx178_3)).trans hx178_3
                                replace hx178_4 := (HB.out.cell (World.block_lt_of_cell? w _ hx178_4)).trans hx178_4
                                replace hx178_5 := (HB.out.cell (World.block_lt_of_cell? w _ hx178_5)).trans hx178_5
                                replace hx178_6 := (HB.out.cell (World.block_lt_of_cell? w _ hx178_6)).trans hx178_6
                                replace hx178_7 := (HB.out.cell (World.block_lt_of_cell? w _ hx178_7)).trans hx178_7
                                replace hx178_8 := (HB.out.cell (World.block_lt_of_cell? w _ hx178_8)).trans hx178_8
                                replace hx178_9 := (HB.out.cell (World.block_lt_of_cell? w _ hx178_9)).trans hx178_9
                                replace hx178_10 := (HB.out.cell (World.block_lt_of_cell? w _ hx178_10)).trans hx178_10
                                replace hx178_11 := (HB.out.cell (World.block_lt_of_cell? w _ hx178_11)).trans hx178_11
                                replace p178 := eq_true p178
                                replace q178 := eq_true q178
                                have hcz28_0 : wc.cell? ⟨gb173, 0, none⟩ = some (.int .i64 ((rd_T81 l0 x5_1).f1.f0)) := (blk_cell BK173.out 0).trans rfl
                                have hcz28_1 : wc.cell? ⟨gb173, 1, none⟩ = some (.int .i64 (wrap64 (x5_1 + 1))) := (blk_cell BK173.out 1).trans rfl
                                have hcz28_2 : wc.cell? ⟨gb173, 2, none⟩ = some (.int .i64 ((rd_T81 l0 x5_1).f1.f2)) := (blk_cell BK173.out 2).trans rfl
                                have hcz28_3 : wc.cell? ⟨gb173, 3, none⟩ = some (.int .i64 ((rd_T81 l0 x5_1).f1.f3)) := (blk_cell BK173.out 3).trans rfl
                                have hcz28_4 : wc.cell? ⟨gb173, 4, none⟩ = some (.int .i64 ((rd_T81 l0 x5_1).f1.f4)) := (blk_cell BK173.out 4).trans rfl
                                have hcz28_5 : wc.cell? ⟨gb173, 5, none⟩ = some (.string ((rd_T81 l0 x5_1).f1.f5)) := (blk_cell BK173.out 5).trans rfl
                                have hcz28_6 : wc.cell? ⟨gb173, 6, none⟩ = some (.bool ((rd_T81 l0 x5_1).f1.f6.f0)) := (blk_cell BK173.out 6).trans rfl
                                have hcz28_7 : wc.cell? ⟨gb173, 7, none⟩ = some (.string ((rd_T81 l0 x5_1).f1.f6.f1)) := (blk_cell BK173.out 7).trans rfl
                                have hcz28_8 : wc.cell? ⟨gb173, 8, none⟩ = some (.bool ((rd_T81 l0 x5_1).f1.f7.f0)) := (blk_cell BK173.out 8).trans rfl
                                have hcz28_9 : wc.cell? ⟨gb173, 9, none⟩ = some (.string ((rd_T81 l0 x5_1).f1.f7.f1)) := (blk_cell BK173.out 9).trans rfl
                                have hcz28_10 : wc.cell? ⟨gb173, 10, none⟩ = some (.int .i64 ((rd_T81 l0 x5_1).f1.f8)) := (blk_cell BK173.out 10).trans rfl
                                have hfz28_0 := blk_frozen BK173.out 0
                                have hfz28_1 := blk_frozen BK173.out 1
                                have hfz28_2 := blk_frozen BK173.out 2
                                have hfz28_3 := blk_frozen BK173.out 3
                                have hfz28_4 := blk_frozen BK173.out 4
                                have hfz28_5 := blk_frozen BK173.out 5
                                have hfz28_6 := blk_frozen BK173.out 6
                                have hfz28_7 := blk_frozen BK173.out 7
                                have hfz28_8 := blk_frozen BK173.out 8
                                have hfz28_9 := blk_frozen BK173.out 9
                                have hfz28_10 := blk_frozen BK173.out 10
                                have p179 : 0 ≤ (x9_2 : Int) := of_decide_eq_true (by first | (with_reducible assumption) | assumption)
                                have q179 : x9_2 < (l0.length : Int) := of_decide_eq_true (by first | (with_reducible assumption) | assumption)
                                obtain ⟨ad179, e179, hx179_0, hx179_1, hx179_2, hx179_3, hx179_4, hx179_5, hx179_6, hx179_7, hx179_8, hx179_9, hx179_10, hx179_11⟩ := at_T81 HR0.out x9_2 p179 q179
                                obtain rfl : ad172 = ad179 := (by injection e179)
                                replace hx179_0 := (HB.out.cell (World.block_lt_of_cell? w _ hx179_0)).trans hx179_0
                                replace hx179_1 := (HB.out.cell (World.block_lt_of_cell? w _ hx179_1)).trans hx179_1
                                replace hx179_2 := (HB.out.cell (World.block_lt_of_cell? w _ hx179_2)).trans hx179_2
                                replace hx179_3 := (HB.out.cell (World.block_lt_of_cell? w _ hx179_3)).trans hx179_3
                                replace hx179_4 := (HB.out.cell (World.block_lt_of_cell? w _ hx179_4)).trans hx179_4
                                replace hx179_5 := (HB.out.cell (World.block_lt_of_cell? w _ hx179_5)).trans hx179_5
                                replace hx179_6 := (HB.out.cell (World.block_lt_of_cell? w _ hx179_6)).trans hx179_6
                                replace hx179_7 := (HB.out.cell (World.block_lt_of_cell? w _ hx179_7)).trans hx179_7
                                replace hx179_8 := (HB.out.cell (World.block_lt_of_cell? w _ hx179_8)).trans hx179_8
                                replace hx179_9 := (HB.out.cell (World.block_lt_of_cell? w _ hx179_9)).trans hx179_9
                                replace hx179_10 := (HB.out.cell (World.block_lt_of_cell? w _ hx179_10)).trans hx179_10
                                replace hx179_11 := (HB.out.cell (World.block_lt_of_cell? w _ hx179_11)).trans hx179_11
                                replace p179 := eq_true p179
                                replace q179 := eq_true q179
                                go_wp2
                                repeat (go_quiet (fail); try go_wp2)
                                go_roundg kj9
                                case measure => have := HK1.out; have := HK2.out; have := HJ9.out; omega
                                case rel => exact ⟨(x7_2), (wrap64 (x9_2 + 1)), (wrap64 (x9_2 + 1)), (by first | rfl | (simp; done) | (simp [*]; done)), (by first | rfl | (simp; done) | (simp [*]; done)), (by first | rfl | (simp; done) | (simp [*]; done)), H', ⟨by have := HK1.out; have := HK2.out; have := HJ9.out; omega⟩, ⟨by (with_reducible repeat (first | apply Kd.R_alloc | apply Kd.R_drewN | apply Kd.R_drew)); exact HO_4.out⟩, ⟨by (with_reducible repeat (first | refine blk_drewN ?_ _ | refine blk_drew ?_ | refine blk_alloc ?_ _)); exact BK173.out⟩, ⟨by repeat (first | (with_reducible first | exact HB.out | apply below_alloc | apply pw_below_drewN | apply below_drew1 | refine below_set ?_ GE173.out) | exact HB.out)⟩⟩
                              · rw [if_neg c27] at H
                                have c27b0 : (((rd_T81 l0 x9_2).f1.f1) == ((rd_T81 l0 x5_1).f1.f8)) = false := beq_eq_false_iff_ne.mpr c27
                                have c27b1 : (((rd_T81 l0 x9_2).f1.f1) != ((rd_T81 l0 x5_1).f1.f8)) = true := bne_iff_ne.mpr c27
                                have H' := Aside0.mk H
                                clear H
                                have p178 : 0 ≤ (x9_2 : Int) := of_decide_eq_true (by first | (with_reducible assumption) | assumption)
                                have q178 : x9_2 < (l0.length : Int) := of_decide_eq_true (by first | (with_reducible assumption) | assumption)
                                obtain ⟨ad178, e178, hx178_0, hx178_1, hx178_2, hx178_3, hx178_4, hx178_5, hx178_6, hx178_7, hx178_8, hx178_9, hx178_10, hx178_11⟩ := at_T81 HR0.out x9_2 p178 q178
                                obtain rfl : ad172 = ad178 := (by injection e178)
                                replace hx178_0 := (HB.out.cell (World.block_lt_of_cell? w _ hx178_0)).trans hx178_0
                                replace hx178_1 := (HB.out.cell (World.block_lt_of_cell? w _ hx178_1)).trans hx178_1
                                replace hx178_2 := (HB.out.cell (World.block_lt_of_cell? w _ hx178_2)).trans hx178_2
                                replace hx178_3 := (HB.out.cell (World.block_lt_of_cell? w _ hx178_3)).trans hx178_3
                                replace hx178_4 := (HB.out.cell (World.block_lt_of_cell? w _ hx178_4)).trans hx178_4
                                replace hx178_5 := (HB.out.cell (World.block_lt_of_cell? w _ hx178_5)).trans hx178_5
                                replace hx178_6 := (HB.out.cell (World.block_lt_of_cell? w _ hx178_6)).trans hx178_6
                                replace hx178_7 := (HB.out.cell (World.block_lt_of_cell? w _ hx178_7)).trans hx178_7
                                replace hx178_8 := (HB.out.cell (World.block_lt_of_cell? w _ hx178_8)).trans hx178_8
                                replace hx178_9 := (HB.out.cell (World.block_lt_of_cell? w _ hx178_9)).trans hx178_9
                                replace hx178_10 := (HB.out.cell (World.block_lt_of_cell? w _ hx178_10)).trans hx178_10
                                replace hx178_11 := (HB.out.cell (World.block_lt_of_cell? w _ hx178_11)).trans hx178_11
                                replace p178 := eq_true p178
                                replace q178 := eq_true q178
                                have hcz29_0 : wc.cell? ⟨gb173, 0, none⟩ = some (.int .i64 ((rd_T81 l0 x5_1).f1.f0)) := (blk_cell BK173.out 0).trans rfl
                                have hcz29_1 : wc.cell? ⟨gb173, 1, none⟩ = some (.int .i64 (wrap64 (x5_1 + 1))) := (blk_cell BK173.out 1).trans rfl
                                have hcz29_2 : wc.cell? ⟨gb173, 2, none⟩ = some (.int .i64 ((rd_T81 l0 x5_1).f1.f2)) := (blk_cell BK173.out 2).trans rfl
                                have hcz29_3 : wc.cell? ⟨gb173, 3, none⟩ = some (.int .i64 ((rd_T81 l0 x5_1).f1.f3)) := (blk_cell BK173.out 3).trans rfl
                                have hcz29_4 : wc.cell? ⟨gb173, 4, none⟩ = some (.int .i64 ((rd_T81 l0 x5_1).f1.f4)) := (blk_cell BK173.out 4).trans rfl
                                have hcz29_5 : wc.cell? ⟨gb173, 5, none⟩ = some (.string ((rd_T81 l0 x5_1).f1.f5)) := (blk_cell BK173.out 5).trans rfl
                                have hcz29_6 : wc.cell? ⟨gb173, 6, none⟩ = some (.bool ((rd_T81 l0 x5_1).f1.f6.f0)) := (blk_cell BK173.out 6).trans rfl
                                have hcz29_7 : wc.cell? ⟨gb173, 7, none⟩ = some (.string ((rd_T81 l0 x5_1).f1.f6.f1)) := (blk_cell BK173.out 7).trans rfl
                                have hcz29_8 : wc.cell? ⟨gb173, 8, none⟩ = some (.bool ((rd_T81 l0 x5_1).f1.f7.f0)) := (blk_cell BK173.out 8).trans rfl
                                have hcz29_9 : wc.cell? ⟨gb173, 9, none⟩ = some (.string ((rd_T81 l0 x5_1).f1.f7.f1)) := (blk_cell BK173.out 9).trans rfl
                                have hcz29_10 : wc.cell? ⟨gb173, 10, none⟩ = some (.int .i64 ((rd_T81 l0 x5_1).f1.f8)) := (blk_cell BK173.out 10).trans rfl
                                have hfz29_0 := blk_frozen BK173.out 0
                                have hfz29_1 := blk_frozen BK173.out 1
                                have hfz29_2 := blk_frozen BK173.out 2
                                have hfz29_3 := blk_frozen BK173.out 3
                                have hfz29_4 := blk_frozen BK173.out 4
                                have hfz29_5 := blk_frozen BK173.out 5
                                have hfz29_6 := blk_frozen BK173.out 6
                                have hfz29_7 := blk_frozen BK173.out 7
                                have hfz29_8 := blk_frozen BK173.out 8
                                have hfz29_9 := blk_frozen BK173.out 9
                                have hfz29_10 := blk_frozen BK173.out 10
                                have p179 : 0 ≤ (x9_2 : Int) := of_decide_eq_true (by first | (with_reducible assumption) | assumption)
                                have q179 : x9_2 < (l0.length : Int) := of_decide_eq_true (by first | (with_reducible assumption) | assumption)
                                obtain ⟨ad179, e179, hx179_0, hx179_1, hx179_2, hx179_3, hx179_4, hx179_5, hx179_6, hx179_7, hx179_8, hx179_9, hx179_10, hx179_11⟩ := at_T81 HR0.out x9_2 p179 q179
                                obtain rfl : ad172 = ad179 := (by injection e179)
                                replace hx179_0 := (HB.out.cell (World.block_lt_of_cell? w _ hx179_0)).trans hx179_0
                                replace hx179_1 := (HB.out.cell (World.block_lt_of_cell? w _ hx179_1)).trans hx179_1
                                replace hx179_2 := (HB.out.cell (World.block_lt_of_cell? w _ hx179_2)).trans hx179_2
                                replace hx179_3 := (HB.out.cell (World.block_lt_of_cell? w _ hx179_3)).trans hx179_3
                                replace hx179_4 := (HB.out.cell (World.block_lt_of_cell? w _ hx179_4)).trans hx179_4
                                replace hx179_5 := (HB.out.cell (World.block_lt_of_cell? w _ hx179_5)).trans hx179_5
                                replace hx179_6 := (HB.out.cell (World.block_lt_of_cell? w _ hx179_6)).trans hx179_6
                                replace hx179_7 := (HB.out.cell (World.block_lt_of_cell? w _ hx179_7)).trans hx179_7
                                replace hx179_8 := (HB.out.cell (World.block_lt_of_cell? w _ hx179_8)).trans hx179_8
                                replace hx179_9 := (HB.out.cell (World.block_lt_of_cell? w _ hx179_9)).trans hx179_9
                                replace hx179_10 := (HB.out.cell (World.block_lt_of_cell? w _ hx179_10)).trans hx179_10
                                replace hx179_11 := (HB.out.cell (World.block_lt_of_cell? w _ hx179_11)).trans hx179_11
                                replace p179 := eq_true p179
                                replace q179 := eq_true q179
                                go_wp2
                                repeat (go_quiet (fail); try go_wp2)
                                go_roundg kj9
                                case measure => have := HK1.out; have := HK2.out; have := HJ9.out; omega
                                case rel => exact ⟨(x7_2), (x8_2), (wrap64 (x9_2 + 1)), (by first | rfl | (simp; done) | (simp [*]; done)), (by first | rfl | (simp; done) | (simp [*]; done)), (by first | rfl | (simp; done) | (simp [*]; done)), H', ⟨by have := HK1.out; have := HK2.out; have := HJ9.out; omega⟩, ⟨by (with_reducible repeat (first | apply Kd.R_alloc | apply Kd.R_drewN | apply Kd.R_drew)); exact HO_4.out⟩, ⟨by (with_reducible repeat (first | refine blk_drewN ?_ _ | refine blk_drew ?_ | refine blk_alloc ?_ _)); exact BK173.out⟩, ⟨by repeat (first | (with_reducible first | exact HB.out | apply below_alloc | apply pw_below_drewN | apply below_drew1 | refine below_set ?_ GE173.out) | exact HB.out)⟩⟩
                            · rw [if_neg c26] at H
                              have c26b0 : (((rd_T81 l0 x9_2).f1.f2) == ((rd_T81 l0 x5_1).f1.f2)) = false := beq_eq_false_iff_ne.mpr c26
                              have c26b1 : (((rd_T81 l0 x9_2).f1.f2) != ((rd_T81 l0 x5_1).f1.f2)) = true := bne_iff_ne.mpr c26
                              have H' := Aside0.mk H
                              clear H
                              have p178 : 0 ≤ (x9_2 : Int) := of_decide_eq_true (by first | (with_reducible assumption) | assumption)
                              have q178 : x9_2 < (l0.length : Int) := of_decide_eq_true (by first | (with_reducible assumption) | assumption)
                              obtain ⟨ad178, e178, hx178_0, hx178_1, hx178_2, hx178_3, hx178_4, hx178_5, hx178_6, hx178_7, hx178_8, hx178_9, hx178_10, hx178_11⟩ := at_T81 HR0.out x9_2 p178 q178
                              obtain rfl : ad172 = ad178 := (by injection e178)
                              replace hx178_0 := (HB.out.cell (World.block_lt_of_cell? w _ hx178_0)).trans hx178_0
                              replace hx178_1 := (HB.out.cell (World.block_lt_of_cell? w _ hx178_1)).trans hx178_1
                              replace hx178_2 := (HB.out.cell (World.block_lt_of_cell? w _ hx178_2)).trans hx178_2
                              replace hx178_3 := (HB.out.cell (World.block_lt_of_cell? w _ hx178_3)).trans hx178_3
                              replace hx178_4 := (HB.out.cell (World.block_lt_of_cell? w _ hx178_4)).trans hx178_4
                              replace hx178_5 := (HB.out.cell (World.block_lt_of_cell? w _ hx178_5)).trans hx178_5
                              replace hx178_6 := (HB.out.cell (World.block_lt_of_cell? w _ hx178_6)).trans hx178_6
                              replace hx178_7 := (HB.out.cell (World.block_lt_of_cell? w _ hx178_7)).trans hx178_7
                              replace hx178_8 := (HB.out.cell (World.block_lt_of_cell? w _ hx178_8)).trans hx178_8
                              replace hx178_9 := (HB.out.cell (World.block_lt_of_cell? w _ hx178_9)).trans hx178_9
                              replace hx178_10 := (HB.out.cell (World.block_lt_of_cell? w _ hx178_10)).trans hx178_10
                              replace hx178_11 := (HB.out.cell (World.block_lt_of_cell? w _ hx178_11)).trans hx178_11
                              replace p178 := eq_true p178
                              replace q178 := eq_true q178
                              have hcz30_0 : wc.cell? ⟨gb173, 0, none⟩ = some (.int .i64 ((rd_T81 l0 x5_1).f1.f0)) := (blk_cell BK173.out 0).trans rfl
                              have hcz30_1 : wc.cell? ⟨gb173, 1, none⟩ = some (.int .i64 (wrap64 (x5_1 + 1))) := (blk_cell BK173.out 1).trans rfl
                              have hcz30_2 : wc.cell? ⟨gb173, 2, none⟩ = some (.int .i64 ((rd_T81 l0 x5_1).f1.f2)) := (blk_cell BK173.out 2).trans rfl
                              have hcz30_3 : wc.cell? ⟨gb173, 3, none⟩ = some (.int .i64 ((rd_T81 l0 x5_1).f1.f3)) := (blk_cell BK173.out 3).trans rfl
                              have hcz30_4 : wc.cell? ⟨gb173, 4, none⟩ = some (.int .i64 ((rd_T81 l0 x5_1).f1.f4)) := (blk_cell BK173.out 4).trans rfl
                              have hcz30_5 : wc.cell? ⟨gb173, 5, none⟩ = some (.string ((rd_T81 l0 x5_1).f1.f5)) := (blk_cell BK173.out 5).trans rfl
                              have hcz30_6 : wc.cell? ⟨gb173, 6, none⟩ = some (.bool ((rd_T81 l0 x5_1).f1.f6.f0)) := (blk_cell BK173.out 6).trans rfl
                              have hcz30_7 : wc.cell? ⟨gb173, 7, none⟩ = some (.string ((rd_T81 l0 x5_1).f1.f6.f1)) := (blk_cell BK173.out 7).trans rfl
                              have hcz30_8 : wc.cell? ⟨gb173, 8, none⟩ = some (.bool ((rd_T81 l0 x5_1).f1.f7.f0)) := (blk_cell BK173.out 8).trans rfl
                              have hcz30_9 : wc.cell? ⟨gb173, 9, none⟩ = some (.string ((rd_T81 l0 x5_1).f1.f7.f1)) := (blk_cell BK173.out 9).trans rfl
                              have hcz30_10 : wc.cell? ⟨gb173, 10, none⟩ = some (.int .i64 ((rd_T81 l0 x5_1).f1.f8)) := (blk_cell BK173.out 10).trans rfl
                              have hfz30_0 := blk_frozen BK173.out 0
                              have hfz30_1 := blk_frozen BK173.out 1
                              have hfz30_2 := blk_frozen BK173.out 2
                              have hfz30_3 := blk_frozen BK173.out 3
                              have hfz30_4 := blk_frozen BK173.out 4
                              have hfz30_5 := blk_frozen BK173.out 5
                              have hfz30_6 := blk_frozen BK173.out 6
                              have hfz30_7 := blk_frozen BK173.out 7
                              have hfz30_8 := blk_frozen BK173.out 8
                              have hfz30_9 := blk_frozen BK173.out 9
                              have hfz30_10 := blk_frozen BK173.out 10
                              go_wp2
                              repeat (go_quiet (fail); try go_wp2)
                              go_roundg kj9
                              case measure => have := HK1.out; have := HK2.out; have := HJ9.out; omega
                              case rel => exact ⟨(x7_2), (x8_2), (wrap64 (x9_2 + 1)), (by first | rfl | (simp; done) | (simp [*]; done)), (by first | rfl | (simp; done) | (simp [*]; done)), (by first | rfl | (simp; done) | (simp [*]; done)), H', ⟨by have := HK1.out; have := HK2.out; have := HJ9.out; omega⟩, ⟨by (with_reducible repeat (first | apply Kd.R_alloc | apply Kd.R_drewN | apply Kd.R_drew)); exact HO_4.out⟩, ⟨by (with_reducible repeat (first | refine blk_drewN ?_ _ | refine blk_drew ?_ | refine blk_alloc ?_ _)); exact BK173.out⟩, ⟨by repeat (first | (with_reducible first | exact HB.out | apply below_alloc | apply pw_below_drewN | apply below_drew1 | refine below_set ?_ GE173.out) | exact HB.out)⟩⟩
                          · rw [if_neg c25] at H
                            exact absurd H (by simp)
                        · rw [if_neg c24] at H
                          exact absurd H (by simp)
                · rw [if_neg c9] at H
                  have c9b0 : decide (x9_2 < x5_1) = false := decide_eq_false c9
                  clear c9
                  have HC31 := Aside0.mk H
                  clear H
                  go_upto_region 17 with (fail)
                  repeat (go_quiet (fail); go_upto_region 17 with (fail))
                  go_cut [91] (fun v91 wc => ∃ (kq : Nat) (x91_30 : Bool), v91 = .bool x91_30 ∧ Aside0 (quadrigalaw29_number.j3 kq l0 x4_1 x5_1 x7_2 x8_2 x91_30 ((rd_T81 l0 x5_1).f1.f0) (wrap64 (x5_1 + 1)) ((rd_T81 l0 x5_1).f1.f2) ((rd_T81 l0 x5_1).f1.f3) ((rd_T81 l0 x5_1).f1.f4) ((rd_T81 l0 x5_1).f1.f5) ((rd_T81 l0 x5_1).f1.f6.f0) ((rd_T81 l0 x5_1).f1.f6.f1) ((rd_T81 l0 x5_1).f1.f7.f0) ((rd_T81 l0 x5_1).f1.f7.f1) ((rd_T81 l0 x5_1).f1.f8) = some (r1, r2)) ∧ Aside0 (kq ≤ k2) ∧ Aside0 (Kd.R k79 79 wc w.heap.size (fun k_ => k_ ≠ gb173) u4 x4_1) ∧ Aside0 (wc.heap[gb173]? = some (.cells #[.int .i64 ((rd_T81 l0 x5_1).f1.f0), .int .i64 (wrap64 (x5_1 + 1)), .int .i64 ((rd_T81 l0 x5_1).f1.f2), .int .i64 ((rd_T81 l0 x5_1).f1.f3), .int .i64 ((rd_T81 l0 x5_1).f1.f4), .string ((rd_T81 l0 x5_1).f1.f5), .bool ((rd_T81 l0 x5_1).f1.f6.f0), .string ((rd_T81 l0 x5_1).f1.f6.f1), .bool ((rd_T81 l0 x5_1).f1.f7.f0), .string ((rd_T81 l0 x5_1).f1.f7.f1), .int .i64 ((rd_T81 l0 x5_1).f1.f8)] 79 (0, 0))) ∧ Aside0 (Below w.heap.size w wc))
                  case first =>
                    have H := HC31.out
                    clear HC31
                    by_cases c32 : ((rd_T81 l0 x5_1).f1.f3) > 0
                    · rw [if_pos c32] at H
                      have c32b0 : decide (0 < ((rd_T81 l0 x5_1).f1.f3)) = true := decide_eq_true c32
                      clear c32
                      (first | rw [c32b0] | (simp only [i64_w, i32_w]; rw [c32b0]) | skip)
                      by_cases c33 : x7_2 = 0
                      · rw [if_pos c33] at H
                        have c33b0 : (x7_2 == 0) = true := beq_iff_eq.mpr c33
                        have c33b1 : (x7_2 != 0) = false := bne_eq_false_iff_eq.mpr c33
                        clear c33
                        have H' := Aside0.mk H
                        clear H
                        have hcz34_0 : wr.cell? ⟨gb173, 0, none⟩ = some (.int .i64 ((rd_T81 l0 x5_1).f1.f0)) := (blk_cell BK173.out 0).trans rfl
                        have hcz34_1 : wr.cell? ⟨gb173, 1, none⟩ = some (.int .i64 (wrap64 (x5_1 + 1))) := (blk_cell BK173.out 1).trans rfl
                        have hcz34_2 : wr.cell? ⟨gb173, 2, none⟩ = some (.int .i64 ((rd_T81 l0 x5_1).f1.f2)) := (blk_cell BK173.out 2).trans rfl
                        have hcz34_3 : wr.cell? ⟨gb173, 3, none⟩ = some (.int .i64 ((rd_T81 l0 x5_1).f1.f3)) := (blk_cell BK173.out 3).trans rfl
                        have hcz34_4 : wr.cell? ⟨gb173, 4, none⟩ = some (.int .i64 ((rd_T81 l0 x5_1).f1.f4)) := (blk_cell BK173.out 4).trans rfl
                        have hcz34_5 : wr.cell? ⟨gb173, 5, none⟩ = some (.string ((rd_T81 l0 x5_1).f1.f5)) := (blk_cell BK173.out 5).trans rfl
                        have hcz34_6 : wr.cell? ⟨gb173, 6, none⟩ = some (.bool ((rd_T81 l0 x5_1).f1.f6.f0)) := (blk_cell BK173.out 6).trans rfl
                        have hcz34_7 : wr.cell? ⟨gb173, 7, none⟩ = some (.string ((rd_T81 l0 x5_1).f1.f6.f1)) := (blk_cell BK173.out 7).trans rfl
                        have hcz34_8 : wr.cell? ⟨gb173, 8, none⟩ = some (.bool ((rd_T81 l0 x5_1).f1.f7.f0)) := (blk_cell BK173.out 8).trans rfl
                        have hcz34_9 : wr.cell? ⟨gb173, 9, none⟩ = some (.string ((rd_T81 l0 x5_1).f1.f7.f1)) := (blk_cell BK173.out 9).trans rfl
                        have hcz34_10 : wr.cell? ⟨gb173, 10, none⟩ = some (.int .i64 ((rd_T81 l0 x5_1).f1.f8)) := (blk_cell BK173.out 10).trans rfl
                        have hfz34_0 := blk_frozen BK173.out 0
                        have hfz34_1 := blk_frozen BK173.out 1
                        have hfz34_2 := blk_frozen BK173.out 2
                        have hfz34_3 := blk_frozen BK173.out 3
                        have hfz34_4 := blk_frozen BK173.out 4
                        have hfz34_5 := blk_frozen BK173.out 5
                        have hfz34_6 := blk_frozen BK173.out 6
                        have hfz34_7 := blk_frozen BK173.out 7
                        have hfz34_8 := blk_frozen BK173.out 8
                        have hfz34_9 := blk_frozen BK173.out 9
                        have hfz34_10 := blk_frozen BK173.out 10
                        go_wp2
                        repeat (go_quiet (fail); try go_wp2)
                        go_meet
                        case rel => exact ⟨_, (true), (by first | rfl | (simp; done) | (simp [*]; done)), H', ⟨by have := HK1.out; have := HK2.out; first | omega | exact Nat.le_refl _⟩, ⟨by (with_reducible repeat (first | apply Kd.R_alloc | apply Kd.R_drewN | apply Kd.R_drew)); exact HO_4.out⟩, ⟨by (with_reducible repeat (first | refine blk_drewN ?_ _ | refine blk_drew ?_ | refine blk_alloc ?_ _)); exact BK173.out⟩, ⟨by repeat (first | (with_reducible first | exact HB.out | apply below_alloc | apply pw_below_drewN | apply below_drew1 | refine below_set ?_ GE173.out) | exact HB.out)⟩⟩
                      · rw [if_neg c33] at H
                        have c33b0 : (x7_2 == 0) = false := beq_eq_false_iff_ne.mpr c33
                        have c33b1 : (x7_2 != 0) = true := bne_iff_ne.mpr c33
                        by_cases c35 : ((rd_T81 l0 x5_1).f1.f0) = 3
                        · rw [if_pos c35] at H
                          have c35b0 : (((rd_T81 l0 x5_1).f1.f0) == 3) = true := beq_iff_eq.mpr c35
                          have c35b1 : (((rd_T81 l0 x5_1).f1.f0) != 3) = false := bne_eq_false_iff_eq.mpr c35
                          clear c35
                          have H' := Aside0.mk H
                          clear H
                          have hcz36_0 : wr.cell? ⟨gb173, 0, none⟩ = some (.int .i64 ((rd_T81 l0 x5_1).f1.f0)) := (blk_cell BK173.out 0).trans rfl
                          have hcz36_1 : wr.cell? ⟨gb173, 1, none⟩ = some (.int .i64 (wrap64 (x5_1 + 1))) := (blk_cell BK173.out 1).trans rfl
                          have hcz36_2 : wr.cell? ⟨gb173, 2, none⟩ = some (.int .i64 ((rd_T81 l0 x5_1).f1.f2)) := (blk_cell BK173.out 2).trans rfl
                          have hcz36_3 : wr.cell? ⟨gb173, 3, none⟩ = some (.int .i64 ((rd_T81 l0 x5_1).f1.f3)) := (blk_cell BK173.out 3).trans rfl
                          have hcz36_4 : wr.cell? ⟨gb173, 4, none⟩ = some (.int .i64 ((rd_T81 l0 x5_1).f1.f4)) := (blk_cell BK173.out 4).trans rfl
                          have hcz36_5 : wr.cell? ⟨gb173, 5, none⟩ = some (.string ((rd_T81 l0 x5_1).f1.f5)) := (blk_cell BK173.out 5).trans rfl
                          have hcz36_6 : wr.cell? ⟨gb173, 6, none⟩ = some (.bool ((rd_T81 l0 x5_1).f1.f6.f0)) := (blk_cell BK173.out 6).trans rfl
                          have hcz36_7 : wr.cell? ⟨gb173, 7, none⟩ = some (.string ((rd_T81 l0 x5_1).f1.f6.f1)) := (blk_cell BK173.out 7).trans rfl
                          have hcz36_8 : wr.cell? ⟨gb173, 8, none⟩ = some (.bool ((rd_T81 l0 x5_1).f1.f7.f0)) := (blk_cell BK173.out 8).trans rfl
                          have hcz36_9 : wr.cell? ⟨gb173, 9, none⟩ = some (.string ((rd_T81 l0 x5_1).f1.f7.f1)) := (blk_cell BK173.out 9).trans rfl
                          have hcz36_10 : wr.cell? ⟨gb173, 10, none⟩ = some (.int .i64 ((rd_T81 l0 x5_1).f1.f8)) := (blk_cell BK173.out 10).trans rfl
                          have hfz36_0 := blk_frozen BK173.out 0
                          have hfz36_1 := blk_frozen BK173.out 1
                          have hfz36_2 := blk_frozen BK173.out 2
                          have hfz36_3 := blk_frozen BK173.out 3
                          have hfz36_4 := blk_frozen BK173.out 4
                          have hfz36_5 := blk_frozen BK173.out 5
                          have hfz36_6 := blk_frozen BK173.out 6
                          have hfz36_7 := blk_frozen BK173.out 7
                          have hfz36_8 := blk_frozen BK173.out 8
                          have hfz36_9 := blk_frozen BK173.out 9
                          have hfz36_10 := blk_frozen BK173.out 10
                          go_wp2
                          repeat (go_quiet (fail); try go_wp2)
                          go_meet
                          case rel => exact ⟨_, ((x8_2 == 0)), (by first | rfl | (simp; done) | (simp [*]; done)), H', ⟨by have := HK1.out; have := HK2.out; first | omega | exact Nat.le_refl _⟩, ⟨by (with_reducible repeat (first | apply Kd.R_alloc | apply Kd.R_drewN | apply Kd.R_drew)); exact HO_4.out⟩, ⟨by (with_reducible repeat (first | refine blk_drewN ?_ _ | refine blk_drew ?_ | refine blk_alloc ?_ _)); exact BK173.out⟩, ⟨by repeat (first | (with_reducible first | exact HB.out | apply below_alloc | apply pw_below_drewN | apply below_drew1 | refine below_set ?_ GE173.out) | exact HB.out)⟩⟩
                        · rw [if_neg c35] at H
                          have c35b0 : (((rd_T81 l0 x5_1).f1.f0) == 3) = false := beq_eq_false_iff_ne.mpr c35
                          have c35b1 : (((rd_T81 l0 x5_1).f1.f0) != 3) = true := bne_iff_ne.mpr c35
                          have H' := Aside0.mk H
                          clear H
                          have hcz37_0 : wr.cell? ⟨gb173, 0, none⟩ = some (.int .i64 ((rd_T81 l0 x5_1).f1.f0)) := (blk_cell BK173.out 0).trans rfl
                          have hcz37_1 : wr.cell? ⟨gb173, 1, none⟩ = some (.int .i64 (wrap64 (x5_1 + 1))) := (blk_cell BK173.out 1).trans rfl
                          have hcz37_2 : wr.cell? ⟨gb173, 2, none⟩ = some (.int .i64 ((rd_T81 l0 x5_1).f1.f2)) := (blk_cell BK173.out 2).trans rfl
                          have hcz37_3 : wr.cell? ⟨gb173, 3, none⟩ = some (.int .i64 ((rd_T81 l0 x5_1).f1.f3)) := (blk_cell BK173.out 3).trans rfl
                          have hcz37_4 : wr.cell? ⟨gb173, 4, none⟩ = some (.int .i64 ((rd_T81 l0 x5_1).f1.f4)) := (blk_cell BK173.out 4).trans rfl
                          have hcz37_5 : wr.cell? ⟨gb173, 5, none⟩ = some (.string ((rd_T81 l0 x5_1).f1.f5)) := (blk_cell BK173.out 5).trans rfl
                          have hcz37_6 : wr.cell? ⟨gb173, 6, none⟩ = some (.bool ((rd_T81 l0 x5_1).f1.f6.f0)) := (blk_cell BK173.out 6).trans rfl
                          have hcz37_7 : wr.cell? ⟨gb173, 7, none⟩ = some (.string ((rd_T81 l0 x5_1).f1.f6.f1)) := (blk_cell BK173.out 7).trans rfl
                          have hcz37_8 : wr.cell? ⟨gb173, 8, none⟩ = some (.bool ((rd_T81 l0 x5_1).f1.f7.f0)) := (blk_cell BK173.out 8).trans rfl
                          have hcz37_9 : wr.cell? ⟨gb173, 9, none⟩ = some (.string ((rd_T81 l0 x5_1).f1.f7.f1)) := (blk_cell BK173.out 9).trans rfl
                          have hcz37_10 : wr.cell? ⟨gb173, 10, none⟩ = some (.int .i64 ((rd_T81 l0 x5_1).f1.f8)) := (blk_cell BK173.out 10).trans rfl
                          have hfz37_0 := blk_frozen BK173.out 0
                          have hfz37_1 := blk_frozen BK173.out 1
                          have hfz37_2 := blk_frozen BK173.out 2
                          have hfz37_3 := blk_frozen BK173.out 3
                          have hfz37_4 := blk_frozen BK173.out 4
                          have hfz37_5 := blk_frozen BK173.out 5
                          have hfz37_6 := blk_frozen BK173.out 6
                          have hfz37_7 := blk_frozen BK173.out 7
                          have hfz37_8 := blk_frozen BK173.out 8
                          have hfz37_9 := blk_frozen BK173.out 9
                          have hfz37_10 := blk_frozen BK173.out 10
                          go_wp2
                          repeat (go_quiet (fail); try go_wp2)
                          go_meet
                          case rel => exact ⟨_, (false), (by first | rfl | (simp; done) | (simp [*]; done)), H', ⟨by have := HK1.out; have := HK2.out; first | omega | exact Nat.le_refl _⟩, ⟨by (with_reducible repeat (first | apply Kd.R_alloc | apply Kd.R_drewN | apply Kd.R_drew)); exact HO_4.out⟩, ⟨by (with_reducible repeat (first | refine blk_drewN ?_ _ | refine blk_drew ?_ | refine blk_alloc ?_ _)); exact BK173.out⟩, ⟨by repeat (first | (with_reducible first | exact HB.out | apply below_alloc | apply pw_below_drewN | apply below_drew1 | refine below_set ?_ GE173.out) | exact HB.out)⟩⟩
                    · rw [if_neg c32] at H
                      have c32b0 : decide (0 < ((rd_T81 l0 x5_1).f1.f3)) = false := decide_eq_false c32
                      clear c32
                      (first | rw [c32b0] | (simp only [i64_w, i32_w]; rw [c32b0]) | skip)
                      by_cases c38 : ((rd_T81 l0 x5_1).f1.f0) = 3
                      · rw [if_pos c38] at H
                        have c38b0 : (((rd_T81 l0 x5_1).f1.f0) == 3) = true := beq_iff_eq.mpr c38
                        have c38b1 : (((rd_T81 l0 x5_1).f1.f0) != 3) = false := bne_eq_false_iff_eq.mpr c38
                        clear c38
                        have H' := Aside0.mk H
                        clear H
                        have hcz39_0 : wr.cell? ⟨gb173, 0, none⟩ = some (.int .i64 ((rd_T81 l0 x5_1).f1.f0)) := (blk_cell BK173.out 0).trans rfl
                        have hcz39_1 : wr.cell? ⟨gb173, 1, none⟩ = some (.int .i64 (wrap64 (x5_1 + 1))) := (blk_cell BK173.out 1).trans rfl
                        have hcz39_2 : wr.cell? ⟨gb173, 2, none⟩ = some (.int .i64 ((rd_T81 l0 x5_1).f1.f2)) := (blk_cell BK173.out 2).trans rfl
                        have hcz39_3 : wr.cell? ⟨gb173, 3, none⟩ = some (.int .i64 ((rd_T81 l0 x5_1).f1.f3)) := (blk_cell BK173.out 3).trans rfl
                        have hcz39_4 : wr.cell? ⟨gb173, 4, none⟩ = some (.int .i64 ((rd_T81 l0 x5_1).f1.f4)) := (blk_cell BK173.out 4).trans rfl
                        have hcz39_5 : wr.cell? ⟨gb173, 5, none⟩ = some (.string ((rd_T81 l0 x5_1).f1.f5)) := (blk_cell BK173.out 5).trans rfl
                        have hcz39_6 : wr.cell? ⟨gb173, 6, none⟩ = some (.bool ((rd_T81 l0 x5_1).f1.f6.f0)) := (blk_cell BK173.out 6).trans rfl
                        have hcz39_7 : wr.cell? ⟨gb173, 7, none⟩ = some (.string ((rd_T81 l0 x5_1).f1.f6.f1)) := (blk_cell BK173.out 7).trans rfl
                        have hcz39_8 : wr.cell? ⟨gb173, 8, none⟩ = some (.bool ((rd_T81 l0 x5_1).f1.f7.f0)) := (blk_cell BK173.out 8).trans rfl
                        have hcz39_9 : wr.cell? ⟨gb173, 9, none⟩ = some (.string ((rd_T81 l0 x5_1).f1.f7.f1)) := (blk_cell BK173.out 9).trans rfl
                        have hcz39_10 : wr.cell? ⟨gb173, 10, none⟩ = some (.int .i64 ((rd_T81 l0 x5_1).f1.f8)) := (blk_cell BK173.out 10).trans rfl
                        have hfz39_0 := blk_frozen BK173.out 0
                        have hfz39_1 := blk_frozen BK173.out 1
                        have hfz39_2 := blk_frozen BK173.out 2
                        have hfz39_3 := blk_frozen BK173.out 3
                        have hfz39_4 := blk_frozen BK173.out 4
                        have hfz39_5 := blk_frozen BK173.out 5
                        have hfz39_6 := blk_frozen BK173.out 6
                        have hfz39_7 := blk_frozen BK173.out 7
                        have hfz39_8 := blk_frozen BK173.out 8
                        have hfz39_9 := blk_frozen BK173.out 9
                        have hfz39_10 := blk_frozen BK173.out 10
                        go_wp2
                        repeat (go_quiet (fail); try go_wp2)
                        go_meet
                        case rel => exact ⟨_, ((x8_2 == 0)), (by first | rfl | (simp; done) | (simp [*]; done)), H', ⟨by have := HK1.out; have := HK2.out; first | omega | exact Nat.le_refl _⟩, ⟨by (with_reducible repeat (first | apply Kd.R_alloc | apply Kd.R_drewN | apply Kd.R_drew)); exact HO_4.out⟩, ⟨by (with_reducible repeat (first | refine blk_drewN ?_ _ | refine blk_drew ?_ | refine blk_alloc ?_ _)); exact BK173.out⟩, ⟨by repeat (first | (with_reducible first | exact HB.out | apply below_alloc | apply pw_below_drewN | apply below_drew1 | refine below_set ?_ GE173.out) | exact HB.out)⟩⟩
                      · rw [if_neg c38] at H
                        have c38b0 : (((rd_T81 l0 x5_1).f1.f0) == 3) = false := beq_eq_false_iff_ne.mpr c38
                        have c38b1 : (((rd_T81 l0 x5_1).f1.f0) != 3) = true := bne_iff_ne.mpr c38
                        have H' := Aside0.mk H
                        clear H
                        have hcz40_0 : wr.cell? ⟨gb173, 0, none⟩ = some (.int .i64 ((rd_T81 l0 x5_1).f1.f0)) := (blk_cell BK173.out 0).trans rfl
                        have hcz40_1 : wr.cell? ⟨gb173, 1, none⟩ = some (.int .i64 (wrap64 (x5_1 + 1))) := (blk_cell BK173.out 1).trans rfl
                        have hcz40_2 : wr.cell? ⟨gb173, 2, none⟩ = some (.int .i64 ((rd_T81 l0 x5_1).f1.f2)) := (blk_cell BK173.out 2).trans rfl
                        have hcz40_3 : wr.cell? ⟨gb173, 3, none⟩ = some (.int .i64 ((rd_T81 l0 x5_1).f1.f3)) := (blk_cell BK173.out 3).trans rfl
                        have hcz40_4 : wr.cell? ⟨gb173, 4, none⟩ = some (.int .i64 ((rd_T81 l0 x5_1).f1.f4)) := (blk_cell BK173.out 4).trans rfl
                        have hcz40_5 : wr.cell? ⟨gb173, 5, none⟩ = some (.string ((rd_T81 l0 x5_1).f1.f5)) := (blk_cell BK173.out 5).trans rfl
                        have hcz40_6 : wr.cell? ⟨gb173, 6, none⟩ = some (.bool ((rd_T81 l0 x5_1).f1.f6.f0)) := (blk_cell BK173.out 6).trans rfl
                        have hcz40_7 : wr.cell? ⟨gb173, 7, none⟩ = some (.string ((rd_T81 l0 x5_1).f1.f6.f1)) := (blk_cell BK173.out 7).trans rfl
                        have hcz40_8 : wr.cell? ⟨gb173, 8, none⟩ = some (.bool ((rd_T81 l0 x5_1).f1.f7.f0)) := (blk_cell BK173.out 8).trans rfl
                        have hcz40_9 : wr.cell? ⟨gb173, 9, none⟩ = some (.string ((rd_T81 l0 x5_1).f1.f7.f1)) := (blk_cell BK173.out 9).trans rfl
                        have hcz40_10 : wr.cell? ⟨gb173, 10, none⟩ = some (.int .i64 ((rd_T81 l0 x5_1).f1.f8)) := (blk_cell BK173.out 10).trans rfl
                        have hfz40_0 := blk_frozen BK173.out 0
                        have hfz40_1 := blk_frozen BK173.out 1
                        have hfz40_2 := blk_frozen BK173.out 2
                        have hfz40_3 := blk_frozen BK173.out 3
                        have hfz40_4 := blk_frozen BK173.out 4
                        have hfz40_5 := blk_frozen BK173.out 5
                        have hfz40_6 := blk_frozen BK173.out 6
                        have hfz40_7 := blk_frozen BK173.out 7
                        have hfz40_8 := blk_frozen BK173.out 8
                        have hfz40_9 := blk_frozen BK173.out 9
                        have hfz40_10 := blk_frozen BK173.out 10
                        go_wp2
                        repeat (go_quiet (fail); try go_wp2)
                        go_meet
                        case rel => exact ⟨_, (false), (by first | rfl | (simp; done) | (simp [*]; done)), H', ⟨by have := HK1.out; have := HK2.out; first | omega | exact Nat.le_refl _⟩, ⟨by (with_reducible repeat (first | apply Kd.R_alloc | apply Kd.R_drewN | apply Kd.R_drew)); exact HO_4.out⟩, ⟨by (with_reducible repeat (first | refine blk_drewN ?_ _ | refine blk_drew ?_ | refine blk_alloc ?_ _)); exact BK173.out⟩, ⟨by repeat (first | (with_reducible first | exact HB.out | apply below_alloc | apply pw_below_drewN | apply below_drew1 | refine below_set ?_ GE173.out) | exact HB.out)⟩⟩
                  case rest =>
                    clear HC31
                    try clear c1
                    try clear p1
                    try clear q1
                    try clear hx1
                    try clear c2
                    try clear p2
                    try clear c3
                    try clear p6
                    try clear c9
                    try clear c9b0
                    try clear c16
                    try clear c17
                    try clear c17b0
                    try clear p17
                    try clear q17
                    try clear hx17
                    try clear c18
                    try clear c18b0
                    try clear c19
                    try clear c19b0
                    try clear c19b1
                    try clear c20
                    try clear c20b0
                    try clear c20b1
                    try clear c24
                    try clear c24b0
                    try clear c25
                    try clear c25b0
                    try clear c26
                    try clear c26b0
                    try clear c26b1
                    try clear c27
                    try clear c27b0
                    try clear c27b1
                    try clear c32
                    try clear c32b0
                    try clear c33
                    try clear c33b0
                    try clear c33b1
                    try clear c35
                    try clear c35b0
                    try clear c35b1
                    try clear c38
                    try clear c38b0
                    try clear c38b1
                    try clear hcz21_0
                    try clear hcz21_1
                    try clear hcz21_10
                    try clear hcz21_2
                    try clear hcz21_3
                    try clear hcz21_4
                    try clear hcz21_5
                    try clear hcz21_6
                    try clear hcz21_7
                    try clear hcz21_8
                    try clear hcz21_9
                    try clear hcz22_0
                    try clear hcz22_1
                    try clear hcz22_10
                    try clear hcz22_2
                    try clear hcz22_3
                    try clear hcz22_4
                    try clear hcz22_5
                    try clear hcz22_6
                    try clear hcz22_7
                    try clear hcz22_8
                    try clear hcz22_9
                    try clear hcz23_0
                    try clear hcz23_1
                    try clear hcz23_10
                    try clear hcz23_2
                    try clear hcz23_3
                    try clear hcz23_4
                    try clear hcz23_5
                    try clear hcz23_6
                    try clear hcz23_7
                    try clear hcz23_8
                    try clear hcz23_9
                    try clear hcz28_0
                    try clear hcz28_1
                    try clear hcz28_10
                    try clear hcz28_2
                    try clear hcz28_3
                    try clear hcz28_4
                    try clear hcz28_5
                    try clear hcz28_6
                    try clear hcz28_7
                    try clear hcz28_8
                    try clear hcz28_9
                    try clear hcz29_0
                    try clear hcz29_1
                    try clear hcz29_10
                    try clear hcz29_2
                    try clear hcz29_3
                    try clear hcz29_4
                    try clear hcz29_5
                    try clear hcz29_6
                    try clear hcz29_7
                    try clear hcz29_8
                    try clear hcz29_9
                    try clear hcz30_0
                    try clear hcz30_1
                    try clear hcz30_10
                    try clear hcz30_2
                    try clear hcz30_3
                    try clear hcz30_4
                    try clear hcz30_5
                    try clear hcz30_6
                    try clear hcz30_7
                    try clear hcz30_8
                    try clear hcz30_9
                    try clear hcz34_0
                    try clear hcz34_1
                    try clear hcz34_10
                    try clear hcz34_2
                    try clear hcz34_3
                    try clear hcz34_4
                    try clear hcz34_5
                    try clear hcz34_6
                    try clear hcz34_7
                    try clear hcz34_8
                    try clear hcz34_9
                    try clear hcz36_0
                    try clear hcz36_1
                    try clear hcz36_10
                    try clear hcz36_2
                    try clear hcz36_3
                    try clear hcz36_4
                    try clear hcz36_5
                    try clear hcz36_6
                    try clear hcz36_7
                    try clear hcz36_8
                    try clear hcz36_9
                    try clear hcz37_0
                    try clear hcz37_1
                    try clear hcz37_10
                    try clear hcz37_2
                    try clear hcz37_3
                    try clear hcz37_4
                    try clear hcz37_5
                    try clear hcz37_6
                    try clear hcz37_7
                    try clear hcz37_8
                    try clear hcz37_9
                    try clear hcz39_0
                    try clear hcz39_1
                    try clear hcz39_10
                    try clear hcz39_2
                    try clear hcz39_3
                    try clear hcz39_4
                    try clear hcz39_5
                    try clear hcz39_6
                    try clear hcz39_7
                    try clear hcz39_8
                    try clear hcz39_9
                    try clear hcz40_0
                    try clear hcz40_1
                    try clear hcz40_10
                    try clear hcz40_2
                    try clear hcz40_3
                    try clear hcz40_4
                    try clear hcz40_5
                    try clear hcz40_6
                    try clear hcz40_7
                    try clear hcz40_8
                    try clear hcz40_9
                    try clear hfz21_0
                    try clear hfz21_1
                    try clear hfz21_10
                    try clear hfz21_2
                    try clear hfz21_3
                    try clear hfz21_4
                    try clear hfz21_5
                    try clear hfz21_6
                    try clear hfz21_7
                    try clear hfz21_8
                    try clear hfz21_9
                    try clear hfz22_0
                    try clear hfz22_1
                    try clear hfz22_10
                    try clear hfz22_2
                    try clear hfz22_3
                    try clear hfz22_4
                    try clear hfz22_5
                    try clear hfz22_6
                    try clear hfz22_7
                    try clear hfz22_8
                    try clear hfz22_9
                    try clear hfz23_0
                    try clear hfz23_1
                    try clear hfz23_10
                    try clear hfz23_2
                    try clear hfz23_3
                    try clear hfz23_4
                    try clear hfz23_5
                    try clear hfz23_6
                    try clear hfz23_7
                    try clear hfz23_8
                    try clear hfz23_9
                    try clear hfz28_0
                    try clear hfz28_1
                    try clear hfz28_10
                    try clear hfz28_2
                    try clear hfz28_3
                    try clear hfz28_4
                    try clear hfz28_5
                    try clear hfz28_6
                    try clear hfz28_7
                    try clear hfz28_8
                    try clear hfz28_9
                    try clear hfz29_0
                    try clear hfz29_1
                    try clear hfz29_10
                    try clear hfz29_2
                    try clear hfz29_3
                    try clear hfz29_4
                    try clear hfz29_5
                    try clear hfz29_6
                    try clear hfz29_7
                    try clear hfz29_8
                    try clear hfz29_9
                    try clear hfz30_0
                    try clear hfz30_1
                    try clear hfz30_10
                    try clear hfz30_2
                    try clear hfz30_3
                    try clear hfz30_4
                    try clear hfz30_5
                    try clear hfz30_6
                    try clear hfz30_7
                    try clear hfz30_8
                    try clear hfz30_9
                    try clear hfz34_0
                    try clear hfz34_1
                    try clear hfz34_10
                    try clear hfz34_2
                    try clear hfz34_3
                    try clear hfz34_4
                    try clear hfz34_5
                    try clear hfz34_6
                    try clear hfz34_7
                    try clear hfz34_8
                    try clear hfz34_9
                    try clear hfz36_0
                    try clear hfz36_1
                    try clear hfz36_10
                    try clear hfz36_2
                    try clear hfz36_3
                    try clear hfz36_4
                    try clear hfz36_5
                    try clear hfz36_6
                    try clear hfz36_7
                    try clear hfz36_8
                    try clear hfz36_9
                    try clear hfz37_0
                    try clear hfz37_1
                    try clear hfz37_10
                    try clear hfz37_2
                    try clear hfz37_3
                    try clear hfz37_4
                    try clear hfz37_5
                    try clear hfz37_6
                    try clear hfz37_7
                    try clear hfz37_8
                    try clear hfz37_9
                    try clear hfz39_0
                    try clear hfz39_1
                    try clear hfz39_10
                    try clear hfz39_2
                    try clear hfz39_3
                    try clear hfz39_4
                    try clear hfz39_5
                    try clear hfz39_6
                    try clear hfz39_7
                    try clear hfz39_8
                    try clear hfz39_9
                    try clear hfz40_0
                    try clear hfz40_1
                    try clear hfz40_10
                    try clear hfz40_2
                    try clear hfz40_3
                    try clear hfz40_4
                    try clear hfz40_5
                    try clear hfz40_6
                    try clear hfz40_7
                    try clear hfz40_8
                    try clear hfz40_9
                    try clear hx176_0
                    try clear hx176_1
                    try clear hx176_10
                    try clear hx176_11
                    try clear hx176_2
                    try clear hx176_3
                    try clear hx176_4
                    try clear hx176_5
                    try clear hx176_6
                    try clear hx176_7
                    try clear hx176_8
                    try clear hx176_9
                    try clear hx177_0
                    try clear hx177_1
                    try clear hx177_10
                    try clear hx177_11
                    try clear hx177_2
                    try clear hx177_3
                    try clear hx177_4
                    try clear hx177_5
                    try clear hx177_6
                    try clear hx177_7
                    try clear hx177_8
                    try clear hx177_9
                    try clear hx178_0
                    try clear hx178_1
                    try clear hx178_10
                    try clear hx178_11
                    try clear hx178_2
                    try clear hx178_3
                    try clear hx178_4
                    try clear hx178_5
                    try clear hx178_6
                    try clear hx178_7
                    try clear hx178_8
                    try clear hx178_9
                    try clear hx179_0
                    try clear hx179_1
                    try clear hx179_10
                    try clear hx179_11
                    try clear hx179_2
                    try clear hx179_3
                    try clear hx179_4
                    try clear hx179_5
                    try clear hx179_6
                    try clear hx179_7
                    try clear hx179_8
                    try clear hx179_9
                    try clear p176
                    try clear p177
                    try clear p178
                    try clear p179
                    try clear q176
                    try clear q177
                    try clear q178
                    try clear q179
                    obtain ⟨kq, x91_30, rfl, HA, HJ30, HO_4, BK173, HB⟩ := hcut
                    cases kq with
                    | zero => exact absurd HA.out (by simp [quadrigalaw29_number.j3])
                    | succ kj30 =>
                      have H := HA.out
                      clear HA
                      simp only [quadrigalaw29_number.j3] at H
                      by_cases c41 : x91_30 = true
                      · subst c41
                        have H1 : (some (([] : List (S79)), 7)) = some (r1, r2) := by rw [if_pos rfl] at H; exact H
                        clear H
                        have H := H1
                        clear H1
                        simp only [Option.some.injEq, Prod.mk.injEq] at H
                        obtain ⟨rfl, rfl⟩ := H
                        go_wp2
                        repeat (go_quiet (fail); try go_wp2)
                        go_ret2
                        exact ⟨_, by first | rfl | (simp [errW_none, errW_some] <;> rfl) | (simp [*, errW_none, errW_some] <;> rfl), by first | exact Kd.R_nil _ _ _ _ _ | exact Kd.N_nil _ _ _ _ _ | exact Kd.V_nil _ _ _ _ _ | exact Kd.Q_nil _ _ _ _ _ | exact Kd.S_nil _ _ _ _ _, by repeat (first | (with_reducible first | exact HB.out | apply below_alloc | apply pw_below_drewN | apply below_drew1 | refine below_set ?_ GE173.out) | exact HB.out)⟩
                      · replace c41 := Bool.eq_false_iff.mpr c41
                        subst c41
                        have H1 : (if ((rd_T81 l0 x5_1).f1.f0) = 3 then (if x4_1.length < 1256584717458 then (quadrigalaw29_number.l0 kj30 l0 (x4_1 ++ [(⟨((rd_T81 l0 x5_1).f1.f0), (wrap64 (x5_1 + 1)), ((rd_T81 l0 x5_1).f1.f2), x7_2, ((rd_T81 l0 x5_1).f1.f4), ((rd_T81 l0 x5_1).f1.f5), (⟨((rd_T81 l0 x5_1).f1.f6.f0), ((rd_T81 l0 x5_1).f1.f6.f1)⟩ : S77), (⟨((rd_T81 l0 x5_1).f1.f7.f0), ((rd_T81 l0 x5_1).f1.f7.f1)⟩ : S77), x8_2⟩ : S79)]) (wrap64 (x5_1 + 1))) else (none)) else (if x4_1.length < 1256584717458 then (quadrigalaw29_number.l0 kj30 l0 (x4_1 ++ [(⟨((rd_T81 l0 x5_1).f1.f0), (wrap64 (x5_1 + 1)), ((rd_T81 l0 x5_1).f1.f2), x7_2, ((rd_T81 l0 x5_1).f1.f4), ((rd_T81 l0 x5_1).f1.f5), (⟨((rd_T81 l0 x5_1).f1.f6.f0), ((rd_T81 l0 x5_1).f1.f6.f1)⟩ : S77), (⟨((rd_T81 l0 x5_1).f1.f7.f0), ((rd_T81 l0 x5_1).f1.f7.f1)⟩ : S77), ((rd_T81 l0 x5_1).f1.f8)⟩ : S79)]) (wrap64 (x5_1 + 1))) else (none))) = some (r1, r2) := by rw [if_neg (show ¬ (false = true) by decide)] at H; exact H
                        clear H
                        have H := H1
                        clear H1
                        by_cases c42 : ((rd_T81 l0 x5_1).f1.f0) = 3
                        · rw [if_pos c42] at H
                          have c42b0 : (((rd_T81 l0 x5_1).f1.f0) == 3) = true := beq_iff_eq.mpr c42
                          have c42b1 : (((rd_T81 l0 x5_1).f1.f0) != 3) = false := bne_eq_false_iff_eq.mpr c42
                          clear c42
                          by_cases c43 : x4_1.length < 1256584717458
                          · rw [if_pos c43] at H
                            have LMc43 := Aside0.mk c43
                            clear c43
                            obtain ⟨y180, hy180⟩ : ∃ y_ : List (S79), y_ = (x4_1 ++ [(⟨((rd_T81 l0 x5_1).f1.f0), (wrap64 (x5_1 + 1)), ((rd_T81 l0 x5_1).f1.f2), x7_2, ((rd_T81 l0 x5_1).f1.f4), ((rd_T81 l0 x5_1).f1.f5), (⟨((rd_T81 l0 x5_1).f1.f6.f0), ((rd_T81 l0 x5_1).f1.f6.f1)⟩ : S77), (⟨((rd_T81 l0 x5_1).f1.f7.f0), ((rd_T81 l0 x5_1).f1.f7.f1)⟩ : S77), x8_2⟩ : S79)]) := ⟨_, rfl⟩
                            replace H : (quadrigalaw29_number.l0 kj30 l0 y180 (wrap64 (x5_1 + 1))) = some (r1, r2) := by first | (rw [hy180]; with_reducible exact H) | (have H2_ := (Option.bind_some _ _).symm.trans H; rw [hy180]; with_reducible exact H2_) | (have H2_ := (Option.bind_some _ _).symm.trans H; with_reducible exact H2_) | with_reducible exact H | (rw [hy180]; exact H) | exact H
                            have Ny180 := Aside0.mk hy180
                            clear hy180
                            have H' := Aside0.mk H
                            clear H
                            have hcz44_0 : wc.cell? ⟨gb173, 0, none⟩ = some (.int .i64 ((rd_T81 l0 x5_1).f1.f0)) := (blk_cell BK173.out 0).trans rfl
                            have hcz44_1 : wc.cell? ⟨gb173, 1, none⟩ = some (.int .i64 (wrap64 (x5_1 + 1))) := (blk_cell BK173.out 1).trans rfl
                            have hcz44_2 : wc.cell? ⟨gb173, 2, none⟩ = some (.int .i64 ((rd_T81 l0 x5_1).f1.f2)) := (blk_cell BK173.out 2).trans rfl
                            have hcz44_3 : wc.cell? ⟨gb173, 3, none⟩ = some (.int .i64 ((rd_T81 l0 x5_1).f1.f3)) := (blk_cell BK173.out 3).trans rfl
                            have hcz44_4 : wc.cell? ⟨gb173, 4, none⟩ = some (.int .i64 ((rd_T81 l0 x5_1).f1.f4)) := (blk_cell BK173.out 4).trans rfl
                            have hcz44_5 : wc.cell? ⟨gb173, 5, none⟩ = some (.string ((rd_T81 l0 x5_1).f1.f5)) := (blk_cell BK173.out 5).trans rfl
                            have hcz44_6 : wc.cell? ⟨gb173, 6, none⟩ = some (.bool ((rd_T81 l0 x5_1).f1.f6.f0)) := (blk_cell BK173.out 6).trans rfl
                            have hcz44_7 : wc.cell? ⟨gb173, 7, none⟩ = some (.string ((rd_T81 l0 x5_1).f1.f6.f1)) := (blk_cell BK173.out 7).trans rfl
                            have hcz44_8 : wc.cell? ⟨gb173, 8, none⟩ = some (.bool ((rd_T81 l0 x5_1).f1.f7.f0)) := (blk_cell BK173.out 8).trans rfl
                            have hcz44_9 : wc.cell? ⟨gb173, 9, none⟩ = some (.string ((rd_T81 l0 x5_1).f1.f7.f1)) := (blk_cell BK173.out 9).trans rfl
                            have hcz44_10 : wc.cell? ⟨gb173, 10, none⟩ = some (.int .i64 ((rd_T81 l0 x5_1).f1.f8)) := (blk_cell BK173.out 10).trans rfl
                            have hfz44_0 := blk_frozen BK173.out 0
                            have hfz44_1 := blk_frozen BK173.out 1
                            have hfz44_2 := blk_frozen BK173.out 2
                            have hfz44_3 := blk_frozen BK173.out 3
                            have hfz44_4 := blk_frozen BK173.out 4
                            have hfz44_5 := blk_frozen BK173.out 5
                            have hfz44_6 := blk_frozen BK173.out 6
                            have hfz44_7 := blk_frozen BK173.out 7
                            have hfz44_8 := blk_frozen BK173.out 8
                            have hfz44_9 := blk_frozen BK173.out 9
                            have hfz44_10 := blk_frozen BK173.out 10
                            go_wp2_with (first | ((with_reducible refine gate_builtin (b := .append) (xs := #[.tmp 99, .tmp 101]) rfl ?_); at_builtin; refine Kd.R_append k79 (w0 := w) w.heap.size rfl (.tmp 99) (.tmp 101) 55 79 (.agg #[(.int .i64 0), (.int .i64 0), (.int .i64 0), (.int .i64 0), (.int .i64 0), (.string ⟨#[]⟩), (.bool false), (.string ⟨#[]⟩), (.bool false), (.string ⟨#[]⟩), (.int .i64 0)]) 112 rfl Try.underlying55 info79 rfl (by decide) (by omega) u4 x4_1 (⟨((rd_T81 l0 x5_1).f1.f0), (wrap64 (x5_1 + 1)), ((rd_T81 l0 x5_1).f1.f2), x7_2, ((rd_T81 l0 x5_1).f1.f4), ((rd_T81 l0 x5_1).f1.f5), (⟨((rd_T81 l0 x5_1).f1.f6.f0), ((rd_T81 l0 x5_1).f1.f6.f1)⟩ : S77), (⟨((rd_T81 l0 x5_1).f1.f7.f0), ((rd_T81 l0 x5_1).f1.f7.f1)⟩ : S77), x8_2⟩ : S79) [.int .i64 ((rd_T81 l0 x5_1).f1.f0), .int .i64 (wrap64 (x5_1 + 1)), .int .i64 ((rd_T81 l0 x5_1).f1.f2), .int .i64 x7_2, .int .i64 ((rd_T81 l0 x5_1).f1.f4), .string ((rd_T81 l0 x5_1).f1.f5), .bool ((rd_T81 l0 x5_1).f1.f6.f0), .string ((rd_T81 l0 x5_1).f1.f6.f1), .bool ((rd_T81 l0 x5_1).f1.f7.f0), .string ((rd_T81 l0 x5_1).f1.f7.f1), .int .i64 x8_2] (fun k_ => k_ ≠ gb173) (fun _ => False) rfl (by first | (go_simp; done) | (go_simp; rfl)) ?aP (fun _ hk => hk.elim) ?aF ?aO ?aB ?aS ?aL ?_; (case aP => exact k79_mkM _ _ _ (⟨((rd_T81 l0 x5_1).f1.f0), (wrap64 (x5_1 + 1)), ((rd_T81 l0 x5_1).f1.f2), x7_2, ((rd_T81 l0 x5_1).f1.f4), ((rd_T81 l0 x5_1).f1.f5), (⟨((rd_T81 l0 x5_1).f1.f6.f0), ((rd_T81 l0 x5_1).f1.f6.f1)⟩ : S77), (⟨((rd_T81 l0 x5_1).f1.f7.f0), ((rd_T81 l0 x5_1).f1.f7.f1)⟩ : S77), x8_2⟩ : S79)); (case aB => exact (by repeat (first | (with_reducible first | exact HB.out | apply below_alloc | apply pw_below_drewN | apply below_drew1 | refine below_set ?_ GE173.out) | exact HB.out))); (case aF => exact (fun k_ hk => Kd.freshB (g := gb173) (o := .cells #[.int .i64 ((rd_T81 l0 x5_1).f1.f0), .int .i64 (wrap64 (x5_1 + 1)), .int .i64 ((rd_T81 l0 x5_1).f1.f2), .int .i64 x7_2, .int .i64 ((rd_T81 l0 x5_1).f1.f4), .string ((rd_T81 l0 x5_1).f1.f5), .bool ((rd_T81 l0 x5_1).f1.f6.f0), .string ((rd_T81 l0 x5_1).f1.f6.f1), .bool ((rd_T81 l0 x5_1).f1.f7.f0), .string ((rd_T81 l0 x5_1).f1.f7.f1), .int .i64 x8_2] 79 (0, 0)) (by (with_reducible repeat (first | refine blk_drewN ?_ _ | refine blk_drew ?_ | refine blk_alloc ?_ _)); refine blk_put (cs := #[.int .i64 ((rd_T81 l0 x5_1).f1.f0), .int .i64 (wrap64 (x5_1 + 1)), .int .i64 ((rd_T81 l0 x5_1).f1.f2), .int .i64 x7_2, .int .i64 ((rd_T81 l0 x5_1).f1.f4), .string ((rd_T81 l0 x5_1).f1.f5), .bool ((rd_T81 l0 x5_1).f1.f6.f0), .string ((rd_T81 l0 x5_1).f1.f6.f1), .bool ((rd_T81 l0 x5_1).f1.f7.f0), .string ((rd_T81 l0 x5_1).f1.f7.f1), .int .i64 ((rd_T81 l0 x5_1).f1.f8)]) ?_ 10 _ rfl; (with_reducible repeat (first | refine blk_drewN ?_ _ | refine blk_drew ?_ | refine blk_alloc ?_ _)); refine blk_put (cs := #[.int .i64 ((rd_T81 l0 x5_1).f1.f0), .int .i64 (wrap64 (x5_1 + 1)), .int .i64 ((rd_T81 l0 x5_1).f1.f2), .int .i64 ((rd_T81 l0 x5_1).f1.f3), .int .i64 ((rd_T81 l0 x5_1).f1.f4), .string ((rd_T81 l0 x5_1).f1.f5), .bool ((rd_T81 l0 x5_1).f1.f6.f0), .string ((rd_T81 l0 x5_1).f1.f6.f1), .bool ((rd_T81 l0 x5_1).f1.f7.f0), .string ((rd_T81 l0 x5_1).f1.f7.f1), .int .i64 ((rd_T81 l0 x5_1).f1.f8)]) ?_ 3 _ rfl; (with_reducible repeat (first | refine blk_drewN ?_ _ | refine blk_drew ?_ | refine blk_alloc ?_ _)); exact BK173.out) k_ hk)); (case aO => exact (by (with_reducible repeat (first | apply Kd.R_alloc | apply Kd.R_drewN | apply Kd.R_drew)); exact Kd.R_mono (Kd.R_far (p := ⟨gb173, 10, none⟩) (Kd.R_far (p := ⟨gb173, 3, none⟩) (Kd.R_mono HO_4.out (fun k_ hk => (⟨hk, hk⟩ : _ ∧ k_ ≠ gb173))) (fun _ hk => hk.2) (.int .i64 x7_2)) (fun _ hk => hk.2) (.int .i64 x8_2)) (fun _ hk => hk.1))); (case aS => exact (below_size (by repeat (first | (with_reducible first | exact HB.out | apply below_alloc | apply pw_below_drewN | apply below_drew1 | refine below_set ?_ GE173.out) | exact HB.out)))); (case aL => have := LMc43.out; omega); intro v181 w45 ho hb hg hat; rw [← Ny180.out] at ho; have n0_ := Aside0.mk (blk_grown (g := gb173) (o := .cells #[.int .i64 ((rd_T81 l0 x5_1).f1.f0), .int .i64 (wrap64 (x5_1 + 1)), .int .i64 ((rd_T81 l0 x5_1).f1.f2), .int .i64 x7_2, .int .i64 ((rd_T81 l0 x5_1).f1.f4), .string ((rd_T81 l0 x5_1).f1.f5), .bool ((rd_T81 l0 x5_1).f1.f6.f0), .string ((rd_T81 l0 x5_1).f1.f6.f1), .bool ((rd_T81 l0 x5_1).f1.f7.f0), .string ((rd_T81 l0 x5_1).f1.f7.f1), .int .i64 x8_2] 79 (0, 0)) (by (with_reducible repeat (first | refine blk_drewN ?_ _ | refine blk_drew ?_ | refine blk_alloc ?_ _)); refine blk_put (cs := #[.int .i64 ((rd_T81 l0 x5_1).f1.f0), .int .i64 (wrap64 (x5_1 + 1)), .int .i64 ((rd_T81 l0 x5_1).f1.f2), .int .i64 x7_2, .int .i64 ((rd_T81 l0 x5_1).f1.f4), .string ((rd_T81 l0 x5_1).f1.f5), .bool ((rd_T81 l0 x5_1).f1.f6.f0), .string ((rd_T81 l0 x5_1).f1.f6.f1), .bool ((rd_T81 l0 x5_1).f1.f7.f0), .string ((rd_T81 l0 x5_1).f1.f7.f1), .int .i64 ((rd_T81 l0 x5_1).f1.f8)]) ?_ 10 _ rfl; (with_reducible repeat (first | refine blk_drewN ?_ _ | refine blk_drew ?_ | refine blk_alloc ?_ _)); refine blk_put (cs := #[.int .i64 ((rd_T81 l0 x5_1).f1.f0), .int .i64 (wrap64 (x5_1 + 1)), .int .i64 ((rd_T81 l0 x5_1).f1.f2), .int .i64 ((rd_T81 l0 x5_1).f1.f3), .int .i64 ((rd_T81 l0 x5_1).f1.f4), .string ((rd_T81 l0 x5_1).f1.f5), .bool ((rd_T81 l0 x5_1).f1.f6.f0), .string ((rd_T81 l0 x5_1).f1.f6.f1), .bool ((rd_T81 l0 x5_1).f1.f7.f0), .string ((rd_T81 l0 x5_1).f1.f7.f1), .int .i64 ((rd_T81 l0 x5_1).f1.f8)]) ?_ 3 _ rfl; (with_reducible repeat (first | refine blk_drewN ?_ _ | refine blk_drew ?_ | refine blk_alloc ?_ _)); exact BK173.out) hg (Kd.R_away HO_4.out (fun _ hk => hk))); have n1_ := Aside0.mk (hb); have n2_ := Aside0.mk (ho); clear BK173; clear HB; clear HO_4; have BK173 := n0_; have HB := n1_; have HO182 := n2_; clear n0_ n1_ n2_; clear ho hb hg hat))
                            repeat (go_quiet (first | ((with_reducible refine gate_builtin (b := .append) (xs := #[.tmp 99, .tmp 101]) rfl ?_); at_builtin; refine Kd.R_append k79 (w0 := w) w.heap.size rfl (.tmp 99) (.tmp 101) 55 79 (.agg #[(.int .i64 0), (.int .i64 0), (.int .i64 0), (.int .i64 0), (.int .i64 0), (.string ⟨#[]⟩), (.bool false), (.string ⟨#[]⟩), (.bool false), (.string ⟨#[]⟩), (.int .i64 0)]) 112 rfl Try.underlying55 info79 rfl (by decide) (by omega) u4 x4_1 (⟨((rd_T81 l0 x5_1).f1.f0), (wrap64 (x5_1 + 1)), ((rd_T81 l0 x5_1).f1.f2), x7_2, ((rd_T81 l0 x5_1).f1.f4), ((rd_T81 l0 x5_1).f1.f5), (⟨((rd_T81 l0 x5_1).f1.f6.f0), ((rd_T81 l0 x5_1).f1.f6.f1)⟩ : S77), (⟨((rd_T81 l0 x5_1).f1.f7.f0), ((rd_T81 l0 x5_1).f1.f7.f1)⟩ : S77), x8_2⟩ : S79) [.int .i64 ((rd_T81 l0 x5_1).f1.f0), .int .i64 (wrap64 (x5_1 + 1)), .int .i64 ((rd_T81 l0 x5_1).f1.f2), .int .i64 x7_2, .int .i64 ((rd_T81 l0 x5_1).f1.f4), .string ((rd_T81 l0 x5_1).f1.f5), .bool ((rd_T81 l0 x5_1).f1.f6.f0), .string ((rd_T81 l0 x5_1).f1.f6.f1), .bool ((rd_T81 l0 x5_1).f1.f7.f0), .string ((rd_T81 l0 x5_1).f1.f7.f1), .int .i64 x8_2] (fun k_ => k_ ≠ gb173) (fun _ => False) rfl (by first | (go_simp; done) | (go_simp; rfl)) ?aP (fun _ hk => hk.elim) ?aF ?aO ?aB ?aS ?aL ?_; (case aP => exact k79_mkM _ _ _ (⟨((rd_T81 l0 x5_1).f1.f0), (wrap64 (x5_1 + 1)), ((rd_T81 l0 x5_1).f1.f2), x7_2, ((rd_T81 l0 x5_1).f1.f4), ((rd_T81 l0 x5_1).f1.f5), (⟨((rd_T81 l0 x5_1).f1.f6.f0), ((rd_T81 l0 x5_1).f1.f6.f1)⟩ : S77), (⟨((rd_T81 l0 x5_1).f1.f7.f0), ((rd_T81 l0 x5_1).f1.f7.f1)⟩ : S77), x8_2⟩ : S79)); (case aB => exact (by repeat (first | (with_reducible first | exact HB.out | apply below_alloc | apply pw_below_drewN | apply below_drew1 | refine below_set ?_ GE173.out) | exact HB.out))); (case aF => exact (fun k_ hk => Kd.freshB (g := gb173) (o := .cells #[.int .i64 ((rd_T81 l0 x5_1).f1.f0), .int .i64 (wrap64 (x5_1 + 1)), .int .i64 ((rd_T81 l0 x5_1).f1.f2), .int .i64 x7_2, .int .i64 ((rd_T81 l0 x5_1).f1.f4), .string ((rd_T81 l0 x5_1).f1.f5), .bool ((rd_T81 l0 x5_1).f1.f6.f0), .string ((rd_T81 l0 x5_1).f1.f6.f1), .bool ((rd_T81 l0 x5_1).f1.f7.f0), .string ((rd_T81 l0 x5_1).f1.f7.f1), .int .i64 x8_2] 79 (0, 0)) (by (with_reducible repeat (first | refine blk_drewN ?_ _ | refine blk_drew ?_ | refine blk_alloc ?_ _)); refine blk_put (cs := #[.int .i64 ((rd_T81 l0 x5_1).f1.f0), .int .i64 (wrap64 (x5_1 + 1)), .int .i64 ((rd_T81 l0 x5_1).f1.f2), .int .i64 x7_2, .int .i64 ((rd_T81 l0 x5_1).f1.f4), .string ((rd_T81 l0 x5_1).f1.f5), .bool ((rd_T81 l0 x5_1).f1.f6.f0), .string ((rd_T81 l0 x5_1).f1.f6.f1), .bool ((rd_T81 l0 x5_1).f1.f7.f0), .string ((rd_T81 l0 x5_1).f1.f7.f1), .int .i64 ((rd_T81 l0 x5_1).f1.f8)]) ?_ 10 _ rfl; (with_reducible repeat (first | refine blk_drewN ?_ _ | refine blk_drew ?_ | refine blk_alloc ?_ _)); refine blk_put (cs := #[.int .i64 ((rd_T81 l0 x5_1).f1.f0), .int .i64 (wrap64 (x5_1 + 1)), .int .i64 ((rd_T81 l0 x5_1).f1.f2), .int .i64 ((rd_T81 l0 x5_1).f1.f3), .int .i64 ((rd_T81 l0 x5_1).f1.f4), .string ((rd_T81 l0 x5_1).f1.f5), .bool ((rd_T81 l0 x5_1).f1.f6.f0), .string ((rd_T81 l0 x5_1).f1.f6.f1), .bool ((rd_T81 l0 x5_1).f1.f7.f0), .string ((rd_T81 l0 x5_1).f1.f7.f1), .int .i64 ((rd_T81 l0 x5_1).f1.f8)]) ?_ 3 _ rfl; (with_reducible repeat (first | refine blk_drewN ?_ _ | refine blk_drew ?_ | refine blk_alloc ?_ _)); exact BK173.out) k_ hk)); (case aO => exact (by (with_reducible repeat (first | apply Kd.R_alloc | apply Kd.R_drewN | apply Kd.R_drew)); exact Kd.R_mono (Kd.R_far (p := ⟨gb173, 10, none⟩) (Kd.R_far (p := ⟨gb173, 3, none⟩) (Kd.R_mono HO_4.out (fun k_ hk => (⟨hk, hk⟩ : _ ∧ k_ ≠ gb173))) (fun _ hk => hk.2) (.int .i64 x7_2)) (fun _ hk => hk.2) (.int .i64 x8_2)) (fun _ hk => hk.1))); (case aS => exact (below_size (by repeat (first | (with_reducible first | exact HB.out | apply below_alloc | apply pw_below_drewN | apply below_drew1 | refine below_set ?_ GE173.out) | exact HB.out)))); (case aL => have := LMc43.out; omega); intro v181 w45 ho hb hg hat; rw [← Ny180.out] at ho; have n0_ := Aside0.mk (blk_grown (g := gb173) (o := .cells #[.int .i64 ((rd_T81 l0 x5_1).f1.f0), .int .i64 (wrap64 (x5_1 + 1)), .int .i64 ((rd_T81 l0 x5_1).f1.f2), .int .i64 x7_2, .int .i64 ((rd_T81 l0 x5_1).f1.f4), .string ((rd_T81 l0 x5_1).f1.f5), .bool ((rd_T81 l0 x5_1).f1.f6.f0), .string ((rd_T81 l0 x5_1).f1.f6.f1), .bool ((rd_T81 l0 x5_1).f1.f7.f0), .string ((rd_T81 l0 x5_1).f1.f7.f1), .int .i64 x8_2] 79 (0, 0)) (by (with_reducible repeat (first | refine blk_drewN ?_ _ | refine blk_drew ?_ | refine blk_alloc ?_ _)); refine blk_put (cs := #[.int .i64 ((rd_T81 l0 x5_1).f1.f0), .int .i64 (wrap64 (x5_1 + 1)), .int .i64 ((rd_T81 l0 x5_1).f1.f2), .int .i64 x7_2, .int .i64 ((rd_T81 l0 x5_1).f1.f4), .string ((rd_T81 l0 x5_1).f1.f5), .bool ((rd_T81 l0 x5_1).f1.f6.f0), .string ((rd_T81 l0 x5_1).f1.f6.f1), .bool ((rd_T81 l0 x5_1).f1.f7.f0), .string ((rd_T81 l0 x5_1).f1.f7.f1), .int .i64 ((rd_T81 l0 x5_1).f1.f8)]) ?_ 10 _ rfl; (with_reducible repeat (first | refine blk_drewN ?_ _ | refine blk_drew ?_ | refine blk_alloc ?_ _)); refine blk_put (cs := #[.int .i64 ((rd_T81 l0 x5_1).f1.f0), .int .i64 (wrap64 (x5_1 + 1)), .int .i64 ((rd_T81 l0 x5_1).f1.f2), .int .i64 ((rd_T81 l0 x5_1).f1.f3), .int .i64 ((rd_T81 l0 x5_1).f1.f4), .string ((rd_T81 l0 x5_1).f1.f5), .bool ((rd_T81 l0 x5_1).f1.f6.f0), .string ((rd_T81 l0 x5_1).f1.f6.f1), .bool ((rd_T81 l0 x5_1).f1.f7.f0), .string ((rd_T81 l0 x5_1).f1.f7.f1), .int .i64 ((rd_T81 l0 x5_1).f1.f8)]) ?_ 3 _ rfl; (with_reducible repeat (first | refine blk_drewN ?_ _ | refine blk_drew ?_ | refine blk_alloc ?_ _)); exact BK173.out) hg (Kd.R_away HO_4.out (fun _ hk => hk))); have n1_ := Aside0.mk (hb); have n2_ := Aside0.mk (ho); clear BK173; clear HB; clear HO_4; have BK173 := n0_; have HB := n1_; have HO182 := n2_; clear n0_ n1_ n2_; clear ho hb hg hat)); try go_wp2_with (first | ((with_reducible refine gate_builtin (b := .append) (xs := #[.tmp 99, .tmp 101]) rfl ?_); at_builtin; refine Kd.R_append k79 (w0 := w) w.heap.size rfl (.tmp 99) (.tmp 101) 55 79 (.agg #[(.int .i64 0), (.int .i64 0), (.int .i64 0), (.int .i64 0), (.int .i64 0), (.string ⟨#[]⟩), (.bool false), (.string ⟨#[]⟩), (.bool false), (.string ⟨#[]⟩), (.int .i64 0)]) 112 rfl Try.underlying55 info79 rfl (by decide) (by omega) u4 x4_1 (⟨((rd_T81 l0 x5_1).f1.f0), (wrap64 (x5_1 + 1)), ((rd_T81 l0 x5_1).f1.f2), x7_2, ((rd_T81 l0 x5_1).f1.f4), ((rd_T81 l0 x5_1).f1.f5), (⟨((rd_T81 l0 x5_1).f1.f6.f0), ((rd_T81 l0 x5_1).f1.f6.f1)⟩ : S77), (⟨((rd_T81 l0 x5_1).f1.f7.f0), ((rd_T81 l0 x5_1).f1.f7.f1)⟩ : S77), x8_2⟩ : S79) [.int .i64 ((rd_T81 l0 x5_1).f1.f0), .int .i64 (wrap64 (x5_1 + 1)), .int .i64 ((rd_T81 l0 x5_1).f1.f2), .int .i64 x7_2, .int .i64 ((rd_T81 l0 x5_1).f1.f4), .string ((rd_T81 l0 x5_1).f1.f5), .bool ((rd_T81 l0 x5_1).f1.f6.f0), .string ((rd_T81 l0 x5_1).f1.f6.f1), .bool ((rd_T81 l0 x5_1).f1.f7.f0), .string ((rd_T81 l0 x5_1).f1.f7.f1), .int .i64 x8_2] (fun k_ => k_ ≠ gb173) (fun _ => False) rfl (by first | (go_simp; done) | (go_simp; rfl)) ?aP (fun _ hk => hk.elim) ?aF ?aO ?aB ?aS ?aL ?_; (case aP => exact k79_mkM _ _ _ (⟨((rd_T81 l0 x5_1).f1.f0), (wrap64 (x5_1 + 1)), ((rd_T81 l0 x5_1).f1.f2), x7_2, ((rd_T81 l0 x5_1).f1.f4), ((rd_T81 l0 x5_1).f1.f5), (⟨((rd_T81 l0 x5_1).f1.f6.f0), ((rd_T81 l0 x5_1).f1.f6.f1)⟩ : S77), (⟨((rd_T81 l0 x5_1).f1.f7.f0), ((rd_T81 l0 x5_1).f1.f7.f1)⟩ : S77), x8_2⟩ : S79)); (case aB => exact (by repeat (first | (with_reducible first | exact HB.out | apply below_alloc | apply pw_below_drewN | apply below_drew1 | refine below_set ?_ GE173.out) | exact HB.out))); (case aF => exact (fun k_ hk => Kd.freshB (g := gb173) (o := .cells #[.int .i64 ((rd_T81 l0 x5_1).f1.f0), .int .i64 (wrap64 (x5_1 + 1)), .int .i64 ((rd_T81 l0 x5_1).f1.f2), .int .i64 x7_2, .int .i64 ((rd_T81 l0 x5_1).f1.f4), .string ((rd_T81 l0 x5_1).f1.f5), .bool ((rd_T81 l0 x5_1).f1.f6.f0), .string ((rd_T81 l0 x5_1).f1.f6.f1), .bool ((rd_T81 l0 x5_1).f1.f7.f0), .string ((rd_T81 l0 x5_1).f1.f7.f1), .int .i64 x8_2] 79 (0, 0)) (by (with_reducible repeat (first | refine blk_drewN ?_ _ | refine blk_drew ?_ | refine blk_alloc ?_ _)); refine blk_put (cs := #[.int .i64 ((rd_T81 l0 x5_1).f1.f0), .int .i64 (wrap64 (x5_1 + 1)), .int .i64 ((rd_T81 l0 x5_1).f1.f2), .int .i64 x7_2, .int .i64 ((rd_T81 l0 x5_1).f1.f4), .string ((rd_T81 l0 x5_1).f1.f5), .bool ((rd_T81 l0 x5_1).f1.f6.f0), .string ((rd_T81 l0 x5_1).f1.f6.f1), .bool ((rd_T81 l0 x5_1).f1.f7.f0), .string ((rd_T81 l0 x5_1).f1.f7.f1), .int .i64 ((rd_T81 l0 x5_1).f1.f8)]) ?_ 10 _ rfl; (with_reducible repeat (first | refine blk_drewN ?_ _ | refine blk_drew ?_ | refine blk_alloc ?_ _)); refine blk_put (cs := #[.int .i64 ((rd_T81 l0 x5_1).f1.f0), .int .i64 (wrap64 (x5_1 + 1)), .int .i64 ((rd_T81 l0 x5_1).f1.f2), .int .i64 ((rd_T81 l0 x5_1).f1.f3), .int .i64 ((rd_T81 l0 x5_1).f1.f4), .string ((rd_T81 l0 x5_1).f1.f5), .bool ((rd_T81 l0 x5_1).f1.f6.f0), .string ((rd_T81 l0 x5_1).f1.f6.f1), .bool ((rd_T81 l0 x5_1).f1.f7.f0), .string ((rd_T81 l0 x5_1).f1.f7.f1), .int .i64 ((rd_T81 l0 x5_1).f1.f8)]) ?_ 3 _ rfl; (with_reducible repeat (first | refine blk_drewN ?_ _ | refine blk_drew ?_ | refine blk_alloc ?_ _)); exact BK173.out) k_ hk)); (case aO => exact (by (with_reducible repeat (first | apply Kd.R_alloc | apply Kd.R_drewN | apply Kd.R_drew)); exact Kd.R_mono (Kd.R_far (p := ⟨gb173, 10, none⟩) (Kd.R_far (p := ⟨gb173, 3, none⟩) (Kd.R_mono HO_4.out (fun k_ hk => (⟨hk, hk⟩ : _ ∧ k_ ≠ gb173))) (fun _ hk => hk.2) (.int .i64 x7_2)) (fun _ hk => hk.2) (.int .i64 x8_2)) (fun _ hk => hk.1))); (case aS => exact (below_size (by repeat (first | (with_reducible first | exact HB.out | apply below_alloc | apply pw_below_drewN | apply below_drew1 | refine below_set ?_ GE173.out) | exact HB.out)))); (case aL => have := LMc43.out; omega); intro v181 w45 ho hb hg hat; rw [← Ny180.out] at ho; have n0_ := Aside0.mk (blk_grown (g := gb173) (o := .cells #[.int .i64 ((rd_T81 l0 x5_1).f1.f0), .int .i64 (wrap64 (x5_1 + 1)), .int .i64 ((rd_T81 l0 x5_1).f1.f2), .int .i64 x7_2, .int .i64 ((rd_T81 l0 x5_1).f1.f4), .string ((rd_T81 l0 x5_1).f1.f5), .bool ((rd_T81 l0 x5_1).f1.f6.f0), .string ((rd_T81 l0 x5_1).f1.f6.f1), .bool ((rd_T81 l0 x5_1).f1.f7.f0), .string ((rd_T81 l0 x5_1).f1.f7.f1), .int .i64 x8_2] 79 (0, 0)) (by (with_reducible repeat (first | refine blk_drewN ?_ _ | refine blk_drew ?_ | refine blk_alloc ?_ _)); refine blk_put (cs := #[.int .i64 ((rd_T81 l0 x5_1).f1.f0), .int .i64 (wrap64 (x5_1 + 1)), .int .i64 ((rd_T81 l0 x5_1).f1.f2), .int .i64 x7_2, .int .i64 ((rd_T81 l0 x5_1).f1.f4), .string ((rd_T81 l0 x5_1).f1.f5), .bool ((rd_T81 l0 x5_1).f1.f6.f0), .string ((rd_T81 l0 x5_1).f1.f6.f1), .bool ((rd_T81 l0 x5_1).f1.f7.f0), .string ((rd_T81 l0 x5_1).f1.f7.f1), .int .i64 ((rd_T81 l0 x5_1).f1.f8)]) ?_ 10 _ rfl; (with_reducible repeat (first | refine blk_drewN ?_ _ | refine blk_drew ?_ | refine blk_alloc ?_ _)); refine blk_put (cs := #[.int .i64 ((rd_T81 l0 x5_1).f1.f0), .int .i64 (wrap64 (x5_1 + 1)), .int .i64 ((rd_T81 l0 x5_1).f1.f2), .int .i64 ((rd_T81 l0 x5_1).f1.f3), .int .i64 ((rd_T81 l0 x5_1).f1.f4), .string ((rd_T81 l0 x5_1).f1.f5), .bool ((rd_T81 l0 x5_1).f1.f6.f0), .string ((rd_T81 l0 x5_1).f1.f6.f1), .bool ((rd_T81 l0 x5_1).f1.f7.f0), .string ((rd_T81 l0 x5_1).f1.f7.f1), .int .i64 ((rd_T81 l0 x5_1).f1.f8)]) ?_ 3 _ rfl; (with_reducible repeat (first | refine blk_drewN ?_ _ | refine blk_drew ?_ | refine blk_alloc ?_ _)); exact BK173.out) hg (Kd.R_away HO_4.out (fun _ hk => hk))); have n1_ := Aside0.mk (hb); have n2_ := Aside0.mk (ho); clear BK173; clear HB; clear HO_4; have BK173 := n0_; have HB := n1_; have HO182 := n2_; clear n0_ n1_ n2_; clear ho hb hg hat)))
                            go_roundg kj30
                            case measure => have := HK1.out; have := HK2.out; have := HJ30.out; omega
                            case rel => exact ⟨(y180), (wrap64 (x5_1 + 1)), (by first | rfl | (simp; done) | (simp [*]; done)), H', ⟨by have := HK1.out; have := HK2.out; have := HJ30.out; omega⟩, ⟨by (with_reducible repeat (first | apply Kd.R_alloc | apply Kd.R_drewN | apply Kd.R_drew)); exact Kd.R_mono HO182.out (fun _ hk => trivial)⟩, ⟨by repeat (first | (with_reducible first | exact HB.out | apply below_alloc | apply pw_below_drewN | apply below_drew1 | refine below_set ?_ GE173.out) | exact HB.out)⟩⟩
                          · rw [if_neg c43] at H
                            exact absurd H (by simp)
                        · rw [if_neg c42] at H
                          have c42b0 : (((rd_T81 l0 x5_1).f1.f0) == 3) = false := beq_eq_false_iff_ne.mpr c42
                          have c42b1 : (((rd_T81 l0 x5_1).f1.f0) != 3) = true := bne_iff_ne.mpr c42
                          by_cases c46 : x4_1.length < 1256584717458
                          · rw [if_pos c46] at H
                            have LMc46 := Aside0.mk c46
                            clear c46
                            obtain ⟨y183, hy183⟩ : ∃ y_ : List (S79), y_ = (x4_1 ++ [(⟨((rd_T81 l0 x5_1).f1.f0), (wrap64 (x5_1 + 1)), ((rd_T81 l0 x5_1).f1.f2), x7_2, ((rd_T81 l0 x5_1).f1.f4), ((rd_T81 l0 x5_1).f1.f5), (⟨((rd_T81 l0 x5_1).f1.f6.f0), ((rd_T81 l0 x5_1).f1.f6.f1)⟩ : S77), (⟨((rd_T81 l0 x5_1).f1.f7.f0), ((rd_T81 l0 x5_1).f1.f7.f1)⟩ : S77), ((rd_T81 l0 x5_1).f1.f8)⟩ : S79)]) := ⟨_, rfl⟩
                            replace H : (quadrigalaw29_number.l0 kj30 l0 y183 (wrap64 (x5_1 + 1))) = some (r1, r2) := by first | (rw [hy183]; with_reducible exact H) | (have H2_ := (Option.bind_some _ _).symm.trans H; rw [hy183]; with_reducible exact H2_) | (have H2_ := (Option.bind_some _ _).symm.trans H; with_reducible exact H2_) | with_reducible exact H | (rw [hy183]; exact H) | exact H
                            have Ny183 := Aside0.mk hy183
                            clear hy183
                            have H' := Aside0.mk H
                            clear H
                            have hcz47_0 : wc.cell? ⟨gb173, 0, none⟩ = some (.int .i64 ((rd_T81 l0 x5_1).f1.f0)) := (blk_cell BK173.out 0).trans rfl
                            have hcz47_1 : wc.cell? ⟨gb173, 1, none⟩ = some (.int .i64 (wrap64 (x5_1 + 1))) := (blk_cell BK173.out 1).trans rfl
                            have hcz47_2 : wc.cell? ⟨gb173, 2, none⟩ = some (.int .i64 ((rd_T81 l0 x5_1).f1.f2)) := (blk_cell BK173.out 2).trans rfl
                            have hcz47_3 : wc.cell? ⟨gb173, 3, none⟩ = some (.int .i64 ((rd_T81 l0 x5_1).f1.f3)) := (blk_cell BK173.out 3).trans rfl
                            have hcz47_4 : wc.cell? ⟨gb173, 4, none⟩ = some (.int .i64 ((rd_T81 l0 x5_1).f1.f4)) := (blk_cell BK173.out 4).trans rfl
                            have hcz47_5 : wc.cell? ⟨gb173, 5, none⟩ = some (.string ((rd_T81 l0 x5_1).f1.f5)) := (blk_cell BK173.out 5).trans rfl
                            have hcz47_6 : wc.cell? ⟨gb173, 6, none⟩ = some (.bool ((rd_T81 l0 x5_1).f1.f6.f0)) := (blk_cell BK173.out 6).trans rfl
                            have hcz47_7 : wc.cell? ⟨gb173, 7, none⟩ = some (.string ((rd_T81 l0 x5_1).f1.f6.f1)) := (blk_cell BK173.out 7).trans rfl
                            have hcz47_8 : wc.cell? ⟨gb173, 8, none⟩ = some (.bool ((rd_T81 l0 x5_1).f1.f7.f0)) := (blk_cell BK173.out 8).trans rfl
                            have hcz47_9 : wc.cell? ⟨gb173, 9, none⟩ = some (.string ((rd_T81 l0 x5_1).f1.f7.f1)) := (blk_cell BK173.out 9).trans rfl
                            have hcz47_10 : wc.cell? ⟨gb173, 10, none⟩ = some (.int .i64 ((rd_T81 l0 x5_1).f1.f8)) := (blk_cell BK173.out 10).trans rfl
                            have hfz47_0 := blk_frozen BK173.out 0
                            have hfz47_1 := blk_frozen BK173.out 1
                            have hfz47_2 := blk_frozen BK173.out 2
                            have hfz47_3 := blk_frozen BK173.out 3
                            have hfz47_4 := blk_frozen BK173.out 4
                            have hfz47_5 := blk_frozen BK173.out 5
                            have hfz47_6 := blk_frozen BK173.out 6
                            have hfz47_7 := blk_frozen BK173.out 7
                            have hfz47_8 := blk_frozen BK173.out 8
                            have hfz47_9 := blk_frozen BK173.out 9
                            have hfz47_10 := blk_frozen BK173.out 10
                            go_wp2_with (first | ((with_reducible refine gate_builtin (b := .append) (xs := #[.tmp 99, .tmp 101]) rfl ?_); at_builtin; refine Kd.R_append k79 (w0 := w) w.heap.size rfl (.tmp 99) (.tmp 101) 55 79 (.agg #[(.int .i64 0), (.int .i64 0), (.int .i64 0), (.int .i64 0), (.int .i64 0), (.string ⟨#[]⟩), (.bool false), (.string ⟨#[]⟩), (.bool false), (.string ⟨#[]⟩), (.int .i64 0)]) 112 rfl Try.underlying55 info79 rfl (by decide) (by omega) u4 x4_1 (⟨((rd_T81 l0 x5_1).f1.f0), (wrap64 (x5_1 + 1)), ((rd_T81 l0 x5_1).f1.f2), x7_2, ((rd_T81 l0 x5_1).f1.f4), ((rd_T81 l0 x5_1).f1.f5), (⟨((rd_T81 l0 x5_1).f1.f6.f0), ((rd_T81 l0 x5_1).f1.f6.f1)⟩ : S77), (⟨((rd_T81 l0 x5_1).f1.f7.f0), ((rd_T81 l0 x5_1).f1.f7.f1)⟩ : S77), ((rd_T81 l0 x5_1).f1.f8)⟩ : S79) [.int .i64 ((rd_T81 l0 x5_1).f1.f0), .int .i64 (wrap64 (x5_1 + 1)), .int .i64 ((rd_T81 l0 x5_1).f1.f2), .int .i64 x7_2, .int .i64 ((rd_T81 l0 x5_1).f1.f4), .string ((rd_T81 l0 x5_1).f1.f5), .bool ((rd_T81 l0 x5_1).f1.f6.f0), .string ((rd_T81 l0 x5_1).f1.f6.f1), .bool ((rd_T81 l0 x5_1).f1.f7.f0), .string ((rd_T81 l0 x5_1).f1.f7.f1), .int .i64 ((rd_T81 l0 x5_1).f1.f8)] (fun k_ => k_ ≠ gb173) (fun _ => False) rfl (by first | (go_simp; done) | (go_simp; rfl)) ?aP (fun _ hk => hk.elim) ?aF ?aO ?aB ?aS ?aL ?_; (case aP => exact k79_mkM _ _ _ (⟨((rd_T81 l0 x5_1).f1.f0), (wrap64 (x5_1 + 1)), ((rd_T81 l0 x5_1).f1.f2), x7_2, ((rd_T81 l0 x5_1).f1.f4), ((rd_T81 l0 x5_1).f1.f5), (⟨((rd_T81 l0 x5_1).f1.f6.f0), ((rd_T81 l0 x5_1).f1.f6.f1)⟩ : S77), (⟨((rd_T81 l0 x5_1).f1.f7.f0), ((rd_T81 l0 x5_1).f1.f7.f1)⟩ : S77), ((rd_T81 l0 x5_1).f1.f8)⟩ : S79)); (case aB => exact (by repeat (first | (with_reducible first | exact HB.out | apply below_alloc | apply pw_below_drewN | apply below_drew1 | refine below_set ?_ GE173.out) | exact HB.out))); (case aF => exact (fun k_ hk => Kd.freshB (g := gb173) (o := .cells #[.int .i64 ((rd_T81 l0 x5_1).f1.f0), .int .i64 (wrap64 (x5_1 + 1)), .int .i64 ((rd_T81 l0 x5_1).f1.f2), .int .i64 x7_2, .int .i64 ((rd_T81 l0 x5_1).f1.f4), .string ((rd_T81 l0 x5_1).f1.f5), .bool ((rd_T81 l0 x5_1).f1.f6.f0), .string ((rd_T81 l0 x5_1).f1.f6.f1), .bool ((rd_T81 l0 x5_1).f1.f7.f0), .string ((rd_T81 l0 x5_1).f1.f7.f1), .int .i64 ((rd_T81 l0 x5_1).f1.f8)] 79 (0, 0)) (by (with_reducible repeat (first | refine blk_drewN ?_ _ | refine blk_drew ?_ | refine blk_alloc ?_ _)); refine blk_put (cs := #[.int .i64 ((rd_T81 l0 x5_1).f1.f0), .int .i64 (wrap64 (x5_1 + 1)), .int .i64 ((rd_T81 l0 x5_1).f1.f2), .int .i64 ((rd_T81 l0 x5_1).f1.f3), .int .i64 ((rd_T81 l0 x5_1).f1.f4), .string ((rd_T81 l0 x5_1).f1.f5), .bool ((rd_T81 l0 x5_1).f1.f6.f0), .string ((rd_T81 l0 x5_1).f1.f6.f1), .bool ((rd_T81 l0 x5_1).f1.f7.f0), .string ((rd_T81 l0 x5_1).f1.f7.f1), .int .i64 ((rd_T81 l0 x5_1).f1.f8)]) ?_ 3 _ rfl; (with_reducible repeat (first | refine blk_drewN ?_ _ | refine blk_drew ?_ | refine blk_alloc ?_ _)); exact BK173.out) k_ hk)); (case aO => exact (by (with_reducible repeat (first | apply Kd.R_alloc | apply Kd.R_drewN | apply Kd.R_drew)); exact Kd.R_mono (Kd.R_far (p := ⟨gb173, 3, none⟩) (Kd.R_mono HO_4.out (fun k_ hk => (⟨hk, hk⟩ : _ ∧ k_ ≠ gb173))) (fun _ hk => hk.2) (.int .i64 x7_2)) (fun _ hk => hk.1))); (case aS => exact (below_size (by repeat (first | (with_reducible first | exact HB.out | apply below_alloc | apply pw_below_drewN | apply below_drew1 | refine below_set ?_ GE173.out) | exact HB.out)))); (case aL => have := LMc46.out; omega); intro v184 w48 ho hb hg hat; rw [← Ny183.out] at ho; have n0_ := Aside0.mk (blk_grown (g := gb173) (o := .cells #[.int .i64 ((rd_T81 l0 x5_1).f1.f0), .int .i64 (wrap64 (x5_1 + 1)), .int .i64 ((rd_T81 l0 x5_1).f1.f2), .int .i64 x7_2, .int .i64 ((rd_T81 l0 x5_1).f1.f4), .string ((rd_T81 l0 x5_1).f1.f5), .bool ((rd_T81 l0 x5_1).f1.f6.f0), .string ((rd_T81 l0 x5_1).f1.f6.f1), .bool ((rd_T81 l0 x5_1).f1.f7.f0), .string ((rd_T81 l0 x5_1).f1.f7.f1), .int .i64 ((rd_T81 l0 x5_1).f1.f8)] 79 (0, 0)) (by (with_reducible repeat (first | refine blk_drewN ?_ _ | refine blk_drew ?_ | refine blk_alloc ?_ _)); refine blk_put (cs := #[.int .i64 ((rd_T81 l0 x5_1).f1.f0), .int .i64 (wrap64 (x5_1 + 1)), .int .i64 ((rd_T81 l0 x5_1).f1.f2), .int .i64 ((rd_T81 l0 x5_1).f1.f3), .int .i64 ((rd_T81 l0 x5_1).f1.f4), .string ((rd_T81 l0 x5_1).f1.f5), .bool ((rd_T81 l0 x5_1).f1.f6.f0), .string ((rd_T81 l0 x5_1).f1.f6.f1), .bool ((rd_T81 l0 x5_1).f1.f7.f0), .string ((rd_T81 l0 x5_1).f1.f7.f1), .int .i64 ((rd_T81 l0 x5_1).f1.f8)]) ?_ 3 _ rfl; (with_reducible repeat (first | refine blk_drewN ?_ _ | refine blk_drew ?_ | refine blk_alloc ?_ _)); exact BK173.out) hg (Kd.R_away HO_4.out (fun _ hk => hk))); have n1_ := Aside0.mk (hb); have n2_ := Aside0.mk (ho); clear BK173; clear HB; clear HO_4; have BK173 := n0_; have HB := n1_; have HO185 := n2_; clear n0_ n1_ n2_; clear ho hb hg hat))
                            repeat (go_quiet (first | ((with_reducible refine gate_builtin (b := .append) (xs := #[.tmp 99, .tmp 101]) rfl ?_); at_builtin; refine Kd.R_append k79 (w0 := w) w.heap.size rfl (.tmp 99) (.tmp 101) 55 79 (.agg #[(.int .i64 0), (.int .i64 0), (.int .i64 0), (.int .i64 0), (.int .i64 0), (.string ⟨#[]⟩), (.bool false), (.string ⟨#[]⟩), (.bool false), (.string ⟨#[]⟩), (.int .i64 0)]) 112 rfl Try.underlying55 info79 rfl (by decide) (by omega) u4 x4_1 (⟨((rd_T81 l0 x5_1).f1.f0), (wrap64 (x5_1 + 1)), ((rd_T81 l0 x5_1).f1.f2), x7_2, ((rd_T81 l0 x5_1).f1.f4), ((rd_T81 l0 x5_1).f1.f5), (⟨((rd_T81 l0 x5_1).f1.f6.f0), ((rd_T81 l0 x5_1).f1.f6.f1)⟩ : S77), (⟨((rd_T81 l0 x5_1).f1.f7.f0), ((rd_T81 l0 x5_1).f1.f7.f1)⟩ : S77), ((rd_T81 l0 x5_1).f1.f8)⟩ : S79) [.int .i64 ((rd_T81 l0 x5_1).f1.f0), .int .i64 (wrap64 (x5_1 + 1)), .int .i64 ((rd_T81 l0 x5_1).f1.f2), .int .i64 x7_2, .int .i64 ((rd_T81 l0 x5_1).f1.f4), .string ((rd_T81 l0 x5_1).f1.f5), .bool ((rd_T81 l0 x5_1).f1.f6.f0), .string ((rd_T81 l0 x5_1).f1.f6.f1), .bool ((rd_T81 l0 x5_1).f1.f7.f0), .string ((rd_T81 l0 x5_1).f1.f7.f1), .int .i64 ((rd_T81 l0 x5_1).f1.f8)] (fun k_ => k_ ≠ gb173) (fun _ => False) rfl (by first | (go_simp; done) | (go_simp; rfl)) ?aP (fun _ hk => hk.elim) ?aF ?aO ?aB ?aS ?aL ?_; (case aP => exact k79_mkM _ _ _ (⟨((rd_T81 l0 x5_1).f1.f0), (wrap64 (x5_1 + 1)), ((rd_T81 l0 x5_1).f1.f2), x7_2, ((rd_T81 l0 x5_1).f1.f4), ((rd_T81 l0 x5_1).f1.f5), (⟨((rd_T81 l0 x5_1).f1.f6.f0), ((rd_T81 l0 x5_1).f1.f6.f1)⟩ : S77), (⟨((rd_T81 l0 x5_1).f1.f7.f0), ((rd_T81 l0 x5_1).f1.f7.f1)⟩ : S77), ((rd_T81 l0 x5_1).f1.f8)⟩ : S79)); (case aB => exact (by repeat (first | (with_reducible first | exact HB.out | apply below_alloc | apply pw_below_drewN | apply below_drew1 | refine below_set ?_ GE173.out) | exact HB.out))); (case aF => exact (fun k_ hk => Kd.freshB (g := gb173) (o := .cells #[.int .i64 ((rd_T81 l0 x5_1).f1.f0), .int .i64 (wrap64 (x5_1 + 1)), .int .i64 ((rd_T81 l0 x5_1).f1.f2), .int .i64 x7_2, .int .i64 ((rd_T81 l0 x5_1).f1.f4), .string ((rd_T81 l0 x5_1).f1.f5), .bool ((rd_T81 l0 x5_1).f1.f6.f0), .string ((rd_T81 l0 x5_1).f1.f6.f1), .bool ((rd_T81 l0 x5_1).f1.f7.f0), .string ((rd_T81 l0 x5_1).f1.f7.f1), .int .i64 ((rd_T81 l0 x5_1).f1.f8)] 79 (0, 0)) (by (with_reducible repeat (first | refine blk_drewN ?_ _ | refine blk_drew ?_ | refine blk_alloc ?_ _)); refine blk_put (cs := #[.int .i64 ((rd_T81 l0 x5_1).f1.f0), .int .i64 (wrap64 (x5_1 + 1)), .int .i64 ((rd_T81 l0 x5_1).f1.f2), .int .i64 ((rd_T81 l0 x5_1).f1.f3), .int .i64 ((rd_T81 l0 x5_1).f1.f4), .string ((rd_T81 l0 x5_1).f1.f5), .bool ((rd_T81 l0 x5_1).f1.f6.f0), .string ((rd_T81 l0 x5_1).f1.f6.f1), .bool ((rd_T81 l0 x5_1).f1.f7.f0), .string ((rd_T81 l0 x5_1).f1.f7.f1), .int .i64 ((rd_T81 l0 x5_1).f1.f8)]) ?_ 3 _ rfl; (with_reducible repeat (first | refine blk_drewN ?_ _ | refine blk_drew ?_ | refine blk_alloc ?_ _)); exact BK173.out) k_ hk)); (case aO => exact (by (with_reducible repeat (first | apply Kd.R_alloc | apply Kd.R_drewN | apply Kd.R_drew)); exact Kd.R_mono (Kd.R_far (p := ⟨gb173, 3, none⟩) (Kd.R_mono HO_4.out (fun k_ hk => (⟨hk, hk⟩ : _ ∧ k_ ≠ gb173))) (fun _ hk => hk.2) (.int .i64 x7_2)) (fun _ hk => hk.1))); (case aS => exact (below_size (by repeat (first | (with_reducible first | exact HB.out | apply below_alloc | apply pw_below_drewN | apply below_drew1 | refine below_set ?_ GE173.out) | exact HB.out)))); (case aL => have := LMc46.out; omega); intro v184 w48 ho hb hg hat; rw [← Ny183.out] at ho; have n0_ := Aside0.mk (blk_grown (g := gb173) (o := .cells #[.int .i64 ((rd_T81 l0 x5_1).f1.f0), .int .i64 (wrap64 (x5_1 + 1)), .int .i64 ((rd_T81 l0 x5_1).f1.f2), .int .i64 x7_2, .int .i64 ((rd_T81 l0 x5_1).f1.f4), .string ((rd_T81 l0 x5_1).f1.f5), .bool ((rd_T81 l0 x5_1).f1.f6.f0), .string ((rd_T81 l0 x5_1).f1.f6.f1), .bool ((rd_T81 l0 x5_1).f1.f7.f0), .string ((rd_T81 l0 x5_1).f1.f7.f1), .int .i64 ((rd_T81 l0 x5_1).f1.f8)] 79 (0, 0)) (by (with_reducible repeat (first | refine blk_drewN ?_ _ | refine blk_drew ?_ | refine blk_alloc ?_ _)); refine blk_put (cs := #[.int .i64 ((rd_T81 l0 x5_1).f1.f0), .int .i64 (wrap64 (x5_1 + 1)), .int .i64 ((rd_T81 l0 x5_1).f1.f2), .int .i64 ((rd_T81 l0 x5_1).f1.f3), .int .i64 ((rd_T81 l0 x5_1).f1.f4), .string ((rd_T81 l0 x5_1).f1.f5), .bool ((rd_T81 l0 x5_1).f1.f6.f0), .string ((rd_T81 l0 x5_1).f1.f6.f1), .bool ((rd_T81 l0 x5_1).f1.f7.f0), .string ((rd_T81 l0 x5_1).f1.f7.f1), .int .i64 ((rd_T81 l0 x5_1).f1.f8)]) ?_ 3 _ rfl; (with_reducible repeat (first | refine blk_drewN ?_ _ | refine blk_drew ?_ | refine blk_alloc ?_ _)); exact BK173.out) hg (Kd.R_away HO_4.out (fun _ hk => hk))); have n1_ := Aside0.mk (hb); have n2_ := Aside0.mk (ho); clear BK173; clear HB; clear HO_4; have BK173 := n0_; have HB := n1_; have HO185 := n2_; clear n0_ n1_ n2_; clear ho hb hg hat)); try go_wp2_with (first | ((with_reducible refine gate_builtin (b := .append) (xs := #[.tmp 99, .tmp 101]) rfl ?_); at_builtin; refine Kd.R_append k79 (w0 := w) w.heap.size rfl (.tmp 99) (.tmp 101) 55 79 (.agg #[(.int .i64 0), (.int .i64 0), (.int .i64 0), (.int .i64 0), (.int .i64 0), (.string ⟨#[]⟩), (.bool false), (.string ⟨#[]⟩), (.bool false), (.string ⟨#[]⟩), (.int .i64 0)]) 112 rfl Try.underlying55 info79 rfl (by decide) (by omega) u4 x4_1 (⟨((rd_T81 l0 x5_1).f1.f0), (wrap64 (x5_1 + 1)), ((rd_T81 l0 x5_1).f1.f2), x7_2, ((rd_T81 l0 x5_1).f1.f4), ((rd_T81 l0 x5_1).f1.f5), (⟨((rd_T81 l0 x5_1).f1.f6.f0), ((rd_T81 l0 x5_1).f1.f6.f1)⟩ : S77), (⟨((rd_T81 l0 x5_1).f1.f7.f0), ((rd_T81 l0 x5_1).f1.f7.f1)⟩ : S77), ((rd_T81 l0 x5_1).f1.f8)⟩ : S79) [.int .i64 ((rd_T81 l0 x5_1).f1.f0), .int .i64 (wrap64 (x5_1 + 1)), .int .i64 ((rd_T81 l0 x5_1).f1.f2), .int .i64 x7_2, .int .i64 ((rd_T81 l0 x5_1).f1.f4), .string ((rd_T81 l0 x5_1).f1.f5), .bool ((rd_T81 l0 x5_1).f1.f6.f0), .string ((rd_T81 l0 x5_1).f1.f6.f1), .bool ((rd_T81 l0 x5_1).f1.f7.f0), .string ((rd_T81 l0 x5_1).f1.f7.f1), .int .i64 ((rd_T81 l0 x5_1).f1.f8)] (fun k_ => k_ ≠ gb173) (fun _ => False) rfl (by first | (go_simp; done) | (go_simp; rfl)) ?aP (fun _ hk => hk.elim) ?aF ?aO ?aB ?aS ?aL ?_; (case aP => exact k79_mkM _ _ _ (⟨((rd_T81 l0 x5_1).f1.f0), (wrap64 (x5_1 + 1)), ((rd_T81 l0 x5_1).f1.f2), x7_2, ((rd_T81 l0 x5_1).f1.f4), ((rd_T81 l0 x5_1).f1.f5), (⟨((rd_T81 l0 x5_1).f1.f6.f0), ((rd_T81 l0 x5_1).f1.f6.f1)⟩ : S77), (⟨((rd_T81 l0 x5_1).f1.f7.f0), ((rd_T81 l0 x5_1).f1.f7.f1)⟩ : S77), ((rd_T81 l0 x5_1).f1.f8)⟩ : S79)); (case aB => exact (by repeat (first | (with_reducible first | exact HB.out | apply below_alloc | apply pw_below_drewN | apply below_drew1 | refine below_set ?_ GE173.out) | exact HB.out))); (case aF => exact (fun k_ hk => Kd.freshB (g := gb173) (o := .cells #[.int .i64 ((rd_T81 l0 x5_1).f1.f0), .int .i64 (wrap64 (x5_1 + 1)), .int .i64 ((rd_T81 l0 x5_1).f1.f2), .int .i64 x7_2, .int .i64 ((rd_T81 l0 x5_1).f1.f4), .string ((rd_T81 l0 x5_1).f1.f5), .bool ((rd_T81 l0 x5_1).f1.f6.f0), .string ((rd_T81 l0 x5_1).f1.f6.f1), .bool ((rd_T81 l0 x5_1).f1.f7.f0), .string ((rd_T81 l0 x5_1).f1.f7.f1), .int .i64 ((rd_T81 l0 x5_1).f1.f8)] 79 (0, 0)) (by (with_reducible repeat (first | refine blk_drewN ?_ _ | refine blk_drew ?_ | refine blk_alloc ?_ _)); refine blk_put (cs := #[.int .i64 ((rd_T81 l0 x5_1).f1.f0), .int .i64 (wrap64 (x5_1 + 1)), .int .i64 ((rd_T81 l0 x5_1).f1.f2), .int .i64 ((rd_T81 l0 x5_1).f1.f3), .int .i64 ((rd_T81 l0 x5_1).f1.f4), .string ((rd_T81 l0 x5_1).f1.f5), .bool ((rd_T81 l0 x5_1).f1.f6.f0), .string ((rd_T81 l0 x5_1).f1.f6.f1), .bool ((rd_T81 l0 x5_1).f1.f7.f0), .string ((rd_T81 l0 x5_1).f1.f7.f1), .int .i64 ((rd_T81 l0 x5_1).f1.f8)]) ?_ 3 _ rfl; (with_reducible repeat (first | refine blk_drewN ?_ _ | refine blk_drew ?_ | refine blk_alloc ?_ _)); exact BK173.out) k_ hk)); (case aO => exact (by (with_reducible repeat (first | apply Kd.R_alloc | apply Kd.R_drewN | apply Kd.R_drew)); exact Kd.R_mono (Kd.R_far (p := ⟨gb173, 3, none⟩) (Kd.R_mono HO_4.out (fun k_ hk => (⟨hk, hk⟩ : _ ∧ k_ ≠ gb173))) (fun _ hk => hk.2) (.int .i64 x7_2)) (fun _ hk => hk.1))); (case aS => exact (below_size (by repeat (first | (with_reducible first | exact HB.out | apply below_alloc | apply pw_below_drewN | apply below_drew1 | refine below_set ?_ GE173.out) | exact HB.out)))); (case aL => have := LMc46.out; omega); intro v184 w48 ho hb hg hat; rw [← Ny183.out] at ho; have n0_ := Aside0.mk (blk_grown (g := gb173) (o := .cells #[.int .i64 ((rd_T81 l0 x5_1).f1.f0), .int .i64 (wrap64 (x5_1 + 1)), .int .i64 ((rd_T81 l0 x5_1).f1.f2), .int .i64 x7_2, .int .i64 ((rd_T81 l0 x5_1).f1.f4), .string ((rd_T81 l0 x5_1).f1.f5), .bool ((rd_T81 l0 x5_1).f1.f6.f0), .string ((rd_T81 l0 x5_1).f1.f6.f1), .bool ((rd_T81 l0 x5_1).f1.f7.f0), .string ((rd_T81 l0 x5_1).f1.f7.f1), .int .i64 ((rd_T81 l0 x5_1).f1.f8)] 79 (0, 0)) (by (with_reducible repeat (first | refine blk_drewN ?_ _ | refine blk_drew ?_ | refine blk_alloc ?_ _)); refine blk_put (cs := #[.int .i64 ((rd_T81 l0 x5_1).f1.f0), .int .i64 (wrap64 (x5_1 + 1)), .int .i64 ((rd_T81 l0 x5_1).f1.f2), .int .i64 ((rd_T81 l0 x5_1).f1.f3), .int .i64 ((rd_T81 l0 x5_1).f1.f4), .string ((rd_T81 l0 x5_1).f1.f5), .bool ((rd_T81 l0 x5_1).f1.f6.f0), .string ((rd_T81 l0 x5_1).f1.f6.f1), .bool ((rd_T81 l0 x5_1).f1.f7.f0), .string ((rd_T81 l0 x5_1).f1.f7.f1), .int .i64 ((rd_T81 l0 x5_1).f1.f8)]) ?_ 3 _ rfl; (with_reducible repeat (first | refine blk_drewN ?_ _ | refine blk_drew ?_ | refine blk_alloc ?_ _)); exact BK173.out) hg (Kd.R_away HO_4.out (fun _ hk => hk))); have n1_ := Aside0.mk (hb); have n2_ := Aside0.mk (ho); clear BK173; clear HB; clear HO_4; have BK173 := n0_; have HB := n1_; have HO185 := n2_; clear n0_ n1_ n2_; clear ho hb hg hat)))
                            go_roundg kj30
                            case measure => have := HK1.out; have := HK2.out; have := HJ30.out; omega
                            case rel => exact ⟨(y183), (wrap64 (x5_1 + 1)), (by first | rfl | (simp; done) | (simp [*]; done)), H', ⟨by have := HK1.out; have := HK2.out; have := HJ30.out; omega⟩, ⟨by (with_reducible repeat (first | apply Kd.R_alloc | apply Kd.R_drewN | apply Kd.R_drew)); exact Kd.R_mono HO185.out (fun _ hk => trivial)⟩, ⟨by repeat (first | (with_reducible first | exact HB.out | apply below_alloc | apply pw_below_drewN | apply below_drew1 | refine below_set ?_ GE173.out) | exact HB.out)⟩⟩
                          · rw [if_neg c46] at H
                            exact absurd H (by simp)
          · rw [if_neg c6] at H
            exact absurd H (by simp)
        · rw [if_neg c5] at H
          have c5b0 : decide (x5_1 < (l0.length : Int)) = false := decide_eq_false c5
          clear c5
          simp only [Option.some.injEq, Prod.mk.injEq] at H
          obtain ⟨rfl, rfl⟩ := H
          go_wp2
          repeat (go_quiet (fail); try go_wp2)
          go_ret2
          exact ⟨_, by first | rfl | (simp [errW_none, errW_some] <;> rfl) | (simp [*, errW_none, errW_some] <;> rfl), by (with_reducible repeat (first | apply Kd.R_alloc | apply Kd.R_drewN | apply Kd.R_drew)); exact HO_4.out, by repeat (first | (with_reducible first | exact HB.out | apply below_alloc | apply pw_below_drewN | apply below_drew1) | exact HB.out)⟩
  · replace c3 := Bool.eq_false_iff.mpr c3
    subst c3
    have H1 : (some (([] : List (S79)), 1)) = some (r1, r2) := by rw [if_neg (show ¬ (false = true) by decide)] at H; exact H
    clear H
    have H := H1
    clear H1
    simp only [Option.some.injEq, Prod.mk.injEq] at H
    obtain ⟨rfl, rfl⟩ := H
    go_enter Try.func25, Try.ntmps25
    go_wp2_with (first | (go_at_call 35; (with_reducible refine (quadrigaref18_Right.calls k _ _ l0 false _ ?side1 ?side2 A2.out).mono ?_); (case side1 => repeat (first | exact HR0.out | (with_reducible refine Kd.C_alloc ?_ _) | (with_reducible refine Kd.C_drewN ?_ _) | (with_reducible refine Kd.C_drew ?_))); (case side2 => exact HC0.out); rintro e w49 ⟨rfl, hb⟩; have n0_ := Aside0.mk (below_step (by repeat (first | (with_reducible first | exact HB.out | apply below_alloc | apply pw_below_drewN | apply below_drew1) | exact HB.out)) hb); clear HB; have HB := n0_; clear n0_; (try clear hb); (try clear hb2); (try clear hk); (try clear hi)))
    repeat (go_quiet (first | (go_at_call 35; (with_reducible refine (quadrigaref18_Right.calls k _ _ l0 false _ ?side1 ?side2 A2.out).mono ?_); (case side1 => repeat (first | exact HR0.out | (with_reducible refine Kd.C_alloc ?_ _) | (with_reducible refine Kd.C_drewN ?_ _) | (with_reducible refine Kd.C_drew ?_))); (case side2 => exact HC0.out); rintro e w49 ⟨rfl, hb⟩; have n0_ := Aside0.mk (below_step (by repeat (first | (with_reducible first | exact HB.out | apply below_alloc | apply pw_below_drewN | apply below_drew1) | exact HB.out)) hb); clear HB; have HB := n0_; clear n0_; (try clear hb); (try clear hb2); (try clear hk); (try clear hi))); try go_wp2_with (first | (go_at_call 35; (with_reducible refine (quadrigaref18_Right.calls k _ _ l0 false _ ?side1 ?side2 A2.out).mono ?_); (case side1 => repeat (first | exact HR0.out | (with_reducible refine Kd.C_alloc ?_ _) | (with_reducible refine Kd.C_drewN ?_ _) | (with_reducible refine Kd.C_drew ?_))); (case side2 => exact HC0.out); rintro e w49 ⟨rfl, hb⟩; have n0_ := Aside0.mk (below_step (by repeat (first | (with_reducible first | exact HB.out | apply below_alloc | apply pw_below_drewN | apply below_drew1) | exact HB.out)) hb); clear HB; have HB := n0_; clear n0_; (try clear hb); (try clear hb2); (try clear hk); (try clear hi))))
    go_ret2
    exact ⟨_, by first | rfl | (simp [errW_none, errW_some] <;> rfl) | (simp [*, errW_none, errW_some] <;> rfl), by first | exact Kd.R_nil _ _ _ _ _ | exact Kd.N_nil _ _ _ _ _ | exact Kd.V_nil _ _ _ _ _ | exact Kd.Q_nil _ _ _ _ _ | exact Kd.S_nil _ _ _ _ _, by repeat (first | (with_reducible first | exact HB.out | apply below_alloc | apply pw_below_drewN | apply below_drew1) | exact HB.out)⟩

end Go.Proofs.Ytlicobfjeajcfaa.Q29
