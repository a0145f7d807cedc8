-- PRINTED BY print.sh 35421559b90ae4d0a3588c463048766b98c2df88dd9212a6774a882060cdf62d: not written by this session
import Derived.Test.YtlicobfjeajcfaaPSpaceNotesx0
namespace Go.Proofs.Ytlicobfjeajcfaa.PSpaceNotes
open Go.RowKit Go.Proofs.YtlicobfjeajcfaaW.PrintWords Go.Proofs.YtlicobfjeajcfaaW.PrintLast Go.Proofs.YtlicobfjeajcfaaW.PrintMore
attribute [local go_sem] max2_int min2_int max_two min_two max_three min_three max_four min_four   -- for this text's walks alone
set_option linter.unusedVariables false
set_option linter.unusedSimpArgs false

/-! ### space_Place: function 9 -/
def space_Place.l0 : Nat → ByteArray → Int → Int → Int → Int → Option (Int)
  | 0, _, _, _, _, _ => none
  | k + 1, x0, x1, x5, x10, x11 => if x11 < x10 then (if 0 ≤ x11 then (if x11 < (x0.size : Int) then (space_Place.l0 k x0 x1 (wrap64 (x5 + (wrap64 ((wrap64 (x11 + 1)) * (wrap64 (bt x0 x11)))))) x10 (wrap64 (x11 + 1))) else (none)) else (none)) else (if x1 = 0 then (none) else (some (Int.tmod x5 x1)))
def space_Place.f (k : Nat) (a0 : ByteArray) (a1 : Int) : Option (Int) := if a1 < 1 then (some 0) else (space_Place.l0 k a0 a1 0 (a0.size : Int) 0)
theorem space_Place.mono_l : ∀ k, (∀ y0 y1 y2 y3 y4, LeO (space_Place.l0 k y0 y1 y2 y3 y4) (space_Place.l0 (k + 1) y0 y1 y2 y3 y4))
  | 0 => fun _ _ _ _ _ r h => by simp [space_Place.l0] at h
  | k + 1 => by
    have ih0 := space_Place.mono_l k
    · intro y0 y1 y2 y3 y4
      unfold space_Place.l0
      repeat' first
      | (with_reducible exact ih0 _ _ _ _ _)
      | (with_reducible exact LeO.refl _)
      | (with_reducible exact LeO.none _)
      | (with_reducible refine LeO.ite ?_ ?_)
      | (with_reducible refine LeO.bind ?_ (fun _ => ?_))
      | exact ih0 _ _ _ _ _
      | exact LeO.none _
      | refine LeO.ite ?_ ?_
      | refine LeO.bind ?_ (fun _ => ?_)
theorem space_Place.mono : ∀ a0 a1 k, LeO (space_Place.f k a0 a1) (space_Place.f (k + 1) a0 a1) := by
  intro a0 a1 k
  have ih0 := space_Place.mono_l k
  unfold space_Place.f
  repeat' first
      | (with_reducible exact ih0 _ _ _ _ _)
      | (with_reducible exact LeO.refl _)
      | (with_reducible exact LeO.none _)
      | (with_reducible refine LeO.ite ?_ ?_)
      | (with_reducible refine LeO.bind ?_ (fun _ => ?_))
      | exact ih0 _ _ _ _ _
      | exact LeO.none _
      | refine LeO.ite ?_ ?_
      | refine LeO.bind ?_ (fun _ => ?_)
set_option maxHeartbeats 8000000 in
set_option maxRecDepth 100000 in
theorem space_Place.calls (k : Nat) (a0 : ByteArray) (a1 : Int) (r : Int) (w : World) (h : space_Place.f k a0 a1 = some r) :
    Calls Try.prog 9 #[.string a0, .int .i64 a1] w fun e w' => e = .returned (.int .i64 r) ∧ Drawn0 w w' := by
  have H : (if a1 < 1 then (some 0) else (space_Place.l0 k a0 a1 0 (a0.size : Int) 0)) = some r := h
  clear h
  by_cases c3 : a1 < 1
  · rw [if_pos c3] at H
    have c3b0 : decide (a1 < 1) = true := decide_eq_true c3
    clear c3
    obtain rfl := Option.some.inj H
    go_enter Try.func9, Try.ntmps9
    go_wp2
    go_ret
    exact ⟨by first | rfl | (simp; done) | (simp [*]; done), by repeat (first | exact Drawn0.refl _ | apply Drawn0.step)⟩
  · rw [if_neg c3] at H
    have c3b0 : decide (a1 < 1) = false := decide_eq_false c3
    clear c3
    have H' := Aside0.mk H
    clear H
    go_enter Try.func9, Try.ntmps9
    go_wp2
    go_loopg [5, 11] k (fun kq v5 v11 w' => ∃ (x5_1 : Int) (x11_1 : Int), v5 = .int .i64 x5_1 ∧ v11 = .int .i64 x11_1 ∧ Aside0 (space_Place.l0 kq a0 a1 x5_1 (a0.size : Int) x11_1 = some r) ∧ Aside0 (kq ≤ k) ∧ Drawn0 w w')
    case atStart => exact ⟨(0), (0), (by first | rfl | (simp; done) | (simp [*]; done)), (by first | rfl | (simp; done) | (simp [*]; done)), H', ⟨Nat.le_refl _⟩, by repeat (first | exact Drawn0.refl _ | apply Drawn0.step)⟩
    case round =>
      clear H'
      try clear p2
      try clear c3
      try clear c3b0
      obtain ⟨x5_1, x11_1, rfl, rfl, HA, HK1, ⟨m1, rfl⟩⟩ := hrel
      cases gk with
      | zero => exact absurd HA.out (by simp [space_Place.l0])
      | succ k1 =>
        have H := HA.out
        clear HA
        simp only [space_Place.l0] at H
        by_cases c4 : x11_1 < (a0.size : Int)
        · rw [if_pos c4] at H
          have c4b0 : decide (x11_1 < (a0.size : Int)) = true := decide_eq_true c4
          clear c4
          by_cases c5 : 0 ≤ x11_1
          · rw [if_pos c5] at H
            have c5b0 : decide (0 ≤ x11_1) = true := decide_eq_true c5
            clear c5
            by_cases c6 : x11_1 < (a0.size : Int)
            · rw [if_pos c6] at H
              have c6b0 : decide (x11_1 < (a0.size : Int)) = true := decide_eq_true c6
              clear c6
              have H' := Aside0.mk H
              clear H
              have p7 : 0 ≤ (x11_1 : Int) := of_decide_eq_true (by first | (with_reducible assumption) | assumption)
              have q7 : x11_1 < (a0.size : Int) := of_decide_eq_true (by first | (with_reducible assumption) | assumption)
              have hx7 := bt_at a0 x11_1
              replace p7 := eq_true p7
              replace q7 := eq_true q7
              go_wp2
              go_roundg k1
              case measure => have := HK1.out; omega
              case rel => exact ⟨(wrap64 (x5_1 + (wrap64 ((wrap64 (x11_1 + 1)) * (wrap64 (bt a0 x11_1)))))), (wrap64 (x11_1 + 1)), (by first | rfl | (simp; done) | (simp [*]; done)), (by first | rfl | (simp; done) | (simp [*]; done)), H', ⟨by have := HK1.out; omega⟩, by repeat (first | exact Drawn0.refl _ | apply Drawn0.step)⟩
            · rw [if_neg c6] at H
              exact absurd H (by simp)
          · rw [if_neg c5] at H
            exact absurd H (by simp)
        · rw [if_neg c4] at H
          have c4b0 : decide (x11_1 < (a0.size : Int)) = false := decide_eq_false c4
          clear c4
          by_cases c8 : a1 = 0
          · rw [if_pos c8] at H
            exact absurd H (by simp)
          · rw [if_neg c8] at H
            have c8b0 : (a1 == 0) = false := beq_eq_false_iff_ne.mpr c8
            have c8b1 : (a1 != 0) = true := bne_iff_ne.mpr c8
            obtain rfl := Option.some.inj H
            go_wp2
            go_ret
            exact ⟨by first | rfl | (simp; done) | (simp [*]; done), by repeat (first | exact Drawn0.refl _ | apply Drawn0.step)⟩

-- NOT PRINTED: function 10 (space_New)

-- NOT PRINTED: function 27 (space_Space_note)

-- NOT PRINTED: function 11 (space_Space_Take)

-- NOT PRINTED: function 18 (space_Space_Need)

-- NOT PRINTED: function 15 (space_Space_All)

-- NOT PRINTED: function 28 (space_Space_left)

-- NOT PRINTED: function 12 (space_Space_May)

/-! ### quadrigalaw16_page: function 13 -/
def quadrigalaw16_page.l0 : Nat → Int → Int → Int → Int → List (S69) → Option (Int × Int × (List (S69)))
  | 0, _, _, _, _, _ => none
  | k + 1, x1, x6, x103000, x103001, x103002 => if x6 < x1 then (if x103002.length < 4398046511104 then (quadrigalaw16_page.l0 k x1 (wrap64 (x6 + 1)) x103000 x103001 (x103002 ++ [(⟨strOfNums (([(wrap64 (97 + (Int.tmod x6 26))) % 256] : List Int)), (⟨#[]⟩ : ByteArray)⟩ : S69)])) else (none)) else (some (x103000, x103001, x103002))
def quadrigalaw16_page.f (k : Nat) (a0 : Int) (a1 : Int) : Option (Int × Int × (List (S69))) := quadrigalaw16_page.l0 k a1 0 a0 0 ([] : List (S69))
theorem quadrigalaw16_page.mono_l : ∀ k, (∀ y0 y1 y2 y3 y4, LeO (quadrigalaw16_page.l0 k y0 y1 y2 y3 y4) (quadrigalaw16_page.l0 (k + 1) y0 y1 y2 y3 y4))
  | 0 => fun _ _ _ _ _ r h => by simp [quadrigalaw16_page.l0] at h
  | k + 1 => by
    have ih0 := quadrigalaw16_page.mono_l k
    · intro y0 y1 y2 y3 y4
      unfold quadrigalaw16_page.l0
      repeat' first
      | (with_reducible exact ih0 _ _ _ _ _)
      | (with_reducible exact LeO.refl _)
      | (with_reducible exact LeO.none _)
      | (with_reducible refine LeO.ite ?_ ?_)
      | (with_reducible refine LeO.bind ?_ (fun _ => ?_))
      | exact ih0 _ _ _ _ _
      | exact LeO.none _
      | refine LeO.ite ?_ ?_
      | refine LeO.bind ?_ (fun _ => ?_)
theorem quadrigalaw16_page.mono : ∀ a0 a1 k, LeO (quadrigalaw16_page.f k a0 a1) (quadrigalaw16_page.f (k + 1) a0 a1) := by
  intro a0 a1 k
  have ih0 := quadrigalaw16_page.mono_l k
  unfold quadrigalaw16_page.f
  repeat' first
      | (with_reducible exact ih0 _ _ _ _ _)
      | (with_reducible exact LeO.refl _)
      | (with_reducible exact LeO.none _)
      | (with_reducible refine LeO.ite ?_ ?_)
      | (with_reducible refine LeO.bind ?_ (fun _ => ?_))
      | exact ih0 _ _ _ _ _
      | exact LeO.none _
      | refine LeO.ite ?_ ?_
      | refine LeO.bind ?_ (fun _ => ?_)
set_option maxHeartbeats 8000000 in
set_option maxRecDepth 100000 in
theorem quadrigalaw16_page.calls (k : Nat) (a0 : Int) (a1 : Int) (r1 : Int) (r2 : Int) (r3 : List (S69)) (w : World) (h : quadrigalaw16_page.f k a0 a1 = some (r1, r2, r3)) :
    Calls Try.prog 13 #[.int .i64 a0, .int .i64 a1] w fun e w' => ∃ v2_ : Value, e = .returned (.agg #[.int .i64 r1, .int .i64 r2, v2_]) ∧ Kd.R k69 69 w' w.heap.size (fun _ => True) v2_ r3 ∧ Below w.heap.size w w' := by
  have hu35 := Try.underlying35
  have hu69 := Try.underlying69
  have HB := Aside0.mk (Below.refl w.heap.size w)
  have H : (quadrigalaw16_page.l0 k a1 0 a0 0 ([] : List (S69))) = some (r1, r2, r3) := h
  clear h
  have H' := Aside0.mk H
  clear H
  go_enter Try.func13, Try.ntmps13
  go_wp2_with (first | ((with_reducible refine gate_dst (N := 4) rfl ?_); refine box_event ?hg (N := 4) ?hd (cs := #[.int .i64 0, .int .i64 0, .slice none 0 0]) (t := 35) ?hr ?_; (case hd => rfl); (case hg => rfl); (case hr => first | (go_simp; done) | (go_simp; rfl)); intro gb101 hg w3 hbox hb; have n0_ := Aside0.mk (below_step (by repeat (first | (with_reducible first | exact HB.out | apply below_alloc | apply pw_below_drewN | apply below_drew1) | exact HB.out)) hb); have n1_ := Aside0.mk (hbox); have n2_ := Aside0.mk ((by rw [hg]; exact (below_size (by repeat (first | (with_reducible first | exact HB.out | apply below_alloc | apply pw_below_drewN | apply below_drew1) | exact HB.out))) : w.heap.size ≤ gb101)); have n3_ := Aside0.mk ((by rw [hg]; exact (below_size (by repeat (first | (with_reducible first | exact HB.out | apply below_alloc | apply pw_below_drewN | apply below_drew1) | exact HB.out))) : w.heap.size ≤ gb101)); clear HB; have HB := n0_; have BK101 := n1_; have GW101 := n2_; have GE101 := n3_; clear n0_ n1_ n2_ n3_; clear hb hbox hg) | ((with_reducible refine gate_dst (N := 5) rfl ?_); refine box_event ?hg (N := 5) ?hd (cs := #[.int .i64 0, .int .i64 0, .slice none 0 0]) (t := 35) ?hr ?_; (case hd => rfl); (case hg => rfl); (case hr => first | (go_simp; done) | (go_simp; rfl)); intro gb102 hg w4 hbox hb; have n0_ := Aside0.mk (blk_below (g := gb101) (o := .cells #[.int .i64 0, .int .i64 0, .slice none 0 0] 35 (0, 0)) (by (with_reducible repeat (first | refine blk_drewN ?_ _ | refine blk_drew ?_ | refine blk_alloc ?_ _)); exact BK101.out) hb); have n1_ := Aside0.mk (below_step (by repeat (first | (with_reducible first | exact HB.out | apply below_alloc | apply pw_below_drewN | apply below_drew1 | refine below_set ?_ GE101.out) | exact HB.out)) hb); have n2_ := Aside0.mk (hbox); have n3_ := Aside0.mk ((by rw [hg]; exact (below_size (by repeat (first | (with_reducible first | exact HB.out | apply below_alloc | apply pw_below_drewN | apply below_drew1 | refine below_set ?_ GE101.out) | exact HB.out))) : w.heap.size ≤ gb102)); have n4_ := Aside0.mk ((by rw [hg]; exact (below_size (by repeat (first | (with_reducible first | exact HB.out | apply below_alloc | apply pw_below_drewN | apply below_drew1 | refine below_set ?_ GE101.out) | exact HB.out))) : w.heap.size ≤ gb102)); have n5_ := Aside0.mk ((by rw [hg]; exact Nat.ne_of_lt (blk_lt (g := gb101) (o := .cells #[.int .i64 0, .int .i64 0, .slice none 0 0] 35 (0, 0)) (by (with_reducible repeat (first | refine blk_drewN ?_ _ | refine blk_drew ?_ | refine blk_alloc ?_ _)); exact BK101.out)) : gb101 ≠ gb102)); have n6_ := Aside0.mk ((by rw [hg]; exact Nat.ne_of_gt (blk_lt (g := gb101) (o := .cells #[.int .i64 0, .int .i64 0, .slice none 0 0] 35 (0, 0)) (by (with_reducible repeat (first | refine blk_drewN ?_ _ | refine blk_drew ?_ | refine blk_alloc ?_ _)); exact BK101.out)) : gb102 ≠ gb101)); clear BK101; clear HB; have BK101 := n0_; have HB := n1_; have BK102 := n2_; have GW102 := n3_; have GE102 := n4_; have NB101_102 := n5_; have NB102_101 := n6_; clear n0_ n1_ n2_ n3_ n4_ n5_ n6_; clear hb hbox hg; have hnb5 := NB102_101.out; have hnc5 := NB101_102.out; have hcz6_0 : w4.cell? ⟨gb102, 0, none⟩ = some (.int .i64 0) := (blk_cell BK102.out 0).trans rfl; have hcz6_1 : w4.cell? ⟨gb102, 1, none⟩ = some (.int .i64 0) := (blk_cell BK102.out 1).trans rfl; have hcz6_2 : w4.cell? ⟨gb102, 2, none⟩ = some (.slice none 0 0) := (blk_cell BK102.out 2).trans rfl; have hfz6_0 := blk_frozen BK102.out 0; have hfz6_1 := blk_frozen BK102.out 1; have hfz6_2 := blk_frozen BK102.out 2))
  go_loopg [6] k (fun kq v6 w' => ∃ (x6_1 : Int) (x103002_1 : List (S69)) (u103002 : Value), v6 = .int .i64 x6_1 ∧ Aside0 (quadrigalaw16_page.l0 kq a1 x6_1 a0 0 x103002_1 = some (r1, r2, r3)) ∧ Aside0 (kq ≤ k) ∧ Aside0 (Kd.R k69 69 w' w.heap.size (fun _ => True) u103002 x103002_1) ∧ Aside0 (w'.heap[gb101]? = some (.cells #[.int .i64 0, .int .i64 0, (.slice none 0 0)] 35 (0, 0))) ∧ Aside0 (w'.heap[gb102]? = some (.cells #[.int .i64 a0, .int .i64 0, u103002] 35 (0, 0))) ∧ Aside0 (Below w.heap.size w w'))
  case atStart => exact ⟨(0), (([] : List (S69))), (.slice none 0 0), (by first | rfl | (simp; done) | (simp [*]; done)), H', ⟨Nat.le_refl _⟩, ⟨by first | exact Kd.R_nil _ _ _ _ _ | exact Kd.N_nil _ _ _ _ _ | exact Kd.V_nil _ _ _ _ _ | exact Kd.Q_nil _ _ _ _ _ | exact Kd.S_nil _ _ _ _ _⟩, ⟨by (with_reducible repeat (first | refine blk_drewN ?_ _ | refine blk_drew ?_ | refine blk_alloc ?_ _)); refine blk_far ?_ NB101_102.out _; (with_reducible repeat (first | refine blk_drewN ?_ _ | refine blk_drew ?_ | refine blk_alloc ?_ _)); refine blk_far ?_ NB101_102.out _; (with_reducible repeat (first | refine blk_drewN ?_ _ | refine blk_drew ?_ | refine blk_alloc ?_ _)); refine blk_far ?_ NB101_102.out _; (with_reducible repeat (first | refine blk_drewN ?_ _ | refine blk_drew ?_ | refine blk_alloc ?_ _)); exact BK101.out⟩, ⟨by (with_reducible repeat (first | refine blk_drewN ?_ _ | refine blk_drew ?_ | refine blk_alloc ?_ _)); refine blk_put (cs := #[.int .i64 a0, .int .i64 0, .slice none 0 0]) ?_ 2 _ rfl; (with_reducible repeat (first | refine blk_drewN ?_ _ | refine blk_drew ?_ | refine blk_alloc ?_ _)); refine blk_put (cs := #[.int .i64 a0, .int .i64 0, .slice none 0 0]) ?_ 1 _ rfl; (with_reducible repeat (first | refine blk_drewN ?_ _ | refine blk_drew ?_ | refine blk_alloc ?_ _)); refine blk_put (cs := #[.int .i64 0, .int .i64 0, .slice none 0 0]) ?_ 0 _ rfl; (with_reducible repeat (first | refine blk_drewN ?_ _ | refine blk_drew ?_ | refine blk_alloc ?_ _)); exact BK102.out⟩, ⟨by repeat (first | (with_reducible first | exact HB.out | apply below_alloc | apply pw_below_drewN | apply below_drew1 | refine below_set ?_ GE101.out | refine below_set ?_ GE102.out) | exact HB.out)⟩⟩
  case round =>
    clear H'
    try clear c1
    try clear p2
    try clear c5
    try clear hcz6_0
    try clear hcz6_1
    try clear hcz6_2
    try clear hfz6_0
    try clear hfz6_1
    try clear hfz6_2
    obtain ⟨x6_1, x103002_1, u103002, rfl, HA, HK1, HO_103002, BK101, BK102, HB⟩ := hrel
    cases gk with
    | zero => exact absurd HA.out (by simp [quadrigalaw16_page.l0])
    | succ k1 =>
      have H := HA.out
      clear HA
      simp only [quadrigalaw16_page.l0] at H
      by_cases c7 : x6_1 < a1
      · rw [if_pos c7] at H
        have c7b0 : decide (x6_1 < a1) = true := decide_eq_true c7
        clear c7
        obtain ⟨y103, hy103⟩ : ∃ y_ : List Int, y_ = (([(wrap64 (97 + (Int.tmod x6_1 26))) % 256] : List Int)) := ⟨_, rfl⟩
        replace H : (if x103002_1.length < 4398046511104 then (quadrigalaw16_page.l0 k1 a1 (wrap64 (x6_1 + 1)) a0 0 (x103002_1 ++ [(⟨strOfNums y103, (⟨#[]⟩ : ByteArray)⟩ : S69)])) else (none)) = some (r1, r2, r3) := by first | (rw [hy103]; with_reducible exact H) | (have H2_ := (Option.bind_some _ _).symm.trans H; rw [hy103]; with_reducible exact H2_) | (have H2_ := (Option.bind_some _ _).symm.trans H; with_reducible exact H2_) | with_reducible exact H | (rw [hy103]; exact H) | exact H
        have Ny103 := Aside0.mk hy103
        clear hy103
        by_cases c8 : x103002_1.length < 4398046511104
        · rw [if_pos c8] at H
          have LMc8 := Aside0.mk c8
          clear c8
          obtain ⟨y106, hy106⟩ : ∃ y_ : List (S69), y_ = (x103002_1 ++ [(⟨strOfNums y103, (⟨#[]⟩ : ByteArray)⟩ : S69)]) := ⟨_, rfl⟩
          replace H : (quadrigalaw16_page.l0 k1 a1 (wrap64 (x6_1 + 1)) a0 0 y106) = some (r1, r2, r3) := by first | (rw [hy106]; with_reducible exact H) | (have H2_ := (Option.bind_some _ _).symm.trans H; rw [hy106]; with_reducible exact H2_) | (have H2_ := (Option.bind_some _ _).symm.trans H; with_reducible exact H2_) | with_reducible exact H | (rw [hy106]; exact H) | exact H
          have Ny106 := Aside0.mk hy106
          clear hy106
          have H' := Aside0.mk H
          clear H
          have hnb9 := NB102_101.out
          have hnc9 := NB101_102.out
          have hcz10_0 : wr.cell? ⟨gb102, 0, none⟩ = some (.int .i64 a0) := (blk_cell BK102.out 0).trans rfl
          have hcz10_1 : wr.cell? ⟨gb102, 1, none⟩ = some (.int .i64 0) := (blk_cell BK102.out 1).trans rfl
          have hcz10_2 : wr.cell? ⟨gb102, 2, none⟩ = some (u103002) := (blk_cell BK102.out 2).trans rfl
          have hfz10_0 := blk_frozen BK102.out 0
          have hfz10_1 := blk_frozen BK102.out 1
          have hfz10_2 := blk_frozen BK102.out 2
          go_wp2_with (first | ((with_reducible refine gate_dst (N := 20) rfl ?_); refine Kd.R_lit (Kd.int .u8) _ 5 ?hg (N := 20) ?hd (xs := ([(wrap64 (97 + (Int.tmod x6_1 26))) % 256] : List Int)) (inner := [.int .u8 ((wrap64 (97 + (Int.tmod x6_1 26))) % 256)]) (ok := fun _ => True) (okp := fun _ => True) ?hr ?hp (fun _ hk => hk) trivial (Below.refl _ _) (Nat.le_refl _) (by simp) ?_; (case hd => rfl); (case hg => rfl); (case hr => first | (go_simp; done) | (go_simp; rfl)); (case hp => exact (Reps.one (show Kd.M (Kd.int .u8) _ _ _ ((wrap64 (97 + (Int.tmod x6_1 26))) % 256) [.int .u8 ((wrap64 (97 + (Int.tmod x6_1 26))) % 256)] from rfl) (Reps.none _ _))); intro v104 w11 ho12 hb hg_ hnew_; clear hg_ hnew_; (first | rw [← Ny103.out] at ho12 | (simp only [Int.reduceToNat] at ho12; rw [← Ny103.out] at ho12)); have n0_ := Aside0.mk (Kd.R_below (by (with_reducible repeat (first | apply Kd.R_alloc | apply Kd.R_drewN | apply Kd.R_drew)); exact HO_103002.out) hb); have n1_ := Aside0.mk (Kd.R_lower ho12 (below_size (by repeat (first | (with_reducible first | exact HB.out | apply below_alloc | apply pw_below_drewN | apply below_drew1 | refine below_set ?_ GE101.out | refine below_set ?_ GE102.out) | exact HB.out)))); have n2_ := Aside0.mk (blk_below (g := gb101) (o := .cells #[.int .i64 0, .int .i64 0, .slice none 0 0] 35 (0, 0)) (by (with_reducible repeat (first | refine blk_drewN ?_ _ | refine blk_drew ?_ | refine blk_alloc ?_ _)); exact BK101.out) hb); have n3_ := Aside0.mk (blk_below (g := gb102) (o := .cells #[.int .i64 a0, .int .i64 0, u103002] 35 (0, 0)) (by (with_reducible repeat (first | refine blk_drewN ?_ _ | refine blk_drew ?_ | refine blk_alloc ?_ _)); exact BK102.out) hb); have n4_ := Aside0.mk (below_step (by repeat (first | (with_reducible first | exact HB.out | apply below_alloc | apply pw_below_drewN | apply below_drew1 | refine below_set ?_ GE101.out | refine below_set ?_ GE102.out) | exact HB.out)) hb); clear HO_103002; clear BK101; clear BK102; clear HB; have HO_103002 := n0_; have HO105 := n1_; have BK101 := n2_; have BK102 := n3_; have HB := n4_; clear n0_ n1_ n2_ n3_ n4_; clear hb ho12; have hcv13 := own_string (P := Try.prog) Try.underlying26 Try.underlying5 Try.underlying9 (Kd.own_of_R HO105.out)) | ((with_reducible refine gate_builtin (b := .append) (xs := #[.tmp 15, .tmp 23]) rfl ?_); at_builtin; refine Kd.R_append k69 (w0 := w) w.heap.size rfl (.tmp 15) (.tmp 23) 33 69 (.agg #[(.string ⟨#[]⟩), (.string ⟨#[]⟩)]) 32 rfl Try.underlying33 info69 rfl (by decide) (by omega) u103002 x103002_1 (⟨strOfNums y103, (⟨#[]⟩ : ByteArray)⟩ : S69) [.string (strOfNums y103), .string (⟨#[]⟩ : ByteArray)] (fun _ => True) (fun _ => False) rfl rfl ?aP (fun _ hk => hk.elim) ?aF ?aO ?aB ?aS ?aL ?_; (case aP => exact k69_mkM _ _ _ (⟨strOfNums y103, (⟨#[]⟩ : ByteArray)⟩ : S69)); (case aB => exact (by repeat (first | (with_reducible first | exact HB.out | apply below_alloc | apply pw_below_drewN | apply below_drew1 | refine below_set ?_ GE101.out | refine below_set ?_ GE102.out) | exact HB.out))); (case aF => exact (fun _ _ => trivial)); (case aO => exact (by (with_reducible repeat (first | apply Kd.R_alloc | apply Kd.R_drewN | apply Kd.R_drew)); exact HO_103002.out)); (case aS => exact (below_size (by repeat (first | (with_reducible first | exact HB.out | apply below_alloc | apply pw_below_drewN | apply below_drew1 | refine below_set ?_ GE101.out | refine below_set ?_ GE102.out) | exact HB.out)))); (case aL => have := LMc8.out; omega); intro v107 w14 ho hb hg hat; rw [← Ny106.out] at ho; have n0_ := Aside0.mk (blk_grown (g := gb101) (o := .cells #[.int .i64 0, .int .i64 0, .slice none 0 0] 35 (0, 0)) (by (with_reducible repeat (first | refine blk_drewN ?_ _ | refine blk_drew ?_ | refine blk_alloc ?_ _)); exact BK101.out) hg (Kd.R_ne HO_103002.out BK101.out (by decide))); have n1_ := Aside0.mk (blk_grown (g := gb102) (o := .cells #[.int .i64 a0, .int .i64 0, u103002] 35 (0, 0)) (by (with_reducible repeat (first | refine blk_drewN ?_ _ | refine blk_drew ?_ | refine blk_alloc ?_ _)); exact BK102.out) hg (Kd.R_ne HO_103002.out BK102.out (by decide))); have n2_ := Aside0.mk (Kd.R_over' (by (with_reducible repeat (first | apply Kd.R_alloc | apply Kd.R_drewN | apply Kd.R_drew)); exact HO105.out) (Kd.R_typed (by (with_reducible repeat (first | apply Kd.R_alloc | apply Kd.R_drewN | apply Kd.R_drew)); exact HO_103002.out)) (by decide) hg); have n3_ := Aside0.mk (hb); have n4_ := Aside0.mk (ho); clear BK101; clear BK102; clear HO105; clear HB; clear HO_103002; have BK101 := n0_; have BK102 := n1_; have HO105 := n2_; have HB := n3_; have HO108 := n4_; clear n0_ n1_ n2_ n3_ n4_; clear ho hb hg hat; obtain ⟨Ao15, co15, eo15⟩ := Kd.R_slice HO108.out; subst eo15; have hcz16_0 : w14.cell? ⟨gb102, 0, none⟩ = some (.int .i64 a0) := (blk_cell BK102.out 0).trans rfl; have hcz16_1 : w14.cell? ⟨gb102, 1, none⟩ = some (.int .i64 0) := (blk_cell BK102.out 1).trans rfl; have hcz16_2 : w14.cell? ⟨gb102, 2, none⟩ = some (u103002) := (blk_cell BK102.out 2).trans rfl; have hfz16_0 := blk_frozen BK102.out 0; have hfz16_1 := blk_frozen BK102.out 1; have hfz16_2 := blk_frozen BK102.out 2))
          go_roundg k1
          case measure => have := HK1.out; omega
          case rel => exact ⟨(wrap64 (x6_1 + 1)), (y106), (.slice Ao15 y106.length co15), (by first | rfl | (simp; done) | (simp [*]; done)), H', ⟨by have := HK1.out; omega⟩, ⟨by (with_reducible repeat (first | apply Kd.R_alloc | apply Kd.R_drewN | apply Kd.R_drew)); exact Kd.R_mono (Kd.R_far (p := ⟨gb102, 2, none⟩) (Kd.R_types HO108.out BK102.out (by decide)) (fun _ hk => hk.2) (.slice Ao15 y106.length co15)) (fun _ hk => trivial)⟩, ⟨by (with_reducible repeat (first | refine blk_drewN ?_ _ | refine blk_drew ?_ | refine blk_alloc ?_ _)); refine blk_far ?_ NB101_102.out _; (with_reducible repeat (first | refine blk_drewN ?_ _ | refine blk_drew ?_ | refine blk_alloc ?_ _)); exact BK101.out⟩, ⟨by (with_reducible repeat (first | refine blk_drewN ?_ _ | refine blk_drew ?_ | refine blk_alloc ?_ _)); refine blk_put (cs := #[.int .i64 a0, .int .i64 0, u103002]) ?_ 2 _ rfl; (with_reducible repeat (first | refine blk_drewN ?_ _ | refine blk_drew ?_ | refine blk_alloc ?_ _)); exact BK102.out⟩, ⟨by repeat (first | (with_reducible first | exact HB.out | apply below_alloc | apply pw_below_drewN | apply below_drew1 | refine below_set ?_ GE101.out | refine below_set ?_ GE102.out) | exact HB.out)⟩⟩
        · rw [if_neg c8] at H
          exact absurd H (by simp)
      · rw [if_neg c7] at H
        have c7b0 : decide (x6_1 < a1) = false := decide_eq_false c7
        clear c7
        simp only [Option.some.injEq, Prod.mk.injEq] at H
        obtain ⟨rfl, rfl, rfl⟩ := H
        have hnb17 := NB102_101.out
        have hnc17 := NB101_102.out
        have hcz18_0 : wr.cell? ⟨gb102, 0, none⟩ = some (.int .i64 a0) := (blk_cell BK102.out 0).trans rfl
        have hcz18_1 : wr.cell? ⟨gb102, 1, none⟩ = some (.int .i64 0) := (blk_cell BK102.out 1).trans rfl
        have hcz18_2 : wr.cell? ⟨gb102, 2, none⟩ = some (u103002) := (blk_cell BK102.out 2).trans rfl
        have hfz18_0 := blk_frozen BK102.out 0
        have hfz18_1 := blk_frozen BK102.out 1
        have hfz18_2 := blk_frozen BK102.out 2
        have hcz19_0 : wr.cell? ⟨gb101, 0, none⟩ = some (.int .i64 0) := (blk_cell BK101.out 0).trans rfl
        have hcz19_1 : wr.cell? ⟨gb101, 1, none⟩ = some (.int .i64 0) := (blk_cell BK101.out 1).trans rfl
        have hcz19_2 : wr.cell? ⟨gb101, 2, none⟩ = some (.slice none 0 0) := (blk_cell BK101.out 2).trans rfl
        have hfz19_0 := blk_frozen BK101.out 0
        have hfz19_1 := blk_frozen BK101.out 1
        have hfz19_2 := blk_frozen BK101.out 2
        obtain ⟨Ao20, co20, eo20⟩ := Kd.R_slice HO_103002.out
        subst eo20
        go_wp2
        refine bodyPost_ret (results_cell_row rfl _ _ gb101 35 #[.int .i64 a0, .int .i64 0, .slice Ao20 x103002_1.length co20] (0, 0) _ rfl (by (with_reducible repeat (first | refine blk_drewN ?_ _ | refine blk_drew ?_ | refine blk_alloc ?_ _)); refine blk_put (cs := #[.int .i64 a0, .int .i64 0, .slice none 0 0]) ?_ 2 _ rfl; (with_reducible repeat (first | refine blk_drewN ?_ _ | refine blk_drew ?_ | refine blk_alloc ?_ _)); refine blk_put (cs := #[.int .i64 a0, .int .i64 0, .slice none 0 0]) ?_ 1 _ rfl; (with_reducible repeat (first | refine blk_drewN ?_ _ | refine blk_drew ?_ | refine blk_alloc ?_ _)); refine blk_put (cs := #[.int .i64 0, .int .i64 0, .slice none 0 0]) ?_ 0 _ rfl; (with_reducible repeat (first | refine blk_drewN ?_ _ | refine blk_drew ?_ | refine blk_alloc ?_ _)); exact BK101.out) Try.underlying35 rfl (by kernel_rfl)) rfl ?_
        exact ⟨_, by first | rfl | (simp [errW_none, errW_some] <;> rfl) | (simp [*, errW_none, errW_some] <;> rfl), by (with_reducible repeat (first | apply Kd.R_alloc | apply Kd.R_drewN | apply Kd.R_drew)); exact Kd.R_mono (Kd.R_far (p := ⟨gb101, 2, none⟩) (Kd.R_far (p := ⟨gb101, 1, none⟩) (Kd.R_far (p := ⟨gb101, 0, none⟩) (Kd.R_types HO_103002.out BK101.out (by decide)) (fun _ hk => hk.2) (.int .i64 a0)) (fun _ hk => hk.2) (.int .i64 0)) (fun _ hk => hk.2) (.slice Ao20 x103002_1.length co20)) (fun _ hk => trivial), by repeat (first | (with_reducible first | exact HB.out | apply below_alloc | apply pw_below_drewN | apply below_drew1 | refine below_set ?_ GE101.out | refine below_set ?_ GE102.out) | exact HB.out)⟩

-- NOT PRINTED: function 19 (space_Space_Room)

-- NOT PRINTED: function 8 (quadrigalaw16_awake)

/-! ### quadrigalaw16_great: function 16 -/
def quadrigalaw16_great.l0 : Nat → List (S45) → Int → Option (Bool)
  | 0, _, _ => none
  | k + 1, x0, x3 => if x3 < (x0.length : Int) then (if 0 ≤ x3 then (if (((rd_T45 x0 x3).f2).length : Int) > 10 then (some true) else (quadrigalaw16_great.l0 k x0 (wrap64 (x3 + 1)))) else (none)) else (some false)
def quadrigalaw16_great.f (k : Nat) (l0 : List (S45)) : Option (Bool) := if (l0.length : Int) > 60 then (some true) else (quadrigalaw16_great.l0 k l0 0)
theorem quadrigalaw16_great.mono_l : ∀ k, (∀ y0 y1, LeO (quadrigalaw16_great.l0 k y0 y1) (quadrigalaw16_great.l0 (k + 1) y0 y1))
  | 0 => fun _ _ r h => by simp [quadrigalaw16_great.l0] at h
  | k + 1 => by
    have ih0 := quadrigalaw16_great.mono_l k
    · intro y0 y1
      unfold quadrigalaw16_great.l0
      repeat' first
      | (with_reducible exact ih0 _ _)
      | (with_reducible exact LeO.refl _)
      | (with_reducible exact LeO.none _)
      | (with_reducible refine LeO.ite ?_ ?_)
      | (with_reducible refine LeO.bind ?_ (fun _ => ?_))
      | exact ih0 _ _
      | exact LeO.none _
      | refine LeO.ite ?_ ?_
      | refine LeO.bind ?_ (fun _ => ?_)
theorem quadrigalaw16_great.mono : ∀ a0 k, LeO (quadrigalaw16_great.f k a0) (quadrigalaw16_great.f (k + 1) a0) := by
  intro a0 k
  have ih0 := quadrigalaw16_great.mono_l k
  unfold quadrigalaw16_great.f
  repeat' first
      | (with_reducible exact ih0 _ _)
      | (with_reducible exact LeO.refl _)
      | (with_reducible exact LeO.none _)
      | (with_reducible refine LeO.ite ?_ ?_)
      | (with_reducible refine LeO.bind ?_ (fun _ => ?_))
      | exact ih0 _ _
      | exact LeO.none _
      | refine LeO.ite ?_ ?_
      | refine LeO.bind ?_ (fun _ => ?_)
set_option maxHeartbeats 8000000 in
set_option maxRecDepth 100000 in
theorem quadrigalaw16_great.calls (k : Nat) (A0 : Option Addr) (c0 : Nat) (l0 : List (S45)) (r : Bool) (w : World) (hr0 : Kd.C k45 w A0 l0.length l0) (hc0 : l0.length ≤ c0) (h : quadrigalaw16_great.f k l0 = some r) :
    Calls Try.prog 16 #[.slice A0 l0.length c0] w fun e w' => e = .returned (.bool r) ∧ Drawn0 w w' := by
  have HR0 := Aside0.mk hr0
  have HC0 := Aside0.mk hc0
  clear hr0 hc0
  have H : (if (l0.length : Int) > 60 then (some true) else (quadrigalaw16_great.l0 k l0 0)) = some r := h
  clear h
  by_cases c2 : (l0.length : Int) > 60
  · rw [if_pos c2] at H
    have c2b0 : decide (60 < (l0.length : Int)) = true := decide_eq_true c2
    have c2b1 : decide (60 < l0.length) = true := decide_eq_true (by omega)
    clear c2
    obtain rfl := Option.some.inj H
    go_enter Try.func16, Try.ntmps16
    go_wp2
    go_ret
    exact ⟨by first | rfl | (simp; done) | (simp [*]; done), by repeat (first | exact Drawn0.refl _ | apply Drawn0.step)⟩
  · rw [if_neg c2] at H
    have c2b0 : decide (60 < (l0.length : Int)) = false := decide_eq_false c2
    have c2b1 : decide (60 < l0.length) = false := decide_eq_false (by omega)
    clear c2
    have H' := Aside0.mk H
    clear H
    go_enter Try.func16, Try.ntmps16
    go_wp2
    go_loopg [3] k (fun kq v3 w' => ∃ (x3_1 : Int), v3 = .int .i64 x3_1 ∧ Aside0 (quadrigalaw16_great.l0 kq l0 x3_1 = some r) ∧ Aside0 (kq ≤ k) ∧ Drawn0 w w')
    case atStart => exact ⟨(0), (by first | rfl | (simp; done) | (simp [*]; done)), H', ⟨Nat.le_refl _⟩, by repeat (first | exact Drawn0.refl _ | apply Drawn0.step)⟩
    case round =>
      clear H'
      try clear c1
      try clear c2
      try clear c2b0
      try clear c2b1
      try clear p2
      obtain ⟨x3_1, rfl, HA, HK1, ⟨m1, rfl⟩⟩ := hrel
      cases gk with
      | zero => exact absurd HA.out (by simp [quadrigalaw16_great.l0])
      | succ k1 =>
        have H := HA.out
        clear HA
        simp only [quadrigalaw16_great.l0] at H
        by_cases c3 : x3_1 < (l0.length : Int)
        · rw [if_pos c3] at H
          have c3b0 : decide (x3_1 < (l0.length : Int)) = true := decide_eq_true c3
          clear c3
          by_cases c4 : 0 ≤ x3_1
          · rw [if_pos c4] at H
            have c4b0 : decide (0 ≤ x3_1) = true := decide_eq_true c4
            clear c4
            by_cases c5 : (((rd_T45 l0 x3_1).f2).length : Int) > 10
            · rw [if_pos c5] at H
              have c5b0 : decide (10 < (((rd_T45 l0 x3_1).f2).length : Int)) = true := decide_eq_true c5
              have c5b1 : decide (10 < ((rd_T45 l0 x3_1).f2).length) = true := decide_eq_true (by omega)
              clear c5
              obtain rfl := Option.some.inj H
              have p109 : 0 ≤ (x3_1 : Int) := of_decide_eq_true (by first | (with_reducible assumption) | assumption)
              have q109 : x3_1 < (l0.length : Int) := of_decide_eq_true (by first | (with_reducible assumption) | assumption)
              obtain ⟨ad109, A109_2, c109_2, e109, hx109_0, hx109_1, hx109_2, hl109_2, hi109_2⟩ := at_T45 HR0.out x3_1 p109 q109
              cases e109
              have HR109_2 := Aside0.mk hi109_2
              have HC109_2 := Aside0.mk hl109_2
              clear hi109_2 hl109_2
              replace p109 := eq_true p109
              replace q109 := eq_true q109
              go_wp2
              go_ret
              exact ⟨by first | rfl | (simp; done) | (simp [*]; done), by repeat (first | exact Drawn0.refl _ | apply Drawn0.step)⟩
            · rw [if_neg c5] at H
              have c5b0 : decide (10 < (((rd_T45 l0 x3_1).f2).length : Int)) = false := decide_eq_false c5
              have c5b1 : decide (10 < ((rd_T45 l0 x3_1).f2).length) = false := decide_eq_false (by omega)
              clear c5
              have H' := Aside0.mk H
              clear H
              have p109 : 0 ≤ (x3_1 : Int) := of_decide_eq_true (by first | (with_reducible assumption) | assumption)
              have q109 : x3_1 < (l0.length : Int) := of_decide_eq_true (by first | (with_reducible assumption) | assumption)
              obtain ⟨ad109, A109_2, c109_2, e109, hx109_0, hx109_1, hx109_2, hl109_2, hi109_2⟩ := at_T45 HR0.out x3_1 p109 q109
              cases e109
              have HR109_2 := Aside0.mk hi109_2
              have HC109_2 := Aside0.mk hl109_2
              clear hi109_2 hl109_2
              replace p109 := eq_true p109
              replace q109 := eq_true q109
              go_wp2
              go_roundg k1
              case measure => have := HK1.out; omega
              case rel => exact ⟨(wrap64 (x3_1 + 1)), (by first | rfl | (simp; done) | (simp [*]; done)), H', ⟨by have := HK1.out; omega⟩, by repeat (first | exact Drawn0.refl _ | apply Drawn0.step)⟩
          · rw [if_neg c4] at H
            exact absurd H (by simp)
        · rw [if_neg c3] at H
          have c3b0 : decide (x3_1 < (l0.length : Int)) = false := decide_eq_false c3
          clear c3
          obtain rfl := Option.some.inj H
          go_wp2
          go_ret
          exact ⟨by first | rfl | (simp; done) | (simp [*]; done), by repeat (first | exact Drawn0.refl _ | apply Drawn0.step)⟩

-- NOT PRINTED: function 14 (space_Space_Put)

-- NOT PRINTED: function 20 (space_Space_Done)

/-! ### quadrigalaw16_find: function 30 -/
def quadrigalaw16_find.l0 : Nat → List (S47) → Int → Int → Int → Option (Int)
  | 0, _, _, _, _ => none
  | k + 1, x0, x1, x2, x7 => if x7 < (x0.length : Int) then (if 0 ≤ x7 then (if ((rd_T47 x0 x7).f0) = x1 then (if ((rd_T47 x0 x7).f1) = x2 then (some x7) else (quadrigalaw16_find.l0 k x0 x1 x2 (wrap64 (x7 + 1)))) else (quadrigalaw16_find.l0 k x0 x1 x2 (wrap64 (x7 + 1)))) else (none)) else (some (-1))
def quadrigalaw16_find.f (k : Nat) (l0 : List (S47)) (a1 : Int) (a2 : Int) : Option (Int) := quadrigalaw16_find.l0 k l0 a1 a2 0
theorem quadrigalaw16_find.mono_l : ∀ k, (∀ y0 y1 y2 y3, LeO (quadrigalaw16_find.l0 k y0 y1 y2 y3) (quadrigalaw16_find.l0 (k + 1) y0 y1 y2 y3))
  | 0 => fun _ _ _ _ r h => by simp [quadrigalaw16_find.l0] at h
  | k + 1 => by
    have ih0 := quadrigalaw16_find.mono_l k
    · intro y0 y1 y2 y3
      unfold quadrigalaw16_find.l0
      repeat' first
      | (with_reducible exact ih0 _ _ _ _)
      | (with_reducible exact LeO.refl _)
      | (with_reducible exact LeO.none _)
      | (with_reducible refine LeO.ite ?_ ?_)
      | (with_reducible refine LeO.bind ?_ (fun _ => ?_))
      | exact ih0 _ _ _ _
      | exact LeO.none _
      | refine LeO.ite ?_ ?_
      | refine LeO.bind ?_ (fun _ => ?_)
theorem quadrigalaw16_find.mono : ∀ a0 a1 a2 k, LeO (quadrigalaw16_find.f k a0 a1 a2) (quadrigalaw16_find.f (k + 1) a0 a1 a2) := by
  intro a0 a1 a2 k
  have ih0 := quadrigalaw16_find.mono_l k
  unfold quadrigalaw16_find.f
  repeat' first
      | (with_reducible exact ih0 _ _ _ _)
      | (with_reducible exact LeO.refl _)
      | (with_reducible exact LeO.none _)
      | (with_reducible refine LeO.ite ?_ ?_)
      | (with_reducible refine LeO.bind ?_ (fun _ => ?_))
      | exact ih0 _ _ _ _
      | exact LeO.none _
      | refine LeO.ite ?_ ?_
      | refine LeO.bind ?_ (fun _ => ?_)
set_option maxHeartbeats 8000000 in
set_option maxRecDepth 100000 in
theorem quadrigalaw16_find.calls (k : Nat) (A0 : Option Addr) (c0 : Nat) (l0 : List (S47)) (a1 : Int) (a2 : Int) (r : Int) (w : World) (hr0 : Kd.C k47 w A0 l0.length l0) (hc0 : l0.length ≤ c0) (h : quadrigalaw16_find.f k l0 a1 a2 = some r) :
    Calls Try.prog 30 #[.slice A0 l0.length c0, .int .i64 a1, .int .i64 a2] w fun e w' => e = .returned (.int .i64 r) ∧ Drawn0 w w' := by
  have HR0 := Aside0.mk hr0
  have HC0 := Aside0.mk hc0
  clear hr0 hc0
  have H : (quadrigalaw16_find.l0 k l0 a1 a2 0) = some r := h
  clear h
  have H' := Aside0.mk H
  clear H
  go_enter Try.func30, Try.ntmps30
  go_wp2
  go_loopg [7] k (fun kq v7 w' => ∃ (x7_1 : Int), v7 = .int .i64 x7_1 ∧ Aside0 (quadrigalaw16_find.l0 kq l0 a1 a2 x7_1 = some r) ∧ Aside0 (kq ≤ k) ∧ Drawn0 w w')
  case atStart => exact ⟨(0), (by first | rfl | (simp; done) | (simp [*]; done)), H', ⟨Nat.le_refl _⟩, by repeat (first | exact Drawn0.refl _ | apply Drawn0.step)⟩
  case round =>
    clear H'
    try clear p2
    try clear c3
    obtain ⟨x7_1, rfl, HA, HK1, ⟨m1, rfl⟩⟩ := hrel
    cases gk with
    | zero => exact absurd HA.out (by simp [quadrigalaw16_find.l0])
    | succ k1 =>
      have H := HA.out
      clear HA
      simp only [quadrigalaw16_find.l0] at H
      by_cases c4 : x7_1 < (l0.length : Int)
      · rw [if_pos c4] at H
        have c4b0 : decide (x7_1 < (l0.length : Int)) = true := decide_eq_true c4
        clear c4
        by_cases c5 : 0 ≤ x7_1
        · rw [if_pos c5] at H
          have c5b0 : decide (0 ≤ x7_1) = true := decide_eq_true c5
          clear c5
          by_cases c6 : ((rd_T47 l0 x7_1).f0) = a1
          · rw [if_pos c6] at H
            have c6b0 : (((rd_T47 l0 x7_1).f0) == a1) = true := beq_iff_eq.mpr c6
            have c6b1 : (((rd_T47 l0 x7_1).f0) != a1) = false := bne_eq_false_iff_eq.mpr c6
            clear c6
            by_cases c7 : ((rd_T47 l0 x7_1).f1) = a2
            · rw [if_pos c7] at H
              have c7b0 : (((rd_T47 l0 x7_1).f1) == a2) = true := beq_iff_eq.mpr c7
              have c7b1 : (((rd_T47 l0 x7_1).f1) != a2) = false := bne_eq_false_iff_eq.mpr c7
              clear c7
              obtain rfl := Option.some.inj H
              have p110 : 0 ≤ (x7_1 : Int) := of_decide_eq_true (by first | (with_reducible assumption) | assumption)
              have q110 : x7_1 < (l0.length : Int) := of_decide_eq_true (by first | (with_reducible assumption) | assumption)
              obtain ⟨ad110, e110, hx110_0, hx110_1, hx110_2⟩ := at_T47 HR0.out x7_1 p110 q110
              cases e110
              replace p110 := eq_true p110
              replace q110 := eq_true q110
              have p111 : 0 ≤ (x7_1 : Int) := of_decide_eq_true (by first | (with_reducible assumption) | assumption)
              have q111 : x7_1 < (l0.length : Int) := of_decide_eq_true (by first | (with_reducible assumption) | assumption)
              obtain ⟨ad111, e111, hx111_0, hx111_1, hx111_2⟩ := at_T47 HR0.out x7_1 p111 q111
              obtain rfl : ad110 = ad111 := (by injection e111)
              replace p111 := eq_true p111
              replace q111 := eq_true q111
              go_wp2
              go_ret
              exact ⟨by first | rfl | (simp; done) | (simp [*]; done), by repeat (first | exact Drawn0.refl _ | apply Drawn0.step)⟩
            · rw [if_neg c7] at H
              have c7b0 : (((rd_T47 l0 x7_1).f1) == a2) = false := beq_eq_false_iff_ne.mpr c7
              have c7b1 : (((rd_T47 l0 x7_1).f1) != a2) = true := bne_iff_ne.mpr c7
              have H' := Aside0.mk H
              clear H
              have p110 : 0 ≤ (x7_1 : Int) := of_decide_eq_true (by first | (with_reducible assumption) | assumption)
              have q110 : x7_1 < (l0.length : Int) := of_decide_eq_true (by first | (with_reducible assumption) | assumption)
              obtain ⟨ad110, e110, hx110_0, hx110_1, hx110_2⟩ := at_T47 HR0.out x7_1 p110 q110
              cases e110
              replace p110 := eq_true p110
              replace q110 := eq_true q110
              have p111 : 0 ≤ (x7_1 : Int) := of_decide_eq_true (by first | (with_reducible assumption) | assumption)
              have q111 : x7_1 < (l0.length : Int) := of_decide_eq_true (by first | (with_reducible assumption) | assumption)
              obtain ⟨ad111, e111, hx111_0, hx111_1, hx111_2⟩ := at_T47 HR0.out x7_1 p111 q111
              obtain rfl : ad110 = ad111 := (by injection e111)
              replace p111 := eq_true p111
              replace q111 := eq_true q111
              go_wp2
              go_roundg k1
              case measure => have := HK1.out; omega
              case rel => exact ⟨(wrap64 (x7_1 + 1)), (by first | rfl | (simp; done) | (simp [*]; done)), H', ⟨by have := HK1.out; omega⟩, by repeat (first | exact Drawn0.refl _ | apply Drawn0.step)⟩
          · rw [if_neg c6] at H
            have c6b0 : (((rd_T47 l0 x7_1).f0) == a1) = false := beq_eq_false_iff_ne.mpr c6
            have c6b1 : (((rd_T47 l0 x7_1).f0) != a1) = true := bne_iff_ne.mpr c6
            have H' := Aside0.mk H
            clear H
            have p110 : 0 ≤ (x7_1 : Int) := of_decide_eq_true (by first | (with_reducible assumption) | assumption)
            have q110 : x7_1 < (l0.length : Int) := of_decide_eq_true (by first | (with_reducible assumption) | assumption)
            obtain ⟨ad110, e110, hx110_0, hx110_1, hx110_2⟩ := at_T47 HR0.out x7_1 p110 q110
            cases e110
            replace p110 := eq_true p110
            replace q110 := eq_true q110
            go_wp2
            go_roundg k1
            case measure => have := HK1.out; omega
            case rel => exact ⟨(wrap64 (x7_1 + 1)), (by first | rfl | (simp; done) | (simp [*]; done)), H', ⟨by have := HK1.out; omega⟩, by repeat (first | exact Drawn0.refl _ | apply Drawn0.step)⟩
        · rw [if_neg c5] at H
          exact absurd H (by simp)
      · rw [if_neg c4] at H
        have c4b0 : decide (x7_1 < (l0.length : Int)) = false := decide_eq_false c4
        clear c4
        obtain rfl := Option.some.inj H
        go_wp2
        go_ret
        exact ⟨by first | rfl | (simp; done) | (simp [*]; done), by repeat (first | exact Drawn0.refl _ | apply Drawn0.step)⟩

-- NOT PRINTED: function 17 (quadrigalaw16_does)

-- NOT PRINTED: function 5 (quadrigalaw16_SpaceNotes)

end Go.Proofs.Ytlicobfjeajcfaa.PSpaceNotes
