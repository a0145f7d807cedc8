-- Written by a program of this session (wip/bin/stubprint.py) out of the translation; not trusted: Lean checks it.
import Derived.Test.YtlicobfjeajcfaaDoorQ04x0
import Derived.Test.YtlicobfjeajcfaaDoorQ04e
import Derived.Test.YtlicobfjeajcfaaDoorQ04r
namespace Go.Proofs.YtlicobfjeajcfaaDoor.Q04
open Go.RowKit Go.Proofs.YtlicobfjeajcfaaDoorW.PrintWords Go.Proofs.YtlicobfjeajcfaaDoorW.PrintLast Go.Proofs.YtlicobfjeajcfaaDoorW.PrintMore
attribute [local go_sem] max2_int min2_int max_two min_two max_three min_three max_four min_four   -- for this text's walks alone
set_option linter.unusedVariables false
set_option linter.unusedSimpArgs false

attribute [local go_sem high] eqA23
/-! ### quadrigaref04_Right: function 11 -/
mutual
def quadrigaref04_Right.j0 : Nat → Bool → Int → Int → Int → Int → Int → ByteArray → Bool → ByteArray → Bool → ByteArray → Int → Option (Bool)
  | 0, _, _, _, _, _, _, _, _, _, _, _, _ => none
  | k + 1, x51, x212000, x212001, x212002, x212003, x212004, x212005, x212006, x212007, x212008, x212009, x212010 => if x51 = true then (some false) else ((quadrigaref04_page.f x212000).bind fun t212 => (if t212 = true then (if x212004 < 0 then (quadrigaref04_Right.j1 k true x212000 x212001 x212002 x212003 x212004 x212005 x212006 x212007 x212008 x212009 x212010) else (if x212004 > 63 then (quadrigaref04_Right.j1 k true x212000 x212001 x212002 x212003 x212004 x212005 x212006 x212007 x212008 x212009 x212010) else ((quadrigaref04_Key.f x212005).bind fun t213 => (if t213 = true then ((quadrigaref04_Value.f x212006 x212007).bind fun t214 => (if t214 = true then ((quadrigaref04_Value.f x212008 x212009).bind fun t215 => (if t215 = true then (quadrigaref04_Right.j1 k (x212006 == x212008 && (x212007.toList == x212009.toList)) x212000 x212001 x212002 x212003 x212004 x212005 x212006 x212007 x212008 x212009 x212010) else (quadrigaref04_Right.j1 k true x212000 x212001 x212002 x212003 x212004 x212005 x212006 x212007 x212008 x212009 x212010))) else (quadrigaref04_Right.j1 k true x212000 x212001 x212002 x212003 x212004 x212005 x212006 x212007 x212008 x212009 x212010))) else (quadrigaref04_Right.j1 k true x212000 x212001 x212002 x212003 x212004 x212005 x212006 x212007 x212008 x212009 x212010))))) else (quadrigaref04_Right.j1 k false x212000 x212001 x212002 x212003 x212004 x212005 x212006 x212007 x212008 x212009 x212010)))
def quadrigaref04_Right.j1 : Nat → Bool → Int → Int → Int → Int → Int → ByteArray → Bool → ByteArray → Bool → ByteArray → Int → Option (Bool)
  | 0, _, _, _, _, _, _, _, _, _, _, _, _ => none
  | k + 1, x89, x212000, x212001, x212002, x212003, x212004, x212005, x212006, x212007, x212008, x212009, x212010 => if x89 = true then (some false) else ((quadrigaref04_page.f x212000).bind fun t216 => (if t216 = true then (quadrigaref04_Right.j2 k false x212000 x212001 x212002 x212003 x212004 x212005 x212006 x212007 x212008 x212009 x212010) else (if x212004 = 0 then (if x212005.toList = ([] : List UInt8) then (if (x212006 || (!(x212007.toList == ([] : List UInt8)))) = true then (quadrigaref04_Right.j2 k true x212000 x212001 x212002 x212003 x212004 x212005 x212006 x212007 x212008 x212009 x212010) else (quadrigaref04_Right.j2 k (x212008 || (!(x212009.toList == ([] : List UInt8)))) x212000 x212001 x212002 x212003 x212004 x212005 x212006 x212007 x212008 x212009 x212010)) else (quadrigaref04_Right.j2 k true x212000 x212001 x212002 x212003 x212004 x212005 x212006 x212007 x212008 x212009 x212010)) else (quadrigaref04_Right.j2 k true x212000 x212001 x212002 x212003 x212004 x212005 x212006 x212007 x212008 x212009 x212010))))
def quadrigaref04_Right.j2 : Nat → Bool → Int → Int → Int → Int → Int → ByteArray → Bool → ByteArray → Bool → ByteArray → Int → Option (Bool)
  | 0, _, _, _, _, _, _, _, _, _, _, _, _ => none
  | k + 1, x115, x212000, x212001, x212002, x212003, x212004, x212005, x212006, x212007, x212008, x212009, x212010 => if x115 = true then (some false) else (if x212000 = 3 then (if x212010 ≥ 1 then (some (decide (x212010 ≤ x212003))) else (some false)) else (if x212000 = 4 then (if x212010 ≥ 0 then (some (decide (x212010 < 256))) else (some false)) else (some (x212010 == 0))))
end
def quadrigaref04_Right.f (k : Nat) (a0_0 : Int) (a0_1 : Int) (a0_2 : Int) (a0_3 : Int) (a0_4 : Int) (a0_5 : ByteArray) (a0_6 : Bool) (a0_7 : ByteArray) (a0_8 : Bool) (a0_9 : ByteArray) (a0_10 : Int) : Option (Bool) := if a0_0 < 1 then (quadrigaref04_Right.j0 k true a0_0 a0_1 a0_2 a0_3 a0_4 a0_5 a0_6 a0_7 a0_8 a0_9 a0_10) else (if a0_0 > 6 then (quadrigaref04_Right.j0 k true a0_0 a0_1 a0_2 a0_3 a0_4 a0_5 a0_6 a0_7 a0_8 a0_9 a0_10) else (if a0_2 < 1 then (quadrigaref04_Right.j0 k true a0_0 a0_1 a0_2 a0_3 a0_4 a0_5 a0_6 a0_7 a0_8 a0_9 a0_10) else (if a0_2 > 2147483647 then (quadrigaref04_Right.j0 k true a0_0 a0_1 a0_2 a0_3 a0_4 a0_5 a0_6 a0_7 a0_8 a0_9 a0_10) else (if a0_1 < 1 then (quadrigaref04_Right.j0 k true a0_0 a0_1 a0_2 a0_3 a0_4 a0_5 a0_6 a0_7 a0_8 a0_9 a0_10) else (if a0_1 > 4611686018427387903 then (quadrigaref04_Right.j0 k true a0_0 a0_1 a0_2 a0_3 a0_4 a0_5 a0_6 a0_7 a0_8 a0_9 a0_10) else (if a0_3 < 0 then (quadrigaref04_Right.j0 k true a0_0 a0_1 a0_2 a0_3 a0_4 a0_5 a0_6 a0_7 a0_8 a0_9 a0_10) else (if a0_3 ≥ a0_1 then (quadrigaref04_Right.j0 k true a0_0 a0_1 a0_2 a0_3 a0_4 a0_5 a0_6 a0_7 a0_8 a0_9 a0_10) else (quadrigaref04_Right.j0 k ((a0_3 == 0) != (a0_0 == 1)) a0_0 a0_1 a0_2 a0_3 a0_4 a0_5 a0_6 a0_7 a0_8 a0_9 a0_10))))))))
set_option maxHeartbeats 8000000 in
set_option maxRecDepth 100000 in
theorem quadrigaref04_Right.calls (k : Nat) (a0_0 : Int) (a0_1 : Int) (a0_2 : Int) (a0_3 : Int) (a0_4 : Int) (a0_5 : ByteArray) (a0_6 : Bool) (a0_7 : ByteArray) (a0_8 : Bool) (a0_9 : ByteArray) (a0_10 : Int) (r : Bool) (w : World) (h : quadrigaref04_Right.f k a0_0 a0_1 a0_2 a0_3 a0_4 a0_5 a0_6 a0_7 a0_8 a0_9 a0_10 = some r) :
    Calls Tryd.prog 11 #[.agg #[.int .i64 a0_0, .int .i64 a0_1, .int .i64 a0_2, .int .i64 a0_3, .int .i64 a0_4, .string a0_5, .bool a0_6, .string a0_7, .bool a0_8, .string a0_9, .int .i64 a0_10]] w fun e w' => e = .returned (.bool r) ∧ Below w.heap.size w w' := by
  have hu25 := Tryd.underlying25
  have hu23 := Tryd.underlying23
  have HB := Aside0.mk (Below.refl w.heap.size w)
  have H : (if a0_0 < 1 then (quadrigaref04_Right.j0 k true a0_0 a0_1 a0_2 a0_3 a0_4 a0_5 a0_6 a0_7 a0_8 a0_9 a0_10) else (if a0_0 > 6 then (quadrigaref04_Right.j0 k true a0_0 a0_1 a0_2 a0_3 a0_4 a0_5 a0_6 a0_7 a0_8 a0_9 a0_10) else (if a0_2 < 1 then (quadrigaref04_Right.j0 k true a0_0 a0_1 a0_2 a0_3 a0_4 a0_5 a0_6 a0_7 a0_8 a0_9 a0_10) else (if a0_2 > 2147483647 then (quadrigaref04_Right.j0 k true a0_0 a0_1 a0_2 a0_3 a0_4 a0_5 a0_6 a0_7 a0_8 a0_9 a0_10) else (if a0_1 < 1 then (quadrigaref04_Right.j0 k true a0_0 a0_1 a0_2 a0_3 a0_4 a0_5 a0_6 a0_7 a0_8 a0_9 a0_10) else (if a0_1 > 4611686018427387903 then (quadrigaref04_Right.j0 k true a0_0 a0_1 a0_2 a0_3 a0_4 a0_5 a0_6 a0_7 a0_8 a0_9 a0_10) else (if a0_3 < 0 then (quadrigaref04_Right.j0 k true a0_0 a0_1 a0_2 a0_3 a0_4 a0_5 a0_6 a0_7 a0_8 a0_9 a0_10) else (if a0_3 ≥ a0_1 then (quadrigaref04_Right.j0 k true a0_0 a0_1 a0_2 a0_3 a0_4 a0_5 a0_6 a0_7 a0_8 a0_9 a0_10) else (quadrigaref04_Right.j0 k ((a0_3 == 0) != (a0_0 == 1)) a0_0 a0_1 a0_2 a0_3 a0_4 a0_5 a0_6 a0_7 a0_8 a0_9 a0_10))))))))) = some r := h
  clear h
  have HC2 := Aside0.mk H
  clear H
  go_enter Tryd.func11, Tryd.ntmps11
  go_upto_region 1 with (first | ((with_reducible refine gate_dst (N := 1) rfl ?_); refine box_event ?hg (N := 1) ?hd (cs := #[.int .i64 a0_0, .int .i64 a0_1, .int .i64 a0_2, .int .i64 a0_3, .int .i64 a0_4, .string a0_5, .bool a0_6, .string a0_7, .bool a0_8, .string a0_9, .int .i64 a0_10]) (t := 25) ?hr ?_; (case hd => rfl); (case hg => rfl); (case hr => first | (go_simp; done) | (go_simp; rfl)); intro gb211 hg w3 hbox hb; have n0_ := Aside0.mk (below_step (by repeat (first | (with_reducible first | exact HB.out | apply below_alloc | apply pw_below_drewN | apply below_drew1) | exact HB.out)) hb); have n1_ := Aside0.mk (hbox); have n2_ := Aside0.mk ((by rw [hg]; exact (below_size (by repeat (first | (with_reducible first | exact HB.out | apply below_alloc | apply pw_below_drewN | apply below_drew1) | exact HB.out))) : w.heap.size ≤ gb211)); have n3_ := Aside0.mk ((by rw [hg]; exact (below_size (by repeat (first | (with_reducible first | exact HB.out | apply below_alloc | apply pw_below_drewN | apply below_drew1) | exact HB.out))) : w.heap.size ≤ gb211)); clear HB; have HB := n0_; have BK211 := n1_; have GW211 := n2_; have GE211 := n3_; clear n0_ n1_ n2_ n3_; clear hb hbox hg))
  (try simp only [Act.put, List.setIfInBounds_toArray, List.set_cons_zero, List.set_cons_succ])
  go_cut [51] (fun v51 wc => ∃ (kq : Nat) (x51_1 : Bool), v51 = .bool x51_1 ∧ Aside0 (quadrigaref04_Right.j0 kq x51_1 a0_0 a0_1 a0_2 a0_3 a0_4 a0_5 a0_6 a0_7 a0_8 a0_9 a0_10 = some r) ∧ Aside0 (kq ≤ k) ∧ Aside0 (wc.heap[gb211]? = some (.cells #[.int .i64 a0_0, .int .i64 a0_1, .int .i64 a0_2, .int .i64 a0_3, .int .i64 a0_4, .string a0_5, .bool a0_6, .string a0_7, .bool a0_8, .string a0_9, .int .i64 a0_10] 25 (0, 0))) ∧ Aside0 (Below w.heap.size w wc))
  case first =>
    have H := HC2.out
    clear HC2
    by_cases c4 : a0_0 < 1
    · rw [if_pos c4] at H
      have c4b0 : decide (a0_0 < 1) = true := decide_eq_true c4
      clear c4
      (first | rw [c4b0] | (simp only [i64_w, i32_w]; rw [c4b0]) | skip)
      have H' := Aside0.mk H
      clear H
      have hcz5_0 : w3.cell? ⟨gb211, 0, none⟩ = some (.int .i64 a0_0) := (blk_cell BK211.out 0).trans rfl
      have hcz5_1 : w3.cell? ⟨gb211, 1, none⟩ = some (.int .i64 a0_1) := (blk_cell BK211.out 1).trans rfl
      have hcz5_2 : w3.cell? ⟨gb211, 2, none⟩ = some (.int .i64 a0_2) := (blk_cell BK211.out 2).trans rfl
      have hcz5_3 : w3.cell? ⟨gb211, 3, none⟩ = some (.int .i64 a0_3) := (blk_cell BK211.out 3).trans rfl
      have hcz5_4 : w3.cell? ⟨gb211, 4, none⟩ = some (.int .i64 a0_4) := (blk_cell BK211.out 4).trans rfl
      have hcz5_5 : w3.cell? ⟨gb211, 5, none⟩ = some (.string a0_5) := (blk_cell BK211.out 5).trans rfl
      have hcz5_6 : w3.cell? ⟨gb211, 6, none⟩ = some (.bool a0_6) := (blk_cell BK211.out 6).trans rfl
      have hcz5_7 : w3.cell? ⟨gb211, 7, none⟩ = some (.string a0_7) := (blk_cell BK211.out 7).trans rfl
      have hcz5_8 : w3.cell? ⟨gb211, 8, none⟩ = some (.bool a0_8) := (blk_cell BK211.out 8).trans rfl
      have hcz5_9 : w3.cell? ⟨gb211, 9, none⟩ = some (.string a0_9) := (blk_cell BK211.out 9).trans rfl
      have hcz5_10 : w3.cell? ⟨gb211, 10, none⟩ = some (.int .i64 a0_10) := (blk_cell BK211.out 10).trans rfl
      have hfz5_0 := blk_frozen BK211.out 0
      have hfz5_1 := blk_frozen BK211.out 1
      have hfz5_2 := blk_frozen BK211.out 2
      have hfz5_3 := blk_frozen BK211.out 3
      have hfz5_4 := blk_frozen BK211.out 4
      have hfz5_5 := blk_frozen BK211.out 5
      have hfz5_6 := blk_frozen BK211.out 6
      have hfz5_7 := blk_frozen BK211.out 7
      have hfz5_8 := blk_frozen BK211.out 8
      have hfz5_9 := blk_frozen BK211.out 9
      have hfz5_10 := blk_frozen BK211.out 10
      go_wp2
      go_meet
      case rel => exact ⟨_, (true), (by first | rfl | (simp; done) | (simp [*]; done)), H', ⟨by first | omega | exact Nat.le_refl _⟩, ⟨by (with_reducible repeat (first | refine blk_drewN ?_ _ | refine blk_drew ?_ | refine blk_alloc ?_ _)); exact BK211.out⟩, ⟨by repeat (first | (with_reducible first | exact HB.out | apply below_alloc | apply pw_below_drewN | apply below_drew1 | refine below_set ?_ GE211.out) | exact HB.out)⟩⟩
    · rw [if_neg c4] at H
      have c4b0 : decide (a0_0 < 1) = false := decide_eq_false c4
      clear c4
      (first | rw [c4b0] | (simp only [i64_w, i32_w]; rw [c4b0]) | skip)
      by_cases c6 : a0_0 > 6
      · rw [if_pos c6] at H
        have c6b0 : decide (6 < a0_0) = true := decide_eq_true c6
        clear c6
        have H' := Aside0.mk H
        clear H
        have hcz7_0 : w3.cell? ⟨gb211, 0, none⟩ = some (.int .i64 a0_0) := (blk_cell BK211.out 0).trans rfl
        have hcz7_1 : w3.cell? ⟨gb211, 1, none⟩ = some (.int .i64 a0_1) := (blk_cell BK211.out 1).trans rfl
        have hcz7_2 : w3.cell? ⟨gb211, 2, none⟩ = some (.int .i64 a0_2) := (blk_cell BK211.out 2).trans rfl
        have hcz7_3 : w3.cell? ⟨gb211, 3, none⟩ = some (.int .i64 a0_3) := (blk_cell BK211.out 3).trans rfl
        have hcz7_4 : w3.cell? ⟨gb211, 4, none⟩ = some (.int .i64 a0_4) := (blk_cell BK211.out 4).trans rfl
        have hcz7_5 : w3.cell? ⟨gb211, 5, none⟩ = some (.string a0_5) := (blk_cell BK211.out 5).trans rfl
        have hcz7_6 : w3.cell? ⟨gb211, 6, none⟩ = some (.bool a0_6) := (blk_cell BK211.out 6).trans rfl
        have hcz7_7 : w3.cell? ⟨gb211, 7, none⟩ = some (.string a0_7) := (blk_cell BK211.out 7).trans rfl
        have hcz7_8 : w3.cell? ⟨gb211, 8, none⟩ = some (.bool a0_8) := (blk_cell BK211.out 8).trans rfl
        have hcz7_9 : w3.cell? ⟨gb211, 9, none⟩ = some (.string a0_9) := (blk_cell BK211.out 9).trans rfl
        have hcz7_10 : w3.cell? ⟨gb211, 10, none⟩ = some (.int .i64 a0_10) := (blk_cell BK211.out 10).trans rfl
        have hfz7_0 := blk_frozen BK211.out 0
        have hfz7_1 := blk_frozen BK211.out 1
        have hfz7_2 := blk_frozen BK211.out 2
        have hfz7_3 := blk_frozen BK211.out 3
        have hfz7_4 := blk_frozen BK211.out 4
        have hfz7_5 := blk_frozen BK211.out 5
        have hfz7_6 := blk_frozen BK211.out 6
        have hfz7_7 := blk_frozen BK211.out 7
        have hfz7_8 := blk_frozen BK211.out 8
        have hfz7_9 := blk_frozen BK211.out 9
        have hfz7_10 := blk_frozen BK211.out 10
        go_wp2
        go_meet
        case rel => exact ⟨_, (true), (by first | rfl | (simp; done) | (simp [*]; done)), H', ⟨by first | omega | exact Nat.le_refl _⟩, ⟨by (with_reducible repeat (first | refine blk_drewN ?_ _ | refine blk_drew ?_ | refine blk_alloc ?_ _)); exact BK211.out⟩, ⟨by repeat (first | (with_reducible first | exact HB.out | apply below_alloc | apply pw_below_drewN | apply below_drew1 | refine below_set ?_ GE211.out) | exact HB.out)⟩⟩
      · rw [if_neg c6] at H
        have c6b0 : decide (6 < a0_0) = false := decide_eq_false c6
        clear c6
        by_cases c8 : a0_2 < 1
        · rw [if_pos c8] at H
          have c8b0 : decide (a0_2 < 1) = true := decide_eq_true c8
          clear c8
          have H' := Aside0.mk H
          clear H
          have hcz9_0 : w3.cell? ⟨gb211, 0, none⟩ = some (.int .i64 a0_0) := (blk_cell BK211.out 0).trans rfl
          have hcz9_1 : w3.cell? ⟨gb211, 1, none⟩ = some (.int .i64 a0_1) := (blk_cell BK211.out 1).trans rfl
          have hcz9_2 : w3.cell? ⟨gb211, 2, none⟩ = some (.int .i64 a0_2) := (blk_cell BK211.out 2).trans rfl
          have hcz9_3 : w3.cell? ⟨gb211, 3, none⟩ = some (.int .i64 a0_3) := (blk_cell BK211.out 3).trans rfl
          have hcz9_4 : w3.cell? ⟨gb211, 4, none⟩ = some (.int .i64 a0_4) := (blk_cell BK211.out 4).trans rfl
          have hcz9_5 : w3.cell? ⟨gb211, 5, none⟩ = some (.string a0_5) := (blk_cell BK211.out 5).trans rfl
          have hcz9_6 : w3.cell? ⟨gb211, 6, none⟩ = some (.bool a0_6) := (blk_cell BK211.out 6).trans rfl
          have hcz9_7 : w3.cell? ⟨gb211, 7, none⟩ = some (.string a0_7) := (blk_cell BK211.out 7).trans rfl
          have hcz9_8 : w3.cell? ⟨gb211, 8, none⟩ = some (.bool a0_8) := (blk_cell BK211.out 8).trans rfl
          have hcz9_9 : w3.cell? ⟨gb211, 9, none⟩ = some (.string a0_9) := (blk_cell BK211.out 9).trans rfl
          have hcz9_10 : w3.cell? ⟨gb211, 10, none⟩ = some (.int .i64 a0_10) := (blk_cell BK211.out 10).trans rfl
          have hfz9_0 := blk_frozen BK211.out 0
          have hfz9_1 := blk_frozen BK211.out 1
          have hfz9_2 := blk_frozen BK211.out 2
          have hfz9_3 := blk_frozen BK211.out 3
          have hfz9_4 := blk_frozen BK211.out 4
          have hfz9_5 := blk_frozen BK211.out 5
          have hfz9_6 := blk_frozen BK211.out 6
          have hfz9_7 := blk_frozen BK211.out 7
          have hfz9_8 := blk_frozen BK211.out 8
          have hfz9_9 := blk_frozen BK211.out 9
          have hfz9_10 := blk_frozen BK211.out 10
          go_wp2
          go_meet
          case rel => exact ⟨_, (true), (by first | rfl | (simp; done) | (simp [*]; done)), H', ⟨by first | omega | exact Nat.le_refl _⟩, ⟨by (with_reducible repeat (first | refine blk_drewN ?_ _ | refine blk_drew ?_ | refine blk_alloc ?_ _)); exact BK211.out⟩, ⟨by repeat (first | (with_reducible first | exact HB.out | apply below_alloc | apply pw_below_drewN | apply below_drew1 | refine below_set ?_ GE211.out) | exact HB.out)⟩⟩
        · rw [if_neg c8] at H
          have c8b0 : decide (a0_2 < 1) = false := decide_eq_false c8
          clear c8
          by_cases c10 : a0_2 > 2147483647
          · rw [if_pos c10] at H
            have c10b0 : decide (2147483647 < a0_2) = true := decide_eq_true c10
            clear c10
            have H' := Aside0.mk H
            clear H
            have hcz11_0 : w3.cell? ⟨gb211, 0, none⟩ = some (.int .i64 a0_0) := (blk_cell BK211.out 0).trans rfl
            have hcz11_1 : w3.cell? ⟨gb211, 1, none⟩ = some (.int .i64 a0_1) := (blk_cell BK211.out 1).trans rfl
            have hcz11_2 : w3.cell? ⟨gb211, 2, none⟩ = some (.int .i64 a0_2) := (blk_cell BK211.out 2).trans rfl
            have hcz11_3 : w3.cell? ⟨gb211, 3, none⟩ = some (.int .i64 a0_3) := (blk_cell BK211.out 3).trans rfl
            have hcz11_4 : w3.cell? ⟨gb211, 4, none⟩ = some (.int .i64 a0_4) := (blk_cell BK211.out 4).trans rfl
            have hcz11_5 : w3.cell? ⟨gb211, 5, none⟩ = some (.string a0_5) := (blk_cell BK211.out 5).trans rfl
            have hcz11_6 : w3.cell? ⟨gb211, 6, none⟩ = some (.bool a0_6) := (blk_cell BK211.out 6).trans rfl
            have hcz11_7 : w3.cell? ⟨gb211, 7, none⟩ = some (.string a0_7) := (blk_cell BK211.out 7).trans rfl
            have hcz11_8 : w3.cell? ⟨gb211, 8, none⟩ = some (.bool a0_8) := (blk_cell BK211.out 8).trans rfl
            have hcz11_9 : w3.cell? ⟨gb211, 9, none⟩ = some (.string a0_9) := (blk_cell BK211.out 9).trans rfl
            have hcz11_10 : w3.cell? ⟨gb211, 10, none⟩ = some (.int .i64 a0_10) := (blk_cell BK211.out 10).trans rfl
            have hfz11_0 := blk_frozen BK211.out 0
            have hfz11_1 := blk_frozen BK211.out 1
            have hfz11_2 := blk_frozen BK211.out 2
            have hfz11_3 := blk_frozen BK211.out 3
            have hfz11_4 := blk_frozen BK211.out 4
            have hfz11_5 := blk_frozen BK211.out 5
            have hfz11_6 := blk_frozen BK211.out 6
            have hfz11_7 := blk_frozen BK211.out 7
            have hfz11_8 := blk_frozen BK211.out 8
            have hfz11_9 := blk_frozen BK211.out 9
            have hfz11_10 := blk_frozen BK211.out 10
            go_wp2
            go_meet
            case rel => exact ⟨_, (true), (by first | rfl | (simp; done) | (simp [*]; done)), H', ⟨by first | omega | exact Nat.le_refl _⟩, ⟨by (with_reducible repeat (first | refine blk_drewN ?_ _ | refine blk_drew ?_ | refine blk_alloc ?_ _)); exact BK211.out⟩, ⟨by repeat (first | (with_reducible first | exact HB.out | apply below_alloc | apply pw_below_drewN | apply below_drew1 | refine below_set ?_ GE211.out) | exact HB.out)⟩⟩
          · rw [if_neg c10] at H
            have c10b0 : decide (2147483647 < a0_2) = false := decide_eq_false c10
            clear c10
            by_cases c12 : a0_1 < 1
            · rw [if_pos c12] at H
              have c12b0 : decide (a0_1 < 1) = true := decide_eq_true c12
              clear c12
              have H' := Aside0.mk H
              clear H
              have hcz13_0 : w3.cell? ⟨gb211, 0, none⟩ = some (.int .i64 a0_0) := (blk_cell BK211.out 0).trans rfl
              have hcz13_1 : w3.cell? ⟨gb211, 1, none⟩ = some (.int .i64 a0_1) := (blk_cell BK211.out 1).trans rfl
              have hcz13_2 : w3.cell? ⟨gb211, 2, none⟩ = some (.int .i64 a0_2) := (blk_cell BK211.out 2).trans rfl
              have hcz13_3 : w3.cell? ⟨gb211, 3, none⟩ = some (.int .i64 a0_3) := (blk_cell BK211.out 3).trans rfl
              have hcz13_4 : w3.cell? ⟨gb211, 4, none⟩ = some (.int .i64 a0_4) := (blk_cell BK211.out 4).trans rfl
              have hcz13_5 : w3.cell? ⟨gb211, 5, none⟩ = some (.string a0_5) := (blk_cell BK211.out 5).trans rfl
              have hcz13_6 : w3.cell? ⟨gb211, 6, none⟩ = some (.bool a0_6) := (blk_cell BK211.out 6).trans rfl
              have hcz13_7 : w3.cell? ⟨gb211, 7, none⟩ = some (.string a0_7) := (blk_cell BK211.out 7).trans rfl
              have hcz13_8 : w3.cell? ⟨gb211, 8, none⟩ = some (.bool a0_8) := (blk_cell BK211.out 8).trans rfl
              have hcz13_9 : w3.cell? ⟨gb211, 9, none⟩ = some (.string a0_9) := (blk_cell BK211.out 9).trans rfl
              have hcz13_10 : w3.cell? ⟨gb211, 10, none⟩ = some (.int .i64 a0_10) := (blk_cell BK211.out 10).trans rfl
              have hfz13_0 := blk_frozen BK211.out 0
              have hfz13_1 := blk_frozen BK211.out 1
              have hfz13_2 := blk_frozen BK211.out 2
              have hfz13_3 := blk_frozen BK211.out 3
              have hfz13_4 := blk_frozen BK211.out 4
              have hfz13_5 := blk_frozen BK211.out 5
              have hfz13_6 := blk_frozen BK211.out 6
              have hfz13_7 := blk_frozen BK211.out 7
              have hfz13_8 := blk_frozen BK211.out 8
              have hfz13_9 := blk_frozen BK211.out 9
              have hfz13_10 := blk_frozen BK211.out 10
              go_wp2
              go_meet
              case rel => exact ⟨_, (true), (by first | rfl | (simp; done) | (simp [*]; done)), H', ⟨by first | omega | exact Nat.le_refl _⟩, ⟨by (with_reducible repeat (first | refine blk_drewN ?_ _ | refine blk_drew ?_ | refine blk_alloc ?_ _)); exact BK211.out⟩, ⟨by repeat (first | (with_reducible first | exact HB.out | apply below_alloc | apply pw_below_drewN | apply below_drew1 | refine below_set ?_ GE211.out) | exact HB.out)⟩⟩
            · rw [if_neg c12] at H
              have c12b0 : decide (a0_1 < 1) = false := decide_eq_false c12
              clear c12
              by_cases c14 : a0_1 > 4611686018427387903
              · rw [if_pos c14] at H
                have c14b0 : decide (4611686018427387903 < a0_1) = true := decide_eq_true c14
                clear c14
                have H' := Aside0.mk H
                clear H
                have hcz15_0 : w3.cell? ⟨gb211, 0, none⟩ = some (.int .i64 a0_0) := (blk_cell BK211.out 0).trans rfl
                have hcz15_1 : w3.cell? ⟨gb211, 1, none⟩ = some (.int .i64 a0_1) := (blk_cell BK211.out 1).trans rfl
                have hcz15_2 : w3.cell? ⟨gb211, 2, none⟩ = some (.int .i64 a0_2) := (blk_cell BK211.out 2).trans rfl
                have hcz15_3 : w3.cell? ⟨gb211, 3, none⟩ = some (.int .i64 a0_3) := (blk_cell BK211.out 3).trans rfl
                have hcz15_4 : w3.cell? ⟨gb211, 4, none⟩ = some (.int .i64 a0_4) := (blk_cell BK211.out 4).trans rfl
                have hcz15_5 : w3.cell? ⟨gb211, 5, none⟩ = some (.string a0_5) := (blk_cell BK211.out 5).trans rfl
                have hcz15_6 : w3.cell? ⟨gb211, 6, none⟩ = some (.bool a0_6) := (blk_cell BK211.out 6).trans rfl
                have hcz15_7 : w3.cell? ⟨gb211, 7, none⟩ = some (.string a0_7) := (blk_cell BK211.out 7).trans rfl
                have hcz15_8 : w3.cell? ⟨gb211, 8, none⟩ = some (.bool a0_8) := (blk_cell BK211.out 8).trans rfl
                have hcz15_9 : w3.cell? ⟨gb211, 9, none⟩ = some (.string a0_9) := (blk_cell BK211.out 9).trans rfl
                have hcz15_10 : w3.cell? ⟨gb211, 10, none⟩ = some (.int .i64 a0_10) := (blk_cell BK211.out 10).trans rfl
                have hfz15_0 := blk_frozen BK211.out 0
                have hfz15_1 := blk_frozen BK211.out 1
                have hfz15_2 := blk_frozen BK211.out 2
                have hfz15_3 := blk_frozen BK211.out 3
                have hfz15_4 := blk_frozen BK211.out 4
                have hfz15_5 := blk_frozen BK211.out 5
                have hfz15_6 := blk_frozen BK211.out 6
                have hfz15_7 := blk_frozen BK211.out 7
                have hfz15_8 := blk_frozen BK211.out 8
                have hfz15_9 := blk_frozen BK211.out 9
                have hfz15_10 := blk_frozen BK211.out 10
                go_wp2
                go_meet
                case rel => exact ⟨_, (true), (by first | rfl | (simp; done) | (simp [*]; done)), H', ⟨by first | omega | exact Nat.le_refl _⟩, ⟨by (with_reducible repeat (first | refine blk_drewN ?_ _ | refine blk_drew ?_ | refine blk_alloc ?_ _)); exact BK211.out⟩, ⟨by repeat (first | (with_reducible first | exact HB.out | apply below_alloc | apply pw_below_drewN | apply below_drew1 | refine below_set ?_ GE211.out) | exact HB.out)⟩⟩
              · rw [if_neg c14] at H
                have c14b0 : decide (4611686018427387903 < a0_1) = false := decide_eq_false c14
                clear c14
                by_cases c16 : a0_3 < 0
                · rw [if_pos c16] at H
                  have c16b0 : decide (a0_3 < 0) = true := decide_eq_true c16
                  clear c16
                  have H' := Aside0.mk H
                  clear H
                  have hcz17_0 : w3.cell? ⟨gb211, 0, none⟩ = some (.int .i64 a0_0) := (blk_cell BK211.out 0).trans rfl
                  have hcz17_1 : w3.cell? ⟨gb211, 1, none⟩ = some (.int .i64 a0_1) := (blk_cell BK211.out 1).trans rfl
                  have hcz17_2 : w3.cell? ⟨gb211, 2, none⟩ = some (.int .i64 a0_2) := (blk_cell BK211.out 2).trans rfl
                  have hcz17_3 : w3.cell? ⟨gb211, 3, none⟩ = some (.int .i64 a0_3) := (blk_cell BK211.out 3).trans rfl
                  have hcz17_4 : w3.cell? ⟨gb211, 4, none⟩ = some (.int .i64 a0_4) := (blk_cell BK211.out 4).trans rfl
                  have hcz17_5 : w3.cell? ⟨gb211, 5, none⟩ = some (.string a0_5) := (blk_cell BK211.out 5).trans rfl
                  have hcz17_6 : w3.cell? ⟨gb211, 6, none⟩ = some (.bool a0_6) := (blk_cell BK211.out 6).trans rfl
                  have hcz17_7 : w3.cell? ⟨gb211, 7, none⟩ = some (.string a0_7) := (blk_cell BK211.out 7).trans rfl
                  have hcz17_8 : w3.cell? ⟨gb211, 8, none⟩ = some (.bool a0_8) := (blk_cell BK211.out 8).trans rfl
                  have hcz17_9 : w3.cell? ⟨gb211, 9, none⟩ = some (.string a0_9) := (blk_cell BK211.out 9).trans rfl
                  have hcz17_10 : w3.cell? ⟨gb211, 10, none⟩ = some (.int .i64 a0_10) := (blk_cell BK211.out 10).trans rfl
                  have hfz17_0 := blk_frozen BK211.out 0
                  have hfz17_1 := blk_frozen BK211.out 1
                  have hfz17_2 := blk_frozen BK211.out 2
                  have hfz17_3 := blk_frozen BK211.out 3
                  have hfz17_4 := blk_frozen BK211.out 4
                  have hfz17_5 := blk_frozen BK211.out 5
                  have hfz17_6 := blk_frozen BK211.out 6
                  have hfz17_7 := blk_frozen BK211.out 7
                  have hfz17_8 := blk_frozen BK211.out 8
                  have hfz17_9 := blk_frozen BK211.out 9
                  have hfz17_10 := blk_frozen BK211.out 10
                  go_wp2
                  go_meet
                  case rel => exact ⟨_, (true), (by first | rfl | (simp; done) | (simp [*]; done)), H', ⟨by first | omega | exact Nat.le_refl _⟩, ⟨by (with_reducible repeat (first | refine blk_drewN ?_ _ | refine blk_drew ?_ | refine blk_alloc ?_ _)); exact BK211.out⟩, ⟨by repeat (first | (with_reducible first | exact HB.out | apply below_alloc | apply pw_below_drewN | apply below_drew1 | refine below_set ?_ GE211.out) | exact HB.out)⟩⟩
                · rw [if_neg c16] at H
                  have c16b0 : decide (a0_3 < 0) = false := decide_eq_false c16
                  clear c16
                  by_cases c18 : a0_3 ≥ a0_1
                  · rw [if_pos c18] at H
                    have c18b0 : decide (a0_1 ≤ a0_3) = true := decide_eq_true c18
                    clear c18
                    have H' := Aside0.mk H
                    clear H
                    have hcz19_0 : w3.cell? ⟨gb211, 0, none⟩ = some (.int .i64 a0_0) := (blk_cell BK211.out 0).trans rfl
                    have hcz19_1 : w3.cell? ⟨gb211, 1, none⟩ = some (.int .i64 a0_1) := (blk_cell BK211.out 1).trans rfl
                    have hcz19_2 : w3.cell? ⟨gb211, 2, none⟩ = some (.int .i64 a0_2) := (blk_cell BK211.out 2).trans rfl
                    have hcz19_3 : w3.cell? ⟨gb211, 3, none⟩ = some (.int .i64 a0_3) := (blk_cell BK211.out 3).trans rfl
                    have hcz19_4 : w3.cell? ⟨gb211, 4, none⟩ = some (.int .i64 a0_4) := (blk_cell BK211.out 4).trans rfl
                    have hcz19_5 : w3.cell? ⟨gb211, 5, none⟩ = some (.string a0_5) := (blk_cell BK211.out 5).trans rfl
                    have hcz19_6 : w3.cell? ⟨gb211, 6, none⟩ = some (.bool a0_6) := (blk_cell BK211.out 6).trans rfl
                    have hcz19_7 : w3.cell? ⟨gb211, 7, none⟩ = some (.string a0_7) := (blk_cell BK211.out 7).trans rfl
                    have hcz19_8 : w3.cell? ⟨gb211, 8, none⟩ = some (.bool a0_8) := (blk_cell BK211.out 8).trans rfl
                    have hcz19_9 : w3.cell? ⟨gb211, 9, none⟩ = some (.string a0_9) := (blk_cell BK211.out 9).trans rfl
                    have hcz19_10 : w3.cell? ⟨gb211, 10, none⟩ = some (.int .i64 a0_10) := (blk_cell BK211.out 10).trans rfl
                    have hfz19_0 := blk_frozen BK211.out 0
                    have hfz19_1 := blk_frozen BK211.out 1
                    have hfz19_2 := blk_frozen BK211.out 2
                    have hfz19_3 := blk_frozen BK211.out 3
                    have hfz19_4 := blk_frozen BK211.out 4
                    have hfz19_5 := blk_frozen BK211.out 5
                    have hfz19_6 := blk_frozen BK211.out 6
                    have hfz19_7 := blk_frozen BK211.out 7
                    have hfz19_8 := blk_frozen BK211.out 8
                    have hfz19_9 := blk_frozen BK211.out 9
                    have hfz19_10 := blk_frozen BK211.out 10
                    go_wp2
                    go_meet
                    case rel => exact ⟨_, (true), (by first | rfl | (simp; done) | (simp [*]; done)), H', ⟨by first | omega | exact Nat.le_refl _⟩, ⟨by (with_reducible repeat (first | refine blk_drewN ?_ _ | refine blk_drew ?_ | refine blk_alloc ?_ _)); exact BK211.out⟩, ⟨by repeat (first | (with_reducible first | exact HB.out | apply below_alloc | apply pw_below_drewN | apply below_drew1 | refine below_set ?_ GE211.out) | exact HB.out)⟩⟩
                  · rw [if_neg c18] at H
                    have c18b0 : decide (a0_1 ≤ a0_3) = false := decide_eq_false c18
                    clear c18
                    have H' := Aside0.mk H
                    clear H
                    have hcz20_0 : w3.cell? ⟨gb211, 0, none⟩ = some (.int .i64 a0_0) := (blk_cell BK211.out 0).trans rfl
                    have hcz20_1 : w3.cell? ⟨gb211, 1, none⟩ = some (.int .i64 a0_1) := (blk_cell BK211.out 1).trans rfl
                    have hcz20_2 : w3.cell? ⟨gb211, 2, none⟩ = some (.int .i64 a0_2) := (blk_cell BK211.out 2).trans rfl
                    have hcz20_3 : w3.cell? ⟨gb211, 3, none⟩ = some (.int .i64 a0_3) := (blk_cell BK211.out 3).trans rfl
                    have hcz20_4 : w3.cell? ⟨gb211, 4, none⟩ = some (.int .i64 a0_4) := (blk_cell BK211.out 4).trans rfl
                    have hcz20_5 : w3.cell? ⟨gb211, 5, none⟩ = some (.string a0_5) := (blk_cell BK211.out 5).trans rfl
                    have hcz20_6 : w3.cell? ⟨gb211, 6, none⟩ = some (.bool a0_6) := (blk_cell BK211.out 6).trans rfl
                    have hcz20_7 : w3.cell? ⟨gb211, 7, none⟩ = some (.string a0_7) := (blk_cell BK211.out 7).trans rfl
                    have hcz20_8 : w3.cell? ⟨gb211, 8, none⟩ = some (.bool a0_8) := (blk_cell BK211.out 8).trans rfl
                    have hcz20_9 : w3.cell? ⟨gb211, 9, none⟩ = some (.string a0_9) := (blk_cell BK211.out 9).trans rfl
                    have hcz20_10 : w3.cell? ⟨gb211, 10, none⟩ = some (.int .i64 a0_10) := (blk_cell BK211.out 10).trans rfl
                    have hfz20_0 := blk_frozen BK211.out 0
                    have hfz20_1 := blk_frozen BK211.out 1
                    have hfz20_2 := blk_frozen BK211.out 2
                    have hfz20_3 := blk_frozen BK211.out 3
                    have hfz20_4 := blk_frozen BK211.out 4
                    have hfz20_5 := blk_frozen BK211.out 5
                    have hfz20_6 := blk_frozen BK211.out 6
                    have hfz20_7 := blk_frozen BK211.out 7
                    have hfz20_8 := blk_frozen BK211.out 8
                    have hfz20_9 := blk_frozen BK211.out 9
                    have hfz20_10 := blk_frozen BK211.out 10
                    go_wp2
                    go_meet
                    case rel => exact ⟨_, (((a0_3 == 0) != (a0_0 == 1))), (by first | rfl | (simp; done) | (simp [*]; done)), H', ⟨by first | omega | exact Nat.le_refl _⟩, ⟨by (with_reducible repeat (first | refine blk_drewN ?_ _ | refine blk_drew ?_ | refine blk_alloc ?_ _)); exact BK211.out⟩, ⟨by repeat (first | (with_reducible first | exact HB.out | apply below_alloc | apply pw_below_drewN | apply below_drew1 | refine below_set ?_ GE211.out) | exact HB.out)⟩⟩
  case rest =>
    clear HC2
    try clear c1
    try clear p2
    try clear c4
    try clear c4b0
    try clear c6
    try clear c6b0
    try clear c8
    try clear c8b0
    try clear c10
    try clear c10b0
    try clear c11
    try clear c12
    try clear c12b0
    try clear c14
    try clear c14b0
    try clear c16
    try clear c16b0
    try clear c18
    try clear c18b0
    try clear hcz11_0
    try clear hcz11_1
    try clear hcz11_10
    try clear hcz11_2
    try clear hcz11_3
    try clear hcz11_4
    try clear hcz11_5
    try clear hcz11_6
    try clear hcz11_7
    try clear hcz11_8
    try clear hcz11_9
    try clear hcz13_0
    try clear hcz13_1
    try clear hcz13_10
    try clear hcz13_2
    try clear hcz13_3
    try clear hcz13_4
    try clear hcz13_5
    try clear hcz13_6
    try clear hcz13_7
    try clear hcz13_8
    try clear hcz13_9
    try clear hcz15_0
    try clear hcz15_1
    try clear hcz15_10
    try clear hcz15_2
    try clear hcz15_3
    try clear hcz15_4
    try clear hcz15_5
    try clear hcz15_6
    try clear hcz15_7
    try clear hcz15_8
    try clear hcz15_9
    try clear hcz17_0
    try clear hcz17_1
    try clear hcz17_10
    try clear hcz17_2
    try clear hcz17_3
    try clear hcz17_4
    try clear hcz17_5
    try clear hcz17_6
    try clear hcz17_7
    try clear hcz17_8
    try clear hcz17_9
    try clear hcz19_0
    try clear hcz19_1
    try clear hcz19_10
    try clear hcz19_2
    try clear hcz19_3
    try clear hcz19_4
    try clear hcz19_5
    try clear hcz19_6
    try clear hcz19_7
    try clear hcz19_8
    try clear hcz19_9
    try clear hcz20_0
    try clear hcz20_1
    try clear hcz20_10
    try clear hcz20_2
    try clear hcz20_3
    try clear hcz20_4
    try clear hcz20_5
    try clear hcz20_6
    try clear hcz20_7
    try clear hcz20_8
    try clear hcz20_9
    try clear hcz5_0
    try clear hcz5_1
    try clear hcz5_10
    try clear hcz5_2
    try clear hcz5_3
    try clear hcz5_4
    try clear hcz5_5
    try clear hcz5_6
    try clear hcz5_7
    try clear hcz5_8
    try clear hcz5_9
    try clear hcz7_0
    try clear hcz7_1
    try clear hcz7_10
    try clear hcz7_2
    try clear hcz7_3
    try clear hcz7_4
    try clear hcz7_5
    try clear hcz7_6
    try clear hcz7_7
    try clear hcz7_8
    try clear hcz7_9
    try clear hcz9_0
    try clear hcz9_1
    try clear hcz9_10
    try clear hcz9_2
    try clear hcz9_3
    try clear hcz9_4
    try clear hcz9_5
    try clear hcz9_6
    try clear hcz9_7
    try clear hcz9_8
    try clear hcz9_9
    try clear hfz11_0
    try clear hfz11_1
    try clear hfz11_10
    try clear hfz11_2
    try clear hfz11_3
    try clear hfz11_4
    try clear hfz11_5
    try clear hfz11_6
    try clear hfz11_7
    try clear hfz11_8
    try clear hfz11_9
    try clear hfz13_0
    try clear hfz13_1
    try clear hfz13_10
    try clear hfz13_2
    try clear hfz13_3
    try clear hfz13_4
    try clear hfz13_5
    try clear hfz13_6
    try clear hfz13_7
    try clear hfz13_8
    try clear hfz13_9
    try clear hfz15_0
    try clear hfz15_1
    try clear hfz15_10
    try clear hfz15_2
    try clear hfz15_3
    try clear hfz15_4
    try clear hfz15_5
    try clear hfz15_6
    try clear hfz15_7
    try clear hfz15_8
    try clear hfz15_9
    try clear hfz17_0
    try clear hfz17_1
    try clear hfz17_10
    try clear hfz17_2
    try clear hfz17_3
    try clear hfz17_4
    try clear hfz17_5
    try clear hfz17_6
    try clear hfz17_7
    try clear hfz17_8
    try clear hfz17_9
    try clear hfz19_0
    try clear hfz19_1
    try clear hfz19_10
    try clear hfz19_2
    try clear hfz19_3
    try clear hfz19_4
    try clear hfz19_5
    try clear hfz19_6
    try clear hfz19_7
    try clear hfz19_8
    try clear hfz19_9
    try clear hfz20_0
    try clear hfz20_1
    try clear hfz20_10
    try clear hfz20_2
    try clear hfz20_3
    try clear hfz20_4
    try clear hfz20_5
    try clear hfz20_6
    try clear hfz20_7
    try clear hfz20_8
    try clear hfz20_9
    try clear hfz5_0
    try clear hfz5_1
    try clear hfz5_10
    try clear hfz5_2
    try clear hfz5_3
    try clear hfz5_4
    try clear hfz5_5
    try clear hfz5_6
    try clear hfz5_7
    try clear hfz5_8
    try clear hfz5_9
    try clear hfz7_0
    try clear hfz7_1
    try clear hfz7_10
    try clear hfz7_2
    try clear hfz7_3
    try clear hfz7_4
    try clear hfz7_5
    try clear hfz7_6
    try clear hfz7_7
    try clear hfz7_8
    try clear hfz7_9
    try clear hfz9_0
    try clear hfz9_1
    try clear hfz9_10
    try clear hfz9_2
    try clear hfz9_3
    try clear hfz9_4
    try clear hfz9_5
    try clear hfz9_6
    try clear hfz9_7
    try clear hfz9_8
    try clear hfz9_9
    obtain ⟨kq, x51_1, rfl, HA, HJ1, BK211, HB⟩ := hcut
    cases kq with
    | zero => exact absurd HA.out (by simp [quadrigaref04_Right.j0])
    | succ kj1 =>
      have H := HA.out
      clear HA
      simp only [quadrigaref04_Right.j0] at H
      by_cases c21 : x51_1 = true
      · subst c21
        have H1 : (some false) = some r := by rw [if_pos rfl] at H; exact H
        clear H
        have H := H1
        clear H1
        obtain rfl := Option.some.inj H
        go_wp2
        go_ret
        exact ⟨by first | rfl | (simp [errW_none, errW_some] <;> rfl) | (simp [*, errW_none, errW_some] <;> rfl), by repeat (first | (with_reducible first | exact HB.out | apply below_alloc | apply pw_below_drewN | apply below_drew1 | refine below_set ?_ GE211.out) | exact HB.out)⟩
      · replace c21 := Bool.eq_false_iff.mpr c21
        subst c21
        have H1 : ((quadrigaref04_page.f a0_0).bind fun t212 => (if t212 = true then (if a0_4 < 0 then (quadrigaref04_Right.j1 kj1 true a0_0 a0_1 a0_2 a0_3 a0_4 a0_5 a0_6 a0_7 a0_8 a0_9 a0_10) else (if a0_4 > 63 then (quadrigaref04_Right.j1 kj1 true a0_0 a0_1 a0_2 a0_3 a0_4 a0_5 a0_6 a0_7 a0_8 a0_9 a0_10) else ((quadrigaref04_Key.f a0_5).bind fun t213 => (if t213 = true then ((quadrigaref04_Value.f a0_6 a0_7).bind fun t214 => (if t214 = true then ((quadrigaref04_Value.f a0_8 a0_9).bind fun t215 => (if t215 = true then (quadrigaref04_Right.j1 kj1 (a0_6 == a0_8 && (a0_7.toList == a0_9.toList)) a0_0 a0_1 a0_2 a0_3 a0_4 a0_5 a0_6 a0_7 a0_8 a0_9 a0_10) else (quadrigaref04_Right.j1 kj1 true a0_0 a0_1 a0_2 a0_3 a0_4 a0_5 a0_6 a0_7 a0_8 a0_9 a0_10))) else (quadrigaref04_Right.j1 kj1 true a0_0 a0_1 a0_2 a0_3 a0_4 a0_5 a0_6 a0_7 a0_8 a0_9 a0_10))) else (quadrigaref04_Right.j1 kj1 true a0_0 a0_1 a0_2 a0_3 a0_4 a0_5 a0_6 a0_7 a0_8 a0_9 a0_10))))) else (quadrigaref04_Right.j1 kj1 false a0_0 a0_1 a0_2 a0_3 a0_4 a0_5 a0_6 a0_7 a0_8 a0_9 a0_10))) = some r := by rw [if_neg (show ¬ (false = true) by decide)] at H; exact H
        clear H
        have H := H1
        clear H1
        have HC22 := Aside0.mk H
        clear H
        go_upto_region 3 with (fail)
        go_cut [89] (fun v89 wc => ∃ (kq : Nat) (x89_21 : Bool), v89 = .bool x89_21 ∧ Aside0 (quadrigaref04_Right.j1 kq x89_21 a0_0 a0_1 a0_2 a0_3 a0_4 a0_5 a0_6 a0_7 a0_8 a0_9 a0_10 = some r) ∧ Aside0 (kq ≤ kj1) ∧ Aside0 (wc.heap[gb211]? = some (.cells #[.int .i64 a0_0, .int .i64 a0_1, .int .i64 a0_2, .int .i64 a0_3, .int .i64 a0_4, .string a0_5, .bool a0_6, .string a0_7, .bool a0_8, .string a0_9, .int .i64 a0_10] 25 (0, 0))) ∧ Aside0 (Below w.heap.size w wc))
        case first =>
          have H := HC22.out
          clear HC22
          replace H := Option.bind_eq_some_iff.mp H
          obtain ⟨t212, A230, H⟩ := H
          replace H : (if t212 = true then (if a0_4 < 0 then (quadrigaref04_Right.j1 kj1 true a0_0 a0_1 a0_2 a0_3 a0_4 a0_5 a0_6 a0_7 a0_8 a0_9 a0_10) else (if a0_4 > 63 then (quadrigaref04_Right.j1 kj1 true a0_0 a0_1 a0_2 a0_3 a0_4 a0_5 a0_6 a0_7 a0_8 a0_9 a0_10) else ((quadrigaref04_Key.f a0_5).bind fun t213 => (if t213 = true then ((quadrigaref04_Value.f a0_6 a0_7).bind fun t214 => (if t214 = true then ((quadrigaref04_Value.f a0_8 a0_9).bind fun t215 => (if t215 = true then (quadrigaref04_Right.j1 kj1 (a0_6 == a0_8 && (a0_7.toList == a0_9.toList)) a0_0 a0_1 a0_2 a0_3 a0_4 a0_5 a0_6 a0_7 a0_8 a0_9 a0_10) else (quadrigaref04_Right.j1 kj1 true a0_0 a0_1 a0_2 a0_3 a0_4 a0_5 a0_6 a0_7 a0_8 a0_9 a0_10))) else (quadrigaref04_Right.j1 kj1 true a0_0 a0_1 a0_2 a0_3 a0_4 a0_5 a0_6 a0_7 a0_8 a0_9 a0_10))) else (quadrigaref04_Right.j1 kj1 true a0_0 a0_1 a0_2 a0_3 a0_4 a0_5 a0_6 a0_7 a0_8 a0_9 a0_10))))) else (quadrigaref04_Right.j1 kj1 false a0_0 a0_1 a0_2 a0_3 a0_4 a0_5 a0_6 a0_7 a0_8 a0_9 a0_10)) = some r := H
          have A23 := Aside0.mk A230
          clear A230
          by_cases c24 : t212 = true
          · subst c24
            have H1 : (if a0_4 < 0 then (quadrigaref04_Right.j1 kj1 true a0_0 a0_1 a0_2 a0_3 a0_4 a0_5 a0_6 a0_7 a0_8 a0_9 a0_10) else (if a0_4 > 63 then (quadrigaref04_Right.j1 kj1 true a0_0 a0_1 a0_2 a0_3 a0_4 a0_5 a0_6 a0_7 a0_8 a0_9 a0_10) else ((quadrigaref04_Key.f a0_5).bind fun t213 => (if t213 = true then ((quadrigaref04_Value.f a0_6 a0_7).bind fun t214 => (if t214 = true then ((quadrigaref04_Value.f a0_8 a0_9).bind fun t215 => (if t215 = true then (quadrigaref04_Right.j1 kj1 (a0_6 == a0_8 && (a0_7.toList == a0_9.toList)) a0_0 a0_1 a0_2 a0_3 a0_4 a0_5 a0_6 a0_7 a0_8 a0_9 a0_10) else (quadrigaref04_Right.j1 kj1 true a0_0 a0_1 a0_2 a0_3 a0_4 a0_5 a0_6 a0_7 a0_8 a0_9 a0_10))) else (quadrigaref04_Right.j1 kj1 true a0_0 a0_1 a0_2 a0_3 a0_4 a0_5 a0_6 a0_7 a0_8 a0_9 a0_10))) else (quadrigaref04_Right.j1 kj1 true a0_0 a0_1 a0_2 a0_3 a0_4 a0_5 a0_6 a0_7 a0_8 a0_9 a0_10))))) = some r := by rw [if_pos rfl] at H; exact H
            clear H
            have H := H1
            clear H1
            by_cases c25 : a0_4 < 0
            · rw [if_pos c25] at H
              have c25b0 : decide (a0_4 < 0) = true := decide_eq_true c25
              clear c25
              (first | rw [c25b0] | (simp only [i64_w, i32_w]; rw [c25b0]) | skip)
              have H' := Aside0.mk H
              clear H
              have hcz26_0 : wc.cell? ⟨gb211, 0, none⟩ = some (.int .i64 a0_0) := (blk_cell BK211.out 0).trans rfl
              have hcz26_1 : wc.cell? ⟨gb211, 1, none⟩ = some (.int .i64 a0_1) := (blk_cell BK211.out 1).trans rfl
              have hcz26_2 : wc.cell? ⟨gb211, 2, none⟩ = some (.int .i64 a0_2) := (blk_cell BK211.out 2).trans rfl
              have hcz26_3 : wc.cell? ⟨gb211, 3, none⟩ = some (.int .i64 a0_3) := (blk_cell BK211.out 3).trans rfl
              have hcz26_4 : wc.cell? ⟨gb211, 4, none⟩ = some (.int .i64 a0_4) := (blk_cell BK211.out 4).trans rfl
              have hcz26_5 : wc.cell? ⟨gb211, 5, none⟩ = some (.string a0_5) := (blk_cell BK211.out 5).trans rfl
              have hcz26_6 : wc.cell? ⟨gb211, 6, none⟩ = some (.bool a0_6) := (blk_cell BK211.out 6).trans rfl
              have hcz26_7 : wc.cell? ⟨gb211, 7, none⟩ = some (.string a0_7) := (blk_cell BK211.out 7).trans rfl
              have hcz26_8 : wc.cell? ⟨gb211, 8, none⟩ = some (.bool a0_8) := (blk_cell BK211.out 8).trans rfl
              have hcz26_9 : wc.cell? ⟨gb211, 9, none⟩ = some (.string a0_9) := (blk_cell BK211.out 9).trans rfl
              have hcz26_10 : wc.cell? ⟨gb211, 10, none⟩ = some (.int .i64 a0_10) := (blk_cell BK211.out 10).trans rfl
              have hfz26_0 := blk_frozen BK211.out 0
              have hfz26_1 := blk_frozen BK211.out 1
              have hfz26_2 := blk_frozen BK211.out 2
              have hfz26_3 := blk_frozen BK211.out 3
              have hfz26_4 := blk_frozen BK211.out 4
              have hfz26_5 := blk_frozen BK211.out 5
              have hfz26_6 := blk_frozen BK211.out 6
              have hfz26_7 := blk_frozen BK211.out 7
              have hfz26_8 := blk_frozen BK211.out 8
              have hfz26_9 := blk_frozen BK211.out 9
              have hfz26_10 := blk_frozen BK211.out 10
              go_wp2_with (first | ((with_reducible refine gate_callee (f := 30) rfl ?_); refine goesL_ (some 54) rfl rfl Tryd.func30 (by kernel_rfl) rfl #[.int .i64 a0_0] rfl (by (try simp only [List.map_toArray, List.map_cons, List.map_nil]); first | done | rfl | (simp only [List.length_drop, List.length_take]; rfl)) ?_; (with_reducible refine (quadrigaref04_page.calls a0_0 true _ A23.out).mono ?_); rintro e w' ⟨rfl, ⟨nd, rfl⟩⟩; refine ⟨_, rfl, ?_⟩))
              go_meet
              case rel => exact ⟨_, (true), (by first | rfl | (simp; done) | (simp [*]; done)), H', ⟨by have := HJ1.out; first | omega | exact Nat.le_refl _⟩, ⟨by (with_reducible repeat (first | refine blk_drewN ?_ _ | refine blk_drew ?_ | refine blk_alloc ?_ _)); exact BK211.out⟩, ⟨by repeat (first | (with_reducible first | exact HB.out | apply below_alloc | apply pw_below_drewN | apply below_drew1 | refine below_set ?_ GE211.out) | exact HB.out)⟩⟩
            · rw [if_neg c25] at H
              have c25b0 : decide (a0_4 < 0) = false := decide_eq_false c25
              clear c25
              (first | rw [c25b0] | (simp only [i64_w, i32_w]; rw [c25b0]) | skip)
              by_cases c27 : a0_4 > 63
              · rw [if_pos c27] at H
                have c27b0 : decide (63 < a0_4) = true := decide_eq_true c27
                clear c27
                have H' := Aside0.mk H
                clear H
                have hcz28_0 : wc.cell? ⟨gb211, 0, none⟩ = some (.int .i64 a0_0) := (blk_cell BK211.out 0).trans rfl
                have hcz28_1 : wc.cell? ⟨gb211, 1, none⟩ = some (.int .i64 a0_1) := (blk_cell BK211.out 1).trans rfl
                have hcz28_2 : wc.cell? ⟨gb211, 2, none⟩ = some (.int .i64 a0_2) := (blk_cell BK211.out 2).trans rfl
                have hcz28_3 : wc.cell? ⟨gb211, 3, none⟩ = some (.int .i64 a0_3) := (blk_cell BK211.out 3).trans rfl
                have hcz28_4 : wc.cell? ⟨gb211, 4, none⟩ = some (.int .i64 a0_4) := (blk_cell BK211.out 4).trans rfl
                have hcz28_5 : wc.cell? ⟨gb211, 5, none⟩ = some (.string a0_5) := (blk_cell BK211.out 5).trans rfl
                have hcz28_6 : wc.cell? ⟨gb211, 6, none⟩ = some (.bool a0_6) := (blk_cell BK211.out 6).trans rfl
                have hcz28_7 : wc.cell? ⟨gb211, 7, none⟩ = some (.string a0_7) := (blk_cell BK211.out 7).trans rfl
                have hcz28_8 : wc.cell? ⟨gb211, 8, none⟩ = some (.bool a0_8) := (blk_cell BK211.out 8).trans rfl
                have hcz28_9 : wc.cell? ⟨gb211, 9, none⟩ = some (.string a0_9) := (blk_cell BK211.out 9).trans rfl
                have hcz28_10 : wc.cell? ⟨gb211, 10, none⟩ = some (.int .i64 a0_10) := (blk_cell BK211.out 10).trans rfl
                have hfz28_0 := blk_frozen BK211.out 0
                have hfz28_1 := blk_frozen BK211.out 1
                have hfz28_2 := blk_frozen BK211.out 2
                have hfz28_3 := blk_frozen BK211.out 3
                have hfz28_4 := blk_frozen BK211.out 4
                have hfz28_5 := blk_frozen BK211.out 5
                have hfz28_6 := blk_frozen BK211.out 6
                have hfz28_7 := blk_frozen BK211.out 7
                have hfz28_8 := blk_frozen BK211.out 8
                have hfz28_9 := blk_frozen BK211.out 9
                have hfz28_10 := blk_frozen BK211.out 10
                go_wp2_with (first | ((with_reducible refine gate_callee (f := 30) rfl ?_); refine goesL_ (some 54) rfl rfl Tryd.func30 (by kernel_rfl) rfl #[.int .i64 a0_0] rfl (by (try simp only [List.map_toArray, List.map_cons, List.map_nil]); first | done | rfl | (simp only [List.length_drop, List.length_take]; rfl)) ?_; (with_reducible refine (quadrigaref04_page.calls a0_0 true _ A23.out).mono ?_); rintro e w' ⟨rfl, ⟨nd, rfl⟩⟩; refine ⟨_, rfl, ?_⟩))
                go_meet
                case rel => exact ⟨_, (true), (by first | rfl | (simp; done) | (simp [*]; done)), H', ⟨by have := HJ1.out; first | omega | exact Nat.le_refl _⟩, ⟨by (with_reducible repeat (first | refine blk_drewN ?_ _ | refine blk_drew ?_ | refine blk_alloc ?_ _)); exact BK211.out⟩, ⟨by repeat (first | (with_reducible first | exact HB.out | apply below_alloc | apply pw_below_drewN | apply below_drew1 | refine below_set ?_ GE211.out) | exact HB.out)⟩⟩
              · rw [if_neg c27] at H
                have c27b0 : decide (63 < a0_4) = false := decide_eq_false c27
                clear c27
                replace H := Option.bind_eq_some_iff.mp H
                obtain ⟨t213, A290, H⟩ := H
                replace H : (if t213 = true then ((quadrigaref04_Value.f a0_6 a0_7).bind fun t214 => (if t214 = true then ((quadrigaref04_Value.f a0_8 a0_9).bind fun t215 => (if t215 = true then (quadrigaref04_Right.j1 kj1 (a0_6 == a0_8 && (a0_7.toList == a0_9.toList)) a0_0 a0_1 a0_2 a0_3 a0_4 a0_5 a0_6 a0_7 a0_8 a0_9 a0_10) else (quadrigaref04_Right.j1 kj1 true a0_0 a0_1 a0_2 a0_3 a0_4 a0_5 a0_6 a0_7 a0_8 a0_9 a0_10))) else (quadrigaref04_Right.j1 kj1 true a0_0 a0_1 a0_2 a0_3 a0_4 a0_5 a0_6 a0_7 a0_8 a0_9 a0_10))) else (quadrigaref04_Right.j1 kj1 true a0_0 a0_1 a0_2 a0_3 a0_4 a0_5 a0_6 a0_7 a0_8 a0_9 a0_10)) = some r := H
                have A29 := Aside0.mk A290
                clear A290
                by_cases c30 : t213 = true
                · subst c30
                  have H1 : ((quadrigaref04_Value.f a0_6 a0_7).bind fun t214 => (if t214 = true then ((quadrigaref04_Value.f a0_8 a0_9).bind fun t215 => (if t215 = true then (quadrigaref04_Right.j1 kj1 (a0_6 == a0_8 && (a0_7.toList == a0_9.toList)) a0_0 a0_1 a0_2 a0_3 a0_4 a0_5 a0_6 a0_7 a0_8 a0_9 a0_10) else (quadrigaref04_Right.j1 kj1 true a0_0 a0_1 a0_2 a0_3 a0_4 a0_5 a0_6 a0_7 a0_8 a0_9 a0_10))) else (quadrigaref04_Right.j1 kj1 true a0_0 a0_1 a0_2 a0_3 a0_4 a0_5 a0_6 a0_7 a0_8 a0_9 a0_10))) = some r := by rw [if_pos rfl] at H; exact H
                  clear H
                  have H := H1
                  clear H1
                  replace H := Option.bind_eq_some_iff.mp H
                  obtain ⟨t214, A310, H⟩ := H
                  replace H : (if t214 = true then ((quadrigaref04_Value.f a0_8 a0_9).bind fun t215 => (if t215 = true then (quadrigaref04_Right.j1 kj1 (a0_6 == a0_8 && (a0_7.toList == a0_9.toList)) a0_0 a0_1 a0_2 a0_3 a0_4 a0_5 a0_6 a0_7 a0_8 a0_9 a0_10) else (quadrigaref04_Right.j1 kj1 true a0_0 a0_1 a0_2 a0_3 a0_4 a0_5 a0_6 a0_7 a0_8 a0_9 a0_10))) else (quadrigaref04_Right.j1 kj1 true a0_0 a0_1 a0_2 a0_3 a0_4 a0_5 a0_6 a0_7 a0_8 a0_9 a0_10)) = some r := H
                  have A31 := Aside0.mk A310
                  clear A310
                  by_cases c32 : t214 = true
                  · subst c32
                    have H1 : ((quadrigaref04_Value.f a0_8 a0_9).bind fun t215 => (if t215 = true then (quadrigaref04_Right.j1 kj1 (a0_6 == a0_8 && (a0_7.toList == a0_9.toList)) a0_0 a0_1 a0_2 a0_3 a0_4 a0_5 a0_6 a0_7 a0_8 a0_9 a0_10) else (quadrigaref04_Right.j1 kj1 true a0_0 a0_1 a0_2 a0_3 a0_4 a0_5 a0_6 a0_7 a0_8 a0_9 a0_10))) = some r := by rw [if_pos rfl] at H; exact H
                    clear H
                    have H := H1
                    clear H1
                    replace H := Option.bind_eq_some_iff.mp H
                    obtain ⟨t215, A330, H⟩ := H
                    replace H : (if t215 = true then (quadrigaref04_Right.j1 kj1 (a0_6 == a0_8 && (a0_7.toList == a0_9.toList)) a0_0 a0_1 a0_2 a0_3 a0_4 a0_5 a0_6 a0_7 a0_8 a0_9 a0_10) else (quadrigaref04_Right.j1 kj1 true a0_0 a0_1 a0_2 a0_3 a0_4 a0_5 a0_6 a0_7 a0_8 a0_9 a0_10)) = some r := H
                    have A33 := Aside0.mk A330
                    clear A330
                    by_cases c34 : t215 = true
                    · subst c34
                      have H1 : (quadrigaref04_Right.j1 kj1 (a0_6 == a0_8 && (a0_7.toList == a0_9.toList)) a0_0 a0_1 a0_2 a0_3 a0_4 a0_5 a0_6 a0_7 a0_8 a0_9 a0_10) = some r := by rw [if_pos rfl] at H; exact H
                      clear H
                      have H := H1
                      clear H1
                      have H' := Aside0.mk H
                      clear H
                      have hcz35_0 : wc.cell? ⟨gb211, 0, none⟩ = some (.int .i64 a0_0) := (blk_cell BK211.out 0).trans rfl
                      have hcz35_1 : wc.cell? ⟨gb211, 1, none⟩ = some (.int .i64 a0_1) := (blk_cell BK211.out 1).trans rfl
                      have hcz35_2 : wc.cell? ⟨gb211, 2, none⟩ = some (.int .i64 a0_2) := (blk_cell BK211.out 2).trans rfl
                      have hcz35_3 : wc.cell? ⟨gb211, 3, none⟩ = some (.int .i64 a0_3) := (blk_cell BK211.out 3).trans rfl
                      have hcz35_4 : wc.cell? ⟨gb211, 4, none⟩ = some (.int .i64 a0_4) := (blk_cell BK211.out 4).trans rfl
                      have hcz35_5 : wc.cell? ⟨gb211, 5, none⟩ = some (.string a0_5) := (blk_cell BK211.out 5).trans rfl
                      have hcz35_6 : wc.cell? ⟨gb211, 6, none⟩ = some (.bool a0_6) := (blk_cell BK211.out 6).trans rfl
                      have hcz35_7 : wc.cell? ⟨gb211, 7, none⟩ = some (.string a0_7) := (blk_cell BK211.out 7).trans rfl
                      have hcz35_8 : wc.cell? ⟨gb211, 8, none⟩ = some (.bool a0_8) := (blk_cell BK211.out 8).trans rfl
                      have hcz35_9 : wc.cell? ⟨gb211, 9, none⟩ = some (.string a0_9) := (blk_cell BK211.out 9).trans rfl
                      have hcz35_10 : wc.cell? ⟨gb211, 10, none⟩ = some (.int .i64 a0_10) := (blk_cell BK211.out 10).trans rfl
                      have hfz35_0 := blk_frozen BK211.out 0
                      have hfz35_1 := blk_frozen BK211.out 1
                      have hfz35_2 := blk_frozen BK211.out 2
                      have hfz35_3 := blk_frozen BK211.out 3
                      have hfz35_4 := blk_frozen BK211.out 4
                      have hfz35_5 := blk_frozen BK211.out 5
                      have hfz35_6 := blk_frozen BK211.out 6
                      have hfz35_7 := blk_frozen BK211.out 7
                      have hfz35_8 := blk_frozen BK211.out 8
                      have hfz35_9 := blk_frozen BK211.out 9
                      have hfz35_10 := blk_frozen BK211.out 10
                      go_wp2_with (first | ((with_reducible refine gate_callee (f := 30) rfl ?_); refine goesL_ (some 54) rfl rfl Tryd.func30 (by kernel_rfl) rfl #[.int .i64 a0_0] rfl (by (try simp only [List.map_toArray, List.map_cons, List.map_nil]); first | done | rfl | (simp only [List.length_drop, List.length_take]; rfl)) ?_; (with_reducible refine (quadrigaref04_page.calls a0_0 true _ A23.out).mono ?_); rintro e w' ⟨rfl, ⟨nd, rfl⟩⟩; refine ⟨_, rfl, ?_⟩) | (go_at_call 15; (with_reducible refine (quadrigaref04_Key.calls a0_5 true _ A29.out).mono ?_); rintro e w' ⟨rfl, ⟨nd, rfl⟩⟩) | (go_at_call 17; (with_reducible refine (quadrigaref04_Value.calls a0_6 a0_7 true _ A31.out).mono ?_); rintro e w36 ⟨rfl, hb⟩; have n0_ := Aside0.mk (blk_below (g := gb211) (o := .cells #[.int .i64 a0_0, .int .i64 a0_1, .int .i64 a0_2, .int .i64 a0_3, .int .i64 a0_4, .string a0_5, .bool a0_6, .string a0_7, .bool a0_8, .string a0_9, .int .i64 a0_10] 25 (0, 0)) (by (with_reducible repeat (first | refine blk_drewN ?_ _ | refine blk_drew ?_ | refine blk_alloc ?_ _)); exact BK211.out) hb); have n1_ := Aside0.mk (below_step (by repeat (first | (with_reducible first | exact HB.out | apply below_alloc | apply pw_below_drewN | apply below_drew1 | refine below_set ?_ GE211.out) | exact HB.out)) hb); clear BK211; clear HB; have BK211 := n0_; have HB := n1_; clear n0_ n1_; (try clear hb); (try clear hb2); (try clear hk); (try clear hi); have hcz37_0 : w36.cell? ⟨gb211, 0, none⟩ = some (.int .i64 a0_0) := (blk_cell BK211.out 0).trans rfl; have hcz37_1 : w36.cell? ⟨gb211, 1, none⟩ = some (.int .i64 a0_1) := (blk_cell BK211.out 1).trans rfl; have hcz37_2 : w36.cell? ⟨gb211, 2, none⟩ = some (.int .i64 a0_2) := (blk_cell BK211.out 2).trans rfl; have hcz37_3 : w36.cell? ⟨gb211, 3, none⟩ = some (.int .i64 a0_3) := (blk_cell BK211.out 3).trans rfl; have hcz37_4 : w36.cell? ⟨gb211, 4, none⟩ = some (.int .i64 a0_4) := (blk_cell BK211.out 4).trans rfl; have hcz37_5 : w36.cell? ⟨gb211, 5, none⟩ = some (.string a0_5) := (blk_cell BK211.out 5).trans rfl; have hcz37_6 : w36.cell? ⟨gb211, 6, none⟩ = some (.bool a0_6) := (blk_cell BK211.out 6).trans rfl; have hcz37_7 : w36.cell? ⟨gb211, 7, none⟩ = some (.string a0_7) := (blk_cell BK211.out 7).trans rfl; have hcz37_8 : w36.cell? ⟨gb211, 8, none⟩ = some (.bool a0_8) := (blk_cell BK211.out 8).trans rfl; have hcz37_9 : w36.cell? ⟨gb211, 9, none⟩ = some (.string a0_9) := (blk_cell BK211.out 9).trans rfl; have hcz37_10 : w36.cell? ⟨gb211, 10, none⟩ = some (.int .i64 a0_10) := (blk_cell BK211.out 10).trans rfl; have hfz37_0 := blk_frozen BK211.out 0; have hfz37_1 := blk_frozen BK211.out 1; have hfz37_2 := blk_frozen BK211.out 2; have hfz37_3 := blk_frozen BK211.out 3; have hfz37_4 := blk_frozen BK211.out 4; have hfz37_5 := blk_frozen BK211.out 5; have hfz37_6 := blk_frozen BK211.out 6; have hfz37_7 := blk_frozen BK211.out 7; have hfz37_8 := blk_frozen BK211.out 8; have hfz37_9 := blk_frozen BK211.out 9; have hfz37_10 := blk_frozen BK211.out 10) | (go_at_call 17; (with_reducible refine (quadrigaref04_Value.calls a0_8 a0_9 true _ A33.out).mono ?_); rintro e w38 ⟨rfl, hb⟩; have n0_ := Aside0.mk (blk_below (g := gb211) (o := .cells #[.int .i64 a0_0, .int .i64 a0_1, .int .i64 a0_2, .int .i64 a0_3, .int .i64 a0_4, .string a0_5, .bool a0_6, .string a0_7, .bool a0_8, .string a0_9, .int .i64 a0_10] 25 (0, 0)) (by (with_reducible repeat (first | refine blk_drewN ?_ _ | refine blk_drew ?_ | refine blk_alloc ?_ _)); exact BK211.out) hb); have n1_ := Aside0.mk (below_step (by repeat (first | (with_reducible first | exact HB.out | apply below_alloc | apply pw_below_drewN | apply below_drew1 | refine below_set ?_ GE211.out) | exact HB.out)) hb); clear BK211; clear HB; have BK211 := n0_; have HB := n1_; clear n0_ n1_; (try clear hb); (try clear hb2); (try clear hk); (try clear hi); have hcz39_0 : w38.cell? ⟨gb211, 0, none⟩ = some (.int .i64 a0_0) := (blk_cell BK211.out 0).trans rfl; have hcz39_1 : w38.cell? ⟨gb211, 1, none⟩ = some (.int .i64 a0_1) := (blk_cell BK211.out 1).trans rfl; have hcz39_2 : w38.cell? ⟨gb211, 2, none⟩ = some (.int .i64 a0_2) := (blk_cell BK211.out 2).trans rfl; have hcz39_3 : w38.cell? ⟨gb211, 3, none⟩ = some (.int .i64 a0_3) := (blk_cell BK211.out 3).trans rfl; have hcz39_4 : w38.cell? ⟨gb211, 4, none⟩ = some (.int .i64 a0_4) := (blk_cell BK211.out 4).trans rfl; have hcz39_5 : w38.cell? ⟨gb211, 5, none⟩ = some (.string a0_5) := (blk_cell BK211.out 5).trans rfl; have hcz39_6 : w38.cell? ⟨gb211, 6, none⟩ = some (.bool a0_6) := (blk_cell BK211.out 6).trans rfl; have hcz39_7 : w38.cell? ⟨gb211, 7, none⟩ = some (.string a0_7) := (blk_cell BK211.out 7).trans rfl; have hcz39_8 : w38.cell? ⟨gb211, 8, none⟩ = some (.bool a0_8) := (blk_cell BK211.out 8).trans rfl; have hcz39_9 : w38.cell? ⟨gb211, 9, none⟩ = some (.string a0_9) := (blk_cell BK211.out 9).trans rfl; have hcz39_10 : w38.cell? ⟨gb211, 10, none⟩ = some (.int .i64 a0_10) := (blk_cell BK211.out 10).trans rfl; have hfz39_0 := blk_frozen BK211.out 0; have hfz39_1 := blk_frozen BK211.out 1; have hfz39_2 := blk_frozen BK211.out 2; have hfz39_3 := blk_frozen BK211.out 3; have hfz39_4 := blk_frozen BK211.out 4; have hfz39_5 := blk_frozen BK211.out 5; have hfz39_6 := blk_frozen BK211.out 6; have hfz39_7 := blk_frozen BK211.out 7; have hfz39_8 := blk_frozen BK211.out 8; have hfz39_9 := blk_frozen BK211.out 9; have hfz39_10 := blk_frozen BK211.out 10))
                      go_meet
                      case rel => exact ⟨_, ((a0_6 == a0_8 && (a0_7.toList == a0_9.toList))), (by first | rfl | (simp; done) | (simp [*]; done)), H', ⟨by have := HJ1.out; first | omega | exact Nat.le_refl _⟩, ⟨by (with_reducible repeat (first | refine blk_drewN ?_ _ | refine blk_drew ?_ | refine blk_alloc ?_ _)); exact BK211.out⟩, ⟨by repeat (first | (with_reducible first | exact HB.out | apply below_alloc | apply pw_below_drewN | apply below_drew1 | refine below_set ?_ GE211.out) | exact HB.out)⟩⟩
                    · replace c34 := Bool.eq_false_iff.mpr c34
                      subst c34
                      have H1 : (quadrigaref04_Right.j1 kj1 true a0_0 a0_1 a0_2 a0_3 a0_4 a0_5 a0_6 a0_7 a0_8 a0_9 a0_10) = some r := by rw [if_neg (show ¬ (false = true) by decide)] at H; exact H
                      clear H
                      have H := H1
                      clear H1
                      have H' := Aside0.mk H
                      clear H
                      have hcz40_0 : wc.cell? ⟨gb211, 0, none⟩ = some (.int .i64 a0_0) := (blk_cell BK211.out 0).trans rfl
                      have hcz40_1 : wc.cell? ⟨gb211, 1, none⟩ = some (.int .i64 a0_1) := (blk_cell BK211.out 1).trans rfl
                      have hcz40_2 : wc.cell? ⟨gb211, 2, none⟩ = some (.int .i64 a0_2) := (blk_cell BK211.out 2).trans rfl
                      have hcz40_3 : wc.cell? ⟨gb211, 3, none⟩ = some (.int .i64 a0_3) := (blk_cell BK211.out 3).trans rfl
                      have hcz40_4 : wc.cell? ⟨gb211, 4, none⟩ = some (.int .i64 a0_4) := (blk_cell BK211.out 4).trans rfl
                      have hcz40_5 : wc.cell? ⟨gb211, 5, none⟩ = some (.string a0_5) := (blk_cell BK211.out 5).trans rfl
                      have hcz40_6 : wc.cell? ⟨gb211, 6, none⟩ = some (.bool a0_6) := (blk_cell BK211.out 6).trans rfl
                      have hcz40_7 : wc.cell? ⟨gb211, 7, none⟩ = some (.string a0_7) := (blk_cell BK211.out 7).trans rfl
                      have hcz40_8 : wc.cell? ⟨gb211, 8, none⟩ = some (.bool a0_8) := (blk_cell BK211.out 8).trans rfl
                      have hcz40_9 : wc.cell? ⟨gb211, 9, none⟩ = some (.string a0_9) := (blk_cell BK211.out 9).trans rfl
                      have hcz40_10 : wc.cell? ⟨gb211, 10, none⟩ = some (.int .i64 a0_10) := (blk_cell BK211.out 10).trans rfl
                      have hfz40_0 := blk_frozen BK211.out 0
                      have hfz40_1 := blk_frozen BK211.out 1
                      have hfz40_2 := blk_frozen BK211.out 2
                      have hfz40_3 := blk_frozen BK211.out 3
                      have hfz40_4 := blk_frozen BK211.out 4
                      have hfz40_5 := blk_frozen BK211.out 5
                      have hfz40_6 := blk_frozen BK211.out 6
                      have hfz40_7 := blk_frozen BK211.out 7
                      have hfz40_8 := blk_frozen BK211.out 8
                      have hfz40_9 := blk_frozen BK211.out 9
                      have hfz40_10 := blk_frozen BK211.out 10
                      go_wp2_with (first | ((with_reducible refine gate_callee (f := 30) rfl ?_); refine goesL_ (some 54) rfl rfl Tryd.func30 (by kernel_rfl) rfl #[.int .i64 a0_0] rfl (by (try simp only [List.map_toArray, List.map_cons, List.map_nil]); first | done | rfl | (simp only [List.length_drop, List.length_take]; rfl)) ?_; (with_reducible refine (quadrigaref04_page.calls a0_0 true _ A23.out).mono ?_); rintro e w' ⟨rfl, ⟨nd, rfl⟩⟩; refine ⟨_, rfl, ?_⟩) | (go_at_call 15; (with_reducible refine (quadrigaref04_Key.calls a0_5 true _ A29.out).mono ?_); rintro e w' ⟨rfl, ⟨nd, rfl⟩⟩) | (go_at_call 17; (with_reducible refine (quadrigaref04_Value.calls a0_6 a0_7 true _ A31.out).mono ?_); rintro e w41 ⟨rfl, hb⟩; have n0_ := Aside0.mk (blk_below (g := gb211) (o := .cells #[.int .i64 a0_0, .int .i64 a0_1, .int .i64 a0_2, .int .i64 a0_3, .int .i64 a0_4, .string a0_5, .bool a0_6, .string a0_7, .bool a0_8, .string a0_9, .int .i64 a0_10] 25 (0, 0)) (by (with_reducible repeat (first | refine blk_drewN ?_ _ | refine blk_drew ?_ | refine blk_alloc ?_ _)); exact BK211.out) hb); have n1_ := Aside0.mk (below_step (by repeat (first | (with_reducible first | exact HB.out | apply below_alloc | apply pw_below_drewN | apply below_drew1 | refine below_set ?_ GE211.out) | exact HB.out)) hb); clear BK211; clear HB; have BK211 := n0_; have HB := n1_; clear n0_ n1_; (try clear hb); (try clear hb2); (try clear hk); (try clear hi); have hcz42_0 : w41.cell? ⟨gb211, 0, none⟩ = some (.int .i64 a0_0) := (blk_cell BK211.out 0).trans rfl; have hcz42_1 : w41.cell? ⟨gb211, 1, none⟩ = some (.int .i64 a0_1) := (blk_cell BK211.out 1).trans rfl; have hcz42_2 : w41.cell? ⟨gb211, 2, none⟩ = some (.int .i64 a0_2) := (blk_cell BK211.out 2).trans rfl; have hcz42_3 : w41.cell? ⟨gb211, 3, none⟩ = some (.int .i64 a0_3) := (blk_cell BK211.out 3).trans rfl; have hcz42_4 : w41.cell? ⟨gb211, 4, none⟩ = some (.int .i64 a0_4) := (blk_cell BK211.out 4).trans rfl; have hcz42_5 : w41.cell? ⟨gb211, 5, none⟩ = some (.string a0_5) := (blk_cell BK211.out 5).trans rfl; have hcz42_6 : w41.cell? ⟨gb211, 6, none⟩ = some (.bool a0_6) := (blk_cell BK211.out 6).trans rfl; have hcz42_7 : w41.cell? ⟨gb211, 7, none⟩ = some (.string a0_7) := (blk_cell BK211.out 7).trans rfl; have hcz42_8 : w41.cell? ⟨gb211, 8, none⟩ = some (.bool a0_8) := (blk_cell BK211.out 8).trans rfl; have hcz42_9 : w41.cell? ⟨gb211, 9, none⟩ = some (.string a0_9) := (blk_cell BK211.out 9).trans rfl; have hcz42_10 : w41.cell? ⟨gb211, 10, none⟩ = some (.int .i64 a0_10) := (blk_cell BK211.out 10).trans rfl; have hfz42_0 := blk_frozen BK211.out 0; have hfz42_1 := blk_frozen BK211.out 1; have hfz42_2 := blk_frozen BK211.out 2; have hfz42_3 := blk_frozen BK211.out 3; have hfz42_4 := blk_frozen BK211.out 4; have hfz42_5 := blk_frozen BK211.out 5; have hfz42_6 := blk_frozen BK211.out 6; have hfz42_7 := blk_frozen BK211.out 7; have hfz42_8 := blk_frozen BK211.out 8; have hfz42_9 := blk_frozen BK211.out 9; have hfz42_10 := blk_frozen BK211.out 10) | (go_at_call 17; (with_reducible refine (quadrigaref04_Value.calls a0_8 a0_9 false _ A33.out).mono ?_); rintro e w43 ⟨rfl, hb⟩; have n0_ := Aside0.mk (blk_below (g := gb211) (o := .cells #[.int .i64 a0_0, .int .i64 a0_1, .int .i64 a0_2, .int .i64 a0_3, .int .i64 a0_4, .string a0_5, .bool a0_6, .string a0_7, .bool a0_8, .string a0_9, .int .i64 a0_10] 25 (0, 0)) (by (with_reducible repeat (first | refine blk_drewN ?_ _ | refine blk_drew ?_ | refine blk_alloc ?_ _)); exact BK211.out) hb); have n1_ := Aside0.mk (below_step (by repeat (first | (with_reducible first | exact HB.out | apply below_alloc | apply pw_below_drewN | apply below_drew1 | refine below_set ?_ GE211.out) | exact HB.out)) hb); clear BK211; clear HB; have BK211 := n0_; have HB := n1_; clear n0_ n1_; (try clear hb); (try clear hb2); (try clear hk); (try clear hi)))
                      go_meet
                      case rel => exact ⟨_, (true), (by first | rfl | (simp; done) | (simp [*]; done)), H', ⟨by have := HJ1.out; first | omega | exact Nat.le_refl _⟩, ⟨by (with_reducible repeat (first | refine blk_drewN ?_ _ | refine blk_drew ?_ | refine blk_alloc ?_ _)); exact BK211.out⟩, ⟨by repeat (first | (with_reducible first | exact HB.out | apply below_alloc | apply pw_below_drewN | apply below_drew1 | refine below_set ?_ GE211.out) | exact HB.out)⟩⟩
                  · replace c32 := Bool.eq_false_iff.mpr c32
                    subst c32
                    have H1 : (quadrigaref04_Right.j1 kj1 true a0_0 a0_1 a0_2 a0_3 a0_4 a0_5 a0_6 a0_7 a0_8 a0_9 a0_10) = some r := by rw [if_neg (show ¬ (false = true) by decide)] at H; exact H
                    clear H
                    have H := H1
                    clear H1
                    have H' := Aside0.mk H
                    clear H
                    have hcz44_0 : wc.cell? ⟨gb211, 0, none⟩ = some (.int .i64 a0_0) := (blk_cell BK211.out 0).trans rfl
                    have hcz44_1 : wc.cell? ⟨gb211, 1, none⟩ = some (.int .i64 a0_1) := (blk_cell BK211.out 1).trans rfl
                    have hcz44_2 : wc.cell? ⟨gb211, 2, none⟩ = some (.int .i64 a0_2) := (blk_cell BK211.out 2).trans rfl
                    have hcz44_3 : wc.cell? ⟨gb211, 3, none⟩ = some (.int .i64 a0_3) := (blk_cell BK211.out 3).trans rfl
                    have hcz44_4 : wc.cell? ⟨gb211, 4, none⟩ = some (.int .i64 a0_4) := (blk_cell BK211.out 4).trans rfl
                    have hcz44_5 : wc.cell? ⟨gb211, 5, none⟩ = some (.string a0_5) := (blk_cell BK211.out 5).trans rfl
                    have hcz44_6 : wc.cell? ⟨gb211, 6, none⟩ = some (.bool a0_6) := (blk_cell BK211.out 6).trans rfl
                    have hcz44_7 : wc.cell? ⟨gb211, 7, none⟩ = some (.string a0_7) := (blk_cell BK211.out 7).trans rfl
                    have hcz44_8 : wc.cell? ⟨gb211, 8, none⟩ = some (.bool a0_8) := (blk_cell BK211.out 8).trans rfl
                    have hcz44_9 : wc.cell? ⟨gb211, 9, none⟩ = some (.string a0_9) := (blk_cell BK211.out 9).trans rfl
                    have hcz44_10 : wc.cell? ⟨gb211, 10, none⟩ = some (.int .i64 a0_10) := (blk_cell BK211.out 10).trans rfl
                    have hfz44_0 := blk_frozen BK211.out 0
                    have hfz44_1 := blk_frozen BK211.out 1
                    have hfz44_2 := blk_frozen BK211.out 2
                    have hfz44_3 := blk_frozen BK211.out 3
                    have hfz44_4 := blk_frozen BK211.out 4
                    have hfz44_5 := blk_frozen BK211.out 5
                    have hfz44_6 := blk_frozen BK211.out 6
                    have hfz44_7 := blk_frozen BK211.out 7
                    have hfz44_8 := blk_frozen BK211.out 8
                    have hfz44_9 := blk_frozen BK211.out 9
                    have hfz44_10 := blk_frozen BK211.out 10
                    go_wp2_with (first | ((with_reducible refine gate_callee (f := 30) rfl ?_); refine goesL_ (some 54) rfl rfl Tryd.func30 (by kernel_rfl) rfl #[.int .i64 a0_0] rfl (by (try simp only [List.map_toArray, List.map_cons, List.map_nil]); first | done | rfl | (simp only [List.length_drop, List.length_take]; rfl)) ?_; (with_reducible refine (quadrigaref04_page.calls a0_0 true _ A23.out).mono ?_); rintro e w' ⟨rfl, ⟨nd, rfl⟩⟩; refine ⟨_, rfl, ?_⟩) | (go_at_call 15; (with_reducible refine (quadrigaref04_Key.calls a0_5 true _ A29.out).mono ?_); rintro e w' ⟨rfl, ⟨nd, rfl⟩⟩) | (go_at_call 17; (with_reducible refine (quadrigaref04_Value.calls a0_6 a0_7 false _ A31.out).mono ?_); rintro e w45 ⟨rfl, hb⟩; have n0_ := Aside0.mk (blk_below (g := gb211) (o := .cells #[.int .i64 a0_0, .int .i64 a0_1, .int .i64 a0_2, .int .i64 a0_3, .int .i64 a0_4, .string a0_5, .bool a0_6, .string a0_7, .bool a0_8, .string a0_9, .int .i64 a0_10] 25 (0, 0)) (by (with_reducible repeat (first | refine blk_drewN ?_ _ | refine blk_drew ?_ | refine blk_alloc ?_ _)); exact BK211.out) hb); have n1_ := Aside0.mk (below_step (by repeat (first | (with_reducible first | exact HB.out | apply below_alloc | apply pw_below_drewN | apply below_drew1 | refine below_set ?_ GE211.out) | exact HB.out)) hb); clear BK211; clear HB; have BK211 := n0_; have HB := n1_; clear n0_ n1_; (try clear hb); (try clear hb2); (try clear hk); (try clear hi)))
                    go_meet
                    case rel => exact ⟨_, (true), (by first | rfl | (simp; done) | (simp [*]; done)), H', ⟨by have := HJ1.out; first | omega | exact Nat.le_refl _⟩, ⟨by (with_reducible repeat (first | refine blk_drewN ?_ _ | refine blk_drew ?_ | refine blk_alloc ?_ _)); exact BK211.out⟩, ⟨by repeat (first | (with_reducible first | exact HB.out | apply below_alloc | apply pw_below_drewN | apply below_drew1 | refine below_set ?_ GE211.out) | exact HB.out)⟩⟩
                · replace c30 := Bool.eq_false_iff.mpr c30
                  subst c30
                  have H1 : (quadrigaref04_Right.j1 kj1 true a0_0 a0_1 a0_2 a0_3 a0_4 a0_5 a0_6 a0_7 a0_8 a0_9 a0_10) = some r := by rw [if_neg (show ¬ (false = true) by decide)] at H; exact H
                  clear H
                  have H := H1
                  clear H1
                  have H' := Aside0.mk H
                  clear H
                  have hcz46_0 : wc.cell? ⟨gb211, 0, none⟩ = some (.int .i64 a0_0) := (blk_cell BK211.out 0).trans rfl
                  have hcz46_1 : wc.cell? ⟨gb211, 1, none⟩ = some (.int .i64 a0_1) := (blk_cell BK211.out 1).trans rfl
                  have hcz46_2 : wc.cell? ⟨gb211, 2, none⟩ = some (.int .i64 a0_2) := (blk_cell BK211.out 2).trans rfl
                  have hcz46_3 : wc.cell? ⟨gb211, 3, none⟩ = some (.int .i64 a0_3) := (blk_cell BK211.out 3).trans rfl
                  have hcz46_4 : wc.cell? ⟨gb211, 4, none⟩ = some (.int .i64 a0_4) := (blk_cell BK211.out 4).trans rfl
                  have hcz46_5 : wc.cell? ⟨gb211, 5, none⟩ = some (.string a0_5) := (blk_cell BK211.out 5).trans rfl
                  have hcz46_6 : wc.cell? ⟨gb211, 6, none⟩ = some (.bool a0_6) := (blk_cell BK211.out 6).trans rfl
                  have hcz46_7 : wc.cell? ⟨gb211, 7, none⟩ = some (.string a0_7) := (blk_cell BK211.out 7).trans rfl
                  have hcz46_8 : wc.cell? ⟨gb211, 8, none⟩ = some (.bool a0_8) := (blk_cell BK211.out 8).trans rfl
                  have hcz46_9 : wc.cell? ⟨gb211, 9, none⟩ = some (.string a0_9) := (blk_cell BK211.out 9).trans rfl
                  have hcz46_10 : wc.cell? ⟨gb211, 10, none⟩ = some (.int .i64 a0_10) := (blk_cell BK211.out 10).trans rfl
                  have hfz46_0 := blk_frozen BK211.out 0
                  have hfz46_1 := blk_frozen BK211.out 1
                  have hfz46_2 := blk_frozen BK211.out 2
                  have hfz46_3 := blk_frozen BK211.out 3
                  have hfz46_4 := blk_frozen BK211.out 4
                  have hfz46_5 := blk_frozen BK211.out 5
                  have hfz46_6 := blk_frozen BK211.out 6
                  have hfz46_7 := blk_frozen BK211.out 7
                  have hfz46_8 := blk_frozen BK211.out 8
                  have hfz46_9 := blk_frozen BK211.out 9
                  have hfz46_10 := blk_frozen BK211.out 10
                  go_wp2_with (first | ((with_reducible refine gate_callee (f := 30) rfl ?_); refine goesL_ (some 54) rfl rfl Tryd.func30 (by kernel_rfl) rfl #[.int .i64 a0_0] rfl (by (try simp only [List.map_toArray, List.map_cons, List.map_nil]); first | done | rfl | (simp only [List.length_drop, List.length_take]; rfl)) ?_; (with_reducible refine (quadrigaref04_page.calls a0_0 true _ A23.out).mono ?_); rintro e w' ⟨rfl, ⟨nd, rfl⟩⟩; refine ⟨_, rfl, ?_⟩) | (go_at_call 15; (with_reducible refine (quadrigaref04_Key.calls a0_5 false _ A29.out).mono ?_); rintro e w' ⟨rfl, ⟨nd, rfl⟩⟩))
                  go_meet
                  case rel => exact ⟨_, (true), (by first | rfl | (simp; done) | (simp [*]; done)), H', ⟨by have := HJ1.out; first | omega | exact Nat.le_refl _⟩, ⟨by (with_reducible repeat (first | refine blk_drewN ?_ _ | refine blk_drew ?_ | refine blk_alloc ?_ _)); exact BK211.out⟩, ⟨by repeat (first | (with_reducible first | exact HB.out | apply below_alloc | apply pw_below_drewN | apply below_drew1 | refine below_set ?_ GE211.out) | exact HB.out)⟩⟩
          · replace c24 := Bool.eq_false_iff.mpr c24
            subst c24
            have H1 : (quadrigaref04_Right.j1 kj1 false a0_0 a0_1 a0_2 a0_3 a0_4 a0_5 a0_6 a0_7 a0_8 a0_9 a0_10) = some r := by rw [if_neg (show ¬ (false = true) by decide)] at H; exact H
            clear H
            have H := H1
            clear H1
            have H' := Aside0.mk H
            clear H
            have hcz47_0 : wc.cell? ⟨gb211, 0, none⟩ = some (.int .i64 a0_0) := (blk_cell BK211.out 0).trans rfl
            have hcz47_1 : wc.cell? ⟨gb211, 1, none⟩ = some (.int .i64 a0_1) := (blk_cell BK211.out 1).trans rfl
            have hcz47_2 : wc.cell? ⟨gb211, 2, none⟩ = some (.int .i64 a0_2) := (blk_cell BK211.out 2).trans rfl
            have hcz47_3 : wc.cell? ⟨gb211, 3, none⟩ = some (.int .i64 a0_3) := (blk_cell BK211.out 3).trans rfl
            have hcz47_4 : wc.cell? ⟨gb211, 4, none⟩ = some (.int .i64 a0_4) := (blk_cell BK211.out 4).trans rfl
            have hcz47_5 : wc.cell? ⟨gb211, 5, none⟩ = some (.string a0_5) := (blk_cell BK211.out 5).trans rfl
            have hcz47_6 : wc.cell? ⟨gb211, 6, none⟩ = some (.bool a0_6) := (blk_cell BK211.out 6).trans rfl
            have hcz47_7 : wc.cell? ⟨gb211, 7, none⟩ = some (.string a0_7) := (blk_cell BK211.out 7).trans rfl
            have hcz47_8 : wc.cell? ⟨gb211, 8, none⟩ = some (.bool a0_8) := (blk_cell BK211.out 8).trans rfl
            have hcz47_9 : wc.cell? ⟨gb211, 9, none⟩ = some (.string a0_9) := (blk_cell BK211.out 9).trans rfl
            have hcz47_10 : wc.cell? ⟨gb211, 10, none⟩ = some (.int .i64 a0_10) := (blk_cell BK211.out 10).trans rfl
            have hfz47_0 := blk_frozen BK211.out 0
            have hfz47_1 := blk_frozen BK211.out 1
            have hfz47_2 := blk_frozen BK211.out 2
            have hfz47_3 := blk_frozen BK211.out 3
            have hfz47_4 := blk_frozen BK211.out 4
            have hfz47_5 := blk_frozen BK211.out 5
            have hfz47_6 := blk_frozen BK211.out 6
            have hfz47_7 := blk_frozen BK211.out 7
            have hfz47_8 := blk_frozen BK211.out 8
            have hfz47_9 := blk_frozen BK211.out 9
            have hfz47_10 := blk_frozen BK211.out 10
            go_wp2_with (first | ((with_reducible refine gate_callee (f := 30) rfl ?_); refine goesL_ (some 54) rfl rfl Tryd.func30 (by kernel_rfl) rfl #[.int .i64 a0_0] rfl (by (try simp only [List.map_toArray, List.map_cons, List.map_nil]); first | done | rfl | (simp only [List.length_drop, List.length_take]; rfl)) ?_; (with_reducible refine (quadrigaref04_page.calls a0_0 false _ A23.out).mono ?_); rintro e w' ⟨rfl, ⟨nd, rfl⟩⟩; refine ⟨_, rfl, ?_⟩))
            go_meet
            case rel => exact ⟨_, (false), (by first | rfl | (simp; done) | (simp [*]; done)), H', ⟨by have := HJ1.out; first | omega | exact Nat.le_refl _⟩, ⟨by (with_reducible repeat (first | refine blk_drewN ?_ _ | refine blk_drew ?_ | refine blk_alloc ?_ _)); exact BK211.out⟩, ⟨by repeat (first | (with_reducible first | exact HB.out | apply below_alloc | apply pw_below_drewN | apply below_drew1 | refine below_set ?_ GE211.out) | exact HB.out)⟩⟩
        case rest =>
          clear HC22
          try clear c1
          try clear c2
          try clear p2
          try clear c3
          try clear c4
          try clear c4b0
          try clear c6
          try clear c6b0
          try clear c8
          try clear c8b0
          try clear c10
          try clear c10b0
          try clear c11
          try clear c12
          try clear c12b0
          try clear c14
          try clear c14b0
          try clear c16
          try clear c16b0
          try clear c18
          try clear c18b0
          try clear c21
          try clear c24
          try clear c25
          try clear c25b0
          try clear c27
          try clear c27b0
          try clear c30
          try clear c32
          try clear c34
          try clear hcz11_0
          try clear hcz11_1
          try clear hcz11_10
          try clear hcz11_2
          try clear hcz11_3
          try clear hcz11_4
          try clear hcz11_5
          try clear hcz11_6
          try clear hcz11_7
          try clear hcz11_8
          try clear hcz11_9
          try clear hcz13_0
          try clear hcz13_1
          try clear hcz13_10
          try clear hcz13_2
          try clear hcz13_3
          try clear hcz13_4
          try clear hcz13_5
          try clear hcz13_6
          try clear hcz13_7
          try clear hcz13_8
          try clear hcz13_9
          try clear hcz15_0
          try clear hcz15_1
          try clear hcz15_10
          try clear hcz15_2
          try clear hcz15_3
          try clear hcz15_4
          try clear hcz15_5
          try clear hcz15_6
          try clear hcz15_7
          try clear hcz15_8
          try clear hcz15_9
          try clear hcz17_0
          try clear hcz17_1
          try clear hcz17_10
          try clear hcz17_2
          try clear hcz17_3
          try clear hcz17_4
          try clear hcz17_5
          try clear hcz17_6
          try clear hcz17_7
          try clear hcz17_8
          try clear hcz17_9
          try clear hcz19_0
          try clear hcz19_1
          try clear hcz19_10
          try clear hcz19_2
          try clear hcz19_3
          try clear hcz19_4
          try clear hcz19_5
          try clear hcz19_6
          try clear hcz19_7
          try clear hcz19_8
          try clear hcz19_9
          try clear hcz20_0
          try clear hcz20_1
          try clear hcz20_10
          try clear hcz20_2
          try clear hcz20_3
          try clear hcz20_4
          try clear hcz20_5
          try clear hcz20_6
          try clear hcz20_7
          try clear hcz20_8
          try clear hcz20_9
          try clear hcz26_0
          try clear hcz26_1
          try clear hcz26_10
          try clear hcz26_2
          try clear hcz26_3
          try clear hcz26_4
          try clear hcz26_5
          try clear hcz26_6
          try clear hcz26_7
          try clear hcz26_8
          try clear hcz26_9
          try clear hcz28_0
          try clear hcz28_1
          try clear hcz28_10
          try clear hcz28_2
          try clear hcz28_3
          try clear hcz28_4
          try clear hcz28_5
          try clear hcz28_6
          try clear hcz28_7
          try clear hcz28_8
          try clear hcz28_9
          try clear hcz35_0
          try clear hcz35_1
          try clear hcz35_10
          try clear hcz35_2
          try clear hcz35_3
          try clear hcz35_4
          try clear hcz35_5
          try clear hcz35_6
          try clear hcz35_7
          try clear hcz35_8
          try clear hcz35_9
          try clear hcz37_0
          try clear hcz37_1
          try clear hcz37_10
          try clear hcz37_2
          try clear hcz37_3
          try clear hcz37_4
          try clear hcz37_5
          try clear hcz37_6
          try clear hcz37_7
          try clear hcz37_8
          try clear hcz37_9
          try clear hcz39_0
          try clear hcz39_1
          try clear hcz39_10
          try clear hcz39_2
          try clear hcz39_3
          try clear hcz39_4
          try clear hcz39_5
          try clear hcz39_6
          try clear hcz39_7
          try clear hcz39_8
          try clear hcz39_9
          try clear hcz40_0
          try clear hcz40_1
          try clear hcz40_10
          try clear hcz40_2
          try clear hcz40_3
          try clear hcz40_4
          try clear hcz40_5
          try clear hcz40_6
          try clear hcz40_7
          try clear hcz40_8
          try clear hcz40_9
          try clear hcz42_0
          try clear hcz42_1
          try clear hcz42_10
          try clear hcz42_2
          try clear hcz42_3
          try clear hcz42_4
          try clear hcz42_5
          try clear hcz42_6
          try clear hcz42_7
          try clear hcz42_8
          try clear hcz42_9
          try clear hcz44_0
          try clear hcz44_1
          try clear hcz44_10
          try clear hcz44_2
          try clear hcz44_3
          try clear hcz44_4
          try clear hcz44_5
          try clear hcz44_6
          try clear hcz44_7
          try clear hcz44_8
          try clear hcz44_9
          try clear hcz46_0
          try clear hcz46_1
          try clear hcz46_10
          try clear hcz46_2
          try clear hcz46_3
          try clear hcz46_4
          try clear hcz46_5
          try clear hcz46_6
          try clear hcz46_7
          try clear hcz46_8
          try clear hcz46_9
          try clear hcz47_0
          try clear hcz47_1
          try clear hcz47_10
          try clear hcz47_2
          try clear hcz47_3
          try clear hcz47_4
          try clear hcz47_5
          try clear hcz47_6
          try clear hcz47_7
          try clear hcz47_8
          try clear hcz47_9
          try clear hcz5_0
          try clear hcz5_1
          try clear hcz5_10
          try clear hcz5_2
          try clear hcz5_3
          try clear hcz5_4
          try clear hcz5_5
          try clear hcz5_6
          try clear hcz5_7
          try clear hcz5_8
          try clear hcz5_9
          try clear hcz7_0
          try clear hcz7_1
          try clear hcz7_10
          try clear hcz7_2
          try clear hcz7_3
          try clear hcz7_4
          try clear hcz7_5
          try clear hcz7_6
          try clear hcz7_7
          try clear hcz7_8
          try clear hcz7_9
          try clear hcz9_0
          try clear hcz9_1
          try clear hcz9_10
          try clear hcz9_2
          try clear hcz9_3
          try clear hcz9_4
          try clear hcz9_5
          try clear hcz9_6
          try clear hcz9_7
          try clear hcz9_8
          try clear hcz9_9
          try clear hfz11_0
          try clear hfz11_1
          try clear hfz11_10
          try clear hfz11_2
          try clear hfz11_3
          try clear hfz11_4
          try clear hfz11_5
          try clear hfz11_6
          try clear hfz11_7
          try clear hfz11_8
          try clear hfz11_9
          try clear hfz13_0
          try clear hfz13_1
          try clear hfz13_10
          try clear hfz13_2
          try clear hfz13_3
          try clear hfz13_4
          try clear hfz13_5
          try clear hfz13_6
          try clear hfz13_7
          try clear hfz13_8
          try clear hfz13_9
          try clear hfz15_0
          try clear hfz15_1
          try clear hfz15_10
          try clear hfz15_2
          try clear hfz15_3
          try clear hfz15_4
          try clear hfz15_5
          try clear hfz15_6
          try clear hfz15_7
          try clear hfz15_8
          try clear hfz15_9
          try clear hfz17_0
          try clear hfz17_1
          try clear hfz17_10
          try clear hfz17_2
          try clear hfz17_3
          try clear hfz17_4
          try clear hfz17_5
          try clear hfz17_6
          try clear hfz17_7
          try clear hfz17_8
          try clear hfz17_9
          try clear hfz19_0
          try clear hfz19_1
          try clear hfz19_10
          try clear hfz19_2
          try clear hfz19_3
          try clear hfz19_4
          try clear hfz19_5
          try clear hfz19_6
          try clear hfz19_7
          try clear hfz19_8
          try clear hfz19_9
          try clear hfz20_0
          try clear hfz20_1
          try clear hfz20_10
          try clear hfz20_2
          try clear hfz20_3
          try clear hfz20_4
          try clear hfz20_5
          try clear hfz20_6
          try clear hfz20_7
          try clear hfz20_8
          try clear hfz20_9
          try clear hfz26_0
          try clear hfz26_1
          try clear hfz26_10
          try clear hfz26_2
          try clear hfz26_3
          try clear hfz26_4
          try clear hfz26_5
          try clear hfz26_6
          try clear hfz26_7
          try clear hfz26_8
          try clear hfz26_9
          try clear hfz28_0
          try clear hfz28_1
          try clear hfz28_10
          try clear hfz28_2
          try clear hfz28_3
          try clear hfz28_4
          try clear hfz28_5
          try clear hfz28_6
          try clear hfz28_7
          try clear hfz28_8
          try clear hfz28_9
          try clear hfz35_0
          try clear hfz35_1
          try clear hfz35_10
          try clear hfz35_2
          try clear hfz35_3
          try clear hfz35_4
          try clear hfz35_5
          try clear hfz35_6
          try clear hfz35_7
          try clear hfz35_8
          try clear hfz35_9
          try clear hfz37_0
          try clear hfz37_1
          try clear hfz37_10
          try clear hfz37_2
          try clear hfz37_3
          try clear hfz37_4
          try clear hfz37_5
          try clear hfz37_6
          try clear hfz37_7
          try clear hfz37_8
          try clear hfz37_9
          try clear hfz39_0
          try clear hfz39_1
          try clear hfz39_10
          try clear hfz39_2
          try clear hfz39_3
          try clear hfz39_4
          try clear hfz39_5
          try clear hfz39_6
          try clear hfz39_7
          try clear hfz39_8
          try clear hfz39_9
          try clear hfz40_0
          try clear hfz40_1
          try clear hfz40_10
          try clear hfz40_2
          try clear hfz40_3
          try clear hfz40_4
          try clear hfz40_5
          try clear hfz40_6
          try clear hfz40_7
          try clear hfz40_8
          try clear hfz40_9
          try clear hfz42_0
          try clear hfz42_1
          try clear hfz42_10
          try clear hfz42_2
          try clear hfz42_3
          try clear hfz42_4
          try clear hfz42_5
          try clear hfz42_6
          try clear hfz42_7
          try clear hfz42_8
          try clear hfz42_9
          try clear hfz44_0
          try clear hfz44_1
          try clear hfz44_10
          try clear hfz44_2
          try clear hfz44_3
          try clear hfz44_4
          try clear hfz44_5
          try clear hfz44_6
          try clear hfz44_7
          try clear hfz44_8
          try clear hfz44_9
          try clear hfz46_0
          try clear hfz46_1
          try clear hfz46_10
          try clear hfz46_2
          try clear hfz46_3
          try clear hfz46_4
          try clear hfz46_5
          try clear hfz46_6
          try clear hfz46_7
          try clear hfz46_8
          try clear hfz46_9
          try clear hfz47_0
          try clear hfz47_1
          try clear hfz47_10
          try clear hfz47_2
          try clear hfz47_3
          try clear hfz47_4
          try clear hfz47_5
          try clear hfz47_6
          try clear hfz47_7
          try clear hfz47_8
          try clear hfz47_9
          try clear hfz5_0
          try clear hfz5_1
          try clear hfz5_10
          try clear hfz5_2
          try clear hfz5_3
          try clear hfz5_4
          try clear hfz5_5
          try clear hfz5_6
          try clear hfz5_7
          try clear hfz5_8
          try clear hfz5_9
          try clear hfz7_0
          try clear hfz7_1
          try clear hfz7_10
          try clear hfz7_2
          try clear hfz7_3
          try clear hfz7_4
          try clear hfz7_5
          try clear hfz7_6
          try clear hfz7_7
          try clear hfz7_8
          try clear hfz7_9
          try clear hfz9_0
          try clear hfz9_1
          try clear hfz9_10
          try clear hfz9_2
          try clear hfz9_3
          try clear hfz9_4
          try clear hfz9_5
          try clear hfz9_6
          try clear hfz9_7
          try clear hfz9_8
          try clear hfz9_9
          try clear p2
          obtain ⟨kq, x89_21, rfl, HA, HJ21, BK211, HB⟩ := hcut
          cases kq with
          | zero => exact absurd HA.out (by simp [quadrigaref04_Right.j1])
          | succ kj21 =>
            have H := HA.out
            clear HA
            simp only [quadrigaref04_Right.j1] at H
            by_cases c48 : x89_21 = true
            · subst c48
              have H1 : (some false) = some r := by rw [if_pos rfl] at H; exact H
              clear H
              have H := H1
              clear H1
              obtain rfl := Option.some.inj H
              go_wp2
              go_ret
              exact ⟨by first | rfl | (simp [errW_none, errW_some] <;> rfl) | (simp [*, errW_none, errW_some] <;> rfl), by repeat (first | (with_reducible first | exact HB.out | apply below_alloc | apply pw_below_drewN | apply below_drew1 | refine below_set ?_ GE211.out) | exact HB.out)⟩
            · replace c48 := Bool.eq_false_iff.mpr c48
              subst c48
              have H1 : ((quadrigaref04_page.f a0_0).bind fun t216 => (if t216 = true then (quadrigaref04_Right.j2 kj21 false a0_0 a0_1 a0_2 a0_3 a0_4 a0_5 a0_6 a0_7 a0_8 a0_9 a0_10) else (if a0_4 = 0 then (if a0_5.toList = ([] : List UInt8) then (if (a0_6 || (!(a0_7.toList == ([] : List UInt8)))) = true then (quadrigaref04_Right.j2 kj21 true a0_0 a0_1 a0_2 a0_3 a0_4 a0_5 a0_6 a0_7 a0_8 a0_9 a0_10) else (quadrigaref04_Right.j2 kj21 (a0_8 || (!(a0_9.toList == ([] : List UInt8)))) a0_0 a0_1 a0_2 a0_3 a0_4 a0_5 a0_6 a0_7 a0_8 a0_9 a0_10)) else (quadrigaref04_Right.j2 kj21 true a0_0 a0_1 a0_2 a0_3 a0_4 a0_5 a0_6 a0_7 a0_8 a0_9 a0_10)) else (quadrigaref04_Right.j2 kj21 true a0_0 a0_1 a0_2 a0_3 a0_4 a0_5 a0_6 a0_7 a0_8 a0_9 a0_10)))) = some r := by rw [if_neg (show ¬ (false = true) by decide)] at H; exact H
              clear H
              have H := H1
              clear H1
              have HC49 := Aside0.mk H
              clear H
              go_upto_region 5 with (fail)
              go_cut [115] (fun v115 wc => ∃ (kq : Nat) (x115_48 : Bool), v115 = .bool x115_48 ∧ Aside0 (quadrigaref04_Right.j2 kq x115_48 a0_0 a0_1 a0_2 a0_3 a0_4 a0_5 a0_6 a0_7 a0_8 a0_9 a0_10 = some r) ∧ Aside0 (kq ≤ kj21) ∧ Aside0 (wc.heap[gb211]? = some (.cells #[.int .i64 a0_0, .int .i64 a0_1, .int .i64 a0_2, .int .i64 a0_3, .int .i64 a0_4, .string a0_5, .bool a0_6, .string a0_7, .bool a0_8, .string a0_9, .int .i64 a0_10] 25 (0, 0))) ∧ Aside0 (Below w.heap.size w wc))
              case first =>
                have H := HC49.out
                clear HC49
                replace H := Option.bind_eq_some_iff.mp H
                obtain ⟨t216, A500, H⟩ := H
                replace H : (if t216 = true then (quadrigaref04_Right.j2 kj21 false a0_0 a0_1 a0_2 a0_3 a0_4 a0_5 a0_6 a0_7 a0_8 a0_9 a0_10) else (if a0_4 = 0 then (if a0_5.toList = ([] : List UInt8) then (if (a0_6 || (!(a0_7.toList == ([] : List UInt8)))) = true then (quadrigaref04_Right.j2 kj21 true a0_0 a0_1 a0_2 a0_3 a0_4 a0_5 a0_6 a0_7 a0_8 a0_9 a0_10) else (quadrigaref04_Right.j2 kj21 (a0_8 || (!(a0_9.toList == ([] : List UInt8)))) a0_0 a0_1 a0_2 a0_3 a0_4 a0_5 a0_6 a0_7 a0_8 a0_9 a0_10)) else (quadrigaref04_Right.j2 kj21 true a0_0 a0_1 a0_2 a0_3 a0_4 a0_5 a0_6 a0_7 a0_8 a0_9 a0_10)) else (quadrigaref04_Right.j2 kj21 true a0_0 a0_1 a0_2 a0_3 a0_4 a0_5 a0_6 a0_7 a0_8 a0_9 a0_10))) = some r := H
                have A50 := Aside0.mk A500
                clear A500
                by_cases c51 : t216 = true
                · subst c51
                  have H1 : (quadrigaref04_Right.j2 kj21 false a0_0 a0_1 a0_2 a0_3 a0_4 a0_5 a0_6 a0_7 a0_8 a0_9 a0_10) = some r := by rw [if_pos rfl] at H; exact H
                  clear H
                  have H := H1
                  clear H1
                  have H' := Aside0.mk H
                  clear H
                  have hcz52_0 : wc.cell? ⟨gb211, 0, none⟩ = some (.int .i64 a0_0) := (blk_cell BK211.out 0).trans rfl
                  have hcz52_1 : wc.cell? ⟨gb211, 1, none⟩ = some (.int .i64 a0_1) := (blk_cell BK211.out 1).trans rfl
                  have hcz52_2 : wc.cell? ⟨gb211, 2, none⟩ = some (.int .i64 a0_2) := (blk_cell BK211.out 2).trans rfl
                  have hcz52_3 : wc.cell? ⟨gb211, 3, none⟩ = some (.int .i64 a0_3) := (blk_cell BK211.out 3).trans rfl
                  have hcz52_4 : wc.cell? ⟨gb211, 4, none⟩ = some (.int .i64 a0_4) := (blk_cell BK211.out 4).trans rfl
                  have hcz52_5 : wc.cell? ⟨gb211, 5, none⟩ = some (.string a0_5) := (blk_cell BK211.out 5).trans rfl
                  have hcz52_6 : wc.cell? ⟨gb211, 6, none⟩ = some (.bool a0_6) := (blk_cell BK211.out 6).trans rfl
                  have hcz52_7 : wc.cell? ⟨gb211, 7, none⟩ = some (.string a0_7) := (blk_cell BK211.out 7).trans rfl
                  have hcz52_8 : wc.cell? ⟨gb211, 8, none⟩ = some (.bool a0_8) := (blk_cell BK211.out 8).trans rfl
                  have hcz52_9 : wc.cell? ⟨gb211, 9, none⟩ = some (.string a0_9) := (blk_cell BK211.out 9).trans rfl
                  have hcz52_10 : wc.cell? ⟨gb211, 10, none⟩ = some (.int .i64 a0_10) := (blk_cell BK211.out 10).trans rfl
                  have hfz52_0 := blk_frozen BK211.out 0
                  have hfz52_1 := blk_frozen BK211.out 1
                  have hfz52_2 := blk_frozen BK211.out 2
                  have hfz52_3 := blk_frozen BK211.out 3
                  have hfz52_4 := blk_frozen BK211.out 4
                  have hfz52_5 := blk_frozen BK211.out 5
                  have hfz52_6 := blk_frozen BK211.out 6
                  have hfz52_7 := blk_frozen BK211.out 7
                  have hfz52_8 := blk_frozen BK211.out 8
                  have hfz52_9 := blk_frozen BK211.out 9
                  have hfz52_10 := blk_frozen BK211.out 10
                  go_wp2_with (first | ((with_reducible refine gate_callee (f := 30) rfl ?_); refine goesL_ (some 92) rfl rfl Tryd.func30 (by kernel_rfl) rfl #[.int .i64 a0_0] rfl (by (try simp only [List.map_toArray, List.map_cons, List.map_nil]); first | done | rfl | (simp only [List.length_drop, List.length_take]; rfl)) ?_; (with_reducible refine (quadrigaref04_page.calls a0_0 true _ A50.out).mono ?_); rintro e w' ⟨rfl, ⟨nd, rfl⟩⟩; refine ⟨_, rfl, ?_⟩))
                  go_meet
                  case rel => exact ⟨_, (false), (by first | rfl | (simp; done) | (simp [*]; done)), H', ⟨by have := HJ1.out; have := HJ21.out; first | omega | exact Nat.le_refl _⟩, ⟨by (with_reducible repeat (first | refine blk_drewN ?_ _ | refine blk_drew ?_ | refine blk_alloc ?_ _)); exact BK211.out⟩, ⟨by repeat (first | (with_reducible first | exact HB.out | apply below_alloc | apply pw_below_drewN | apply below_drew1 | refine below_set ?_ GE211.out) | exact HB.out)⟩⟩
                · replace c51 := Bool.eq_false_iff.mpr c51
                  subst c51
                  have H1 : (if a0_4 = 0 then (if a0_5.toList = ([] : List UInt8) then (if (a0_6 || (!(a0_7.toList == ([] : List UInt8)))) = true then (quadrigaref04_Right.j2 kj21 true a0_0 a0_1 a0_2 a0_3 a0_4 a0_5 a0_6 a0_7 a0_8 a0_9 a0_10) else (quadrigaref04_Right.j2 kj21 (a0_8 || (!(a0_9.toList == ([] : List UInt8)))) a0_0 a0_1 a0_2 a0_3 a0_4 a0_5 a0_6 a0_7 a0_8 a0_9 a0_10)) else (quadrigaref04_Right.j2 kj21 true a0_0 a0_1 a0_2 a0_3 a0_4 a0_5 a0_6 a0_7 a0_8 a0_9 a0_10)) else (quadrigaref04_Right.j2 kj21 true a0_0 a0_1 a0_2 a0_3 a0_4 a0_5 a0_6 a0_7 a0_8 a0_9 a0_10)) = some r := by rw [if_neg (show ¬ (false = true) by decide)] at H; exact H
                  clear H
                  have H := H1
                  clear H1
                  by_cases c53 : a0_4 = 0
                  · rw [if_pos c53] at H
                    have c53b0 : (a0_4 == 0) = true := beq_iff_eq.mpr c53
                    have c53b1 : (a0_4 != 0) = false := bne_eq_false_iff_eq.mpr c53
                    clear c53
                    (first | rw [c53b0] | (simp only [i64_w, i32_w]; rw [c53b0]) | skip)
                    by_cases c54 : a0_5.toList = ([] : List UInt8)
                    · rw [if_pos c54] at H
                      have c54b0 : (a0_5.toList == ([] : List UInt8)) = true := beq_iff_eq.mpr c54
                      have c54b1 : (a0_5.toList != ([] : List UInt8)) = false := bne_eq_false_iff_eq.mpr c54
                      clear c54
                      by_cases c55 : (a0_6 || (!(a0_7.toList == ([] : List UInt8)))) = true
                      · rw [if_pos c55] at H
                        have c55b0 : (a0_6 || (!(a0_7.toList == ([] : List UInt8)))) = true := c55
                        have c55b6 : (a0_6 || !a0_7.toList.isEmpty) = true := by rw [← c55b0]; cases a0_7.toList <;> rfl
                        have c55b7 : (!a0_6 && a0_7.toList.isEmpty) = false := by have e_ := c55b6; revert e_; cases a0_6 <;> cases a0_7.toList.isEmpty <;> simp
                        clear c55
                        have H' := Aside0.mk H
                        clear H
                        have hcz56_0 : wc.cell? ⟨gb211, 0, none⟩ = some (.int .i64 a0_0) := (blk_cell BK211.out 0).trans rfl
                        have hcz56_1 : wc.cell? ⟨gb211, 1, none⟩ = some (.int .i64 a0_1) := (blk_cell BK211.out 1).trans rfl
                        have hcz56_2 : wc.cell? ⟨gb211, 2, none⟩ = some (.int .i64 a0_2) := (blk_cell BK211.out 2).trans rfl
                        have hcz56_3 : wc.cell? ⟨gb211, 3, none⟩ = some (.int .i64 a0_3) := (blk_cell BK211.out 3).trans rfl
                        have hcz56_4 : wc.cell? ⟨gb211, 4, none⟩ = some (.int .i64 a0_4) := (blk_cell BK211.out 4).trans rfl
                        have hcz56_5 : wc.cell? ⟨gb211, 5, none⟩ = some (.string a0_5) := (blk_cell BK211.out 5).trans rfl
                        have hcz56_6 : wc.cell? ⟨gb211, 6, none⟩ = some (.bool a0_6) := (blk_cell BK211.out 6).trans rfl
                        have hcz56_7 : wc.cell? ⟨gb211, 7, none⟩ = some (.string a0_7) := (blk_cell BK211.out 7).trans rfl
                        have hcz56_8 : wc.cell? ⟨gb211, 8, none⟩ = some (.bool a0_8) := (blk_cell BK211.out 8).trans rfl
                        have hcz56_9 : wc.cell? ⟨gb211, 9, none⟩ = some (.string a0_9) := (blk_cell BK211.out 9).trans rfl
                        have hcz56_10 : wc.cell? ⟨gb211, 10, none⟩ = some (.int .i64 a0_10) := (blk_cell BK211.out 10).trans rfl
                        have hfz56_0 := blk_frozen BK211.out 0
                        have hfz56_1 := blk_frozen BK211.out 1
                        have hfz56_2 := blk_frozen BK211.out 2
                        have hfz56_3 := blk_frozen BK211.out 3
                        have hfz56_4 := blk_frozen BK211.out 4
                        have hfz56_5 := blk_frozen BK211.out 5
                        have hfz56_6 := blk_frozen BK211.out 6
                        have hfz56_7 := blk_frozen BK211.out 7
                        have hfz56_8 := blk_frozen BK211.out 8
                        have hfz56_9 := blk_frozen BK211.out 9
                        have hfz56_10 := blk_frozen BK211.out 10
                        go_wp2_with (first | ((with_reducible refine gate_callee (f := 30) rfl ?_); refine goesL_ (some 92) rfl rfl Tryd.func30 (by kernel_rfl) rfl #[.int .i64 a0_0] rfl (by (try simp only [List.map_toArray, List.map_cons, List.map_nil]); first | done | rfl | (simp only [List.length_drop, List.length_take]; rfl)) ?_; (with_reducible refine (quadrigaref04_page.calls a0_0 false _ A50.out).mono ?_); rintro e w' ⟨rfl, ⟨nd, rfl⟩⟩; refine ⟨_, rfl, ?_⟩))
                        go_meet
                        case rel => exact ⟨_, (true), (by first | rfl | (simp; done) | (simp [*]; done)), H', ⟨by have := HJ1.out; have := HJ21.out; first | omega | exact Nat.le_refl _⟩, ⟨by (with_reducible repeat (first | refine blk_drewN ?_ _ | refine blk_drew ?_ | refine blk_alloc ?_ _)); exact BK211.out⟩, ⟨by repeat (first | (with_reducible first | exact HB.out | apply below_alloc | apply pw_below_drewN | apply below_drew1 | refine below_set ?_ GE211.out) | exact HB.out)⟩⟩
                      · rw [if_neg c55] at H
                        have c55b0 : (a0_6 || (!(a0_7.toList == ([] : List UInt8)))) = false := by simpa using c55
                        have c55b6 : (a0_6 || !a0_7.toList.isEmpty) = false := by rw [← c55b0]; cases a0_7.toList <;> rfl
                        have c55b7 : (!a0_6 && a0_7.toList.isEmpty) = true := by have e_ := c55b6; revert e_; cases a0_6 <;> cases a0_7.toList.isEmpty <;> simp
                        clear c55
                        have H' := Aside0.mk H
                        clear H
                        have hcz57_0 : wc.cell? ⟨gb211, 0, none⟩ = some (.int .i64 a0_0) := (blk_cell BK211.out 0).trans rfl
                        have hcz57_1 : wc.cell? ⟨gb211, 1, none⟩ = some (.int .i64 a0_1) := (blk_cell BK211.out 1).trans rfl
                        have hcz57_2 : wc.cell? ⟨gb211, 2, none⟩ = some (.int .i64 a0_2) := (blk_cell BK211.out 2).trans rfl
                        have hcz57_3 : wc.cell? ⟨gb211, 3, none⟩ = some (.int .i64 a0_3) := (blk_cell BK211.out 3).trans rfl
                        have hcz57_4 : wc.cell? ⟨gb211, 4, none⟩ = some (.int .i64 a0_4) := (blk_cell BK211.out 4).trans rfl
                        have hcz57_5 : wc.cell? ⟨gb211, 5, none⟩ = some (.string a0_5) := (blk_cell BK211.out 5).trans rfl
                        have hcz57_6 : wc.cell? ⟨gb211, 6, none⟩ = some (.bool a0_6) := (blk_cell BK211.out 6).trans rfl
                        have hcz57_7 : wc.cell? ⟨gb211, 7, none⟩ = some (.string a0_7) := (blk_cell BK211.out 7).trans rfl
                        have hcz57_8 : wc.cell? ⟨gb211, 8, none⟩ = some (.bool a0_8) := (blk_cell BK211.out 8).trans rfl
                        have hcz57_9 : wc.cell? ⟨gb211, 9, none⟩ = some (.string a0_9) := (blk_cell BK211.out 9).trans rfl
                        have hcz57_10 : wc.cell? ⟨gb211, 10, none⟩ = some (.int .i64 a0_10) := (blk_cell BK211.out 10).trans rfl
                        have hfz57_0 := blk_frozen BK211.out 0
                        have hfz57_1 := blk_frozen BK211.out 1
                        have hfz57_2 := blk_frozen BK211.out 2
                        have hfz57_3 := blk_frozen BK211.out 3
                        have hfz57_4 := blk_frozen BK211.out 4
                        have hfz57_5 := blk_frozen BK211.out 5
                        have hfz57_6 := blk_frozen BK211.out 6
                        have hfz57_7 := blk_frozen BK211.out 7
                        have hfz57_8 := blk_frozen BK211.out 8
                        have hfz57_9 := blk_frozen BK211.out 9
                        have hfz57_10 := blk_frozen BK211.out 10
                        go_wp2_with (first | ((with_reducible refine gate_callee (f := 30) rfl ?_); refine goesL_ (some 92) rfl rfl Tryd.func30 (by kernel_rfl) rfl #[.int .i64 a0_0] rfl (by (try simp only [List.map_toArray, List.map_cons, List.map_nil]); first | done | rfl | (simp only [List.length_drop, List.length_take]; rfl)) ?_; (with_reducible refine (quadrigaref04_page.calls a0_0 false _ A50.out).mono ?_); rintro e w' ⟨rfl, ⟨nd, rfl⟩⟩; refine ⟨_, rfl, ?_⟩))
                        go_meet
                        case rel => exact ⟨_, ((a0_8 || (!(a0_9.toList == ([] : List UInt8))))), (by first | rfl | (simp; done) | (simp [*]; done)), H', ⟨by have := HJ1.out; have := HJ21.out; first | omega | exact Nat.le_refl _⟩, ⟨by (with_reducible repeat (first | refine blk_drewN ?_ _ | refine blk_drew ?_ | refine blk_alloc ?_ _)); exact BK211.out⟩, ⟨by repeat (first | (with_reducible first | exact HB.out | apply below_alloc | apply pw_below_drewN | apply below_drew1 | refine below_set ?_ GE211.out) | exact HB.out)⟩⟩
                    · rw [if_neg c54] at H
                      have c54b0 : (a0_5.toList == ([] : List UInt8)) = false := beq_eq_false_iff_ne.mpr c54
                      have c54b1 : (a0_5.toList != ([] : List UInt8)) = true := bne_iff_ne.mpr c54
                      have H' := Aside0.mk H
                      clear H
                      have hcz58_0 : wc.cell? ⟨gb211, 0, none⟩ = some (.int .i64 a0_0) := (blk_cell BK211.out 0).trans rfl
                      have hcz58_1 : wc.cell? ⟨gb211, 1, none⟩ = some (.int .i64 a0_1) := (blk_cell BK211.out 1).trans rfl
                      have hcz58_2 : wc.cell? ⟨gb211, 2, none⟩ = some (.int .i64 a0_2) := (blk_cell BK211.out 2).trans rfl
                      have hcz58_3 : wc.cell? ⟨gb211, 3, none⟩ = some (.int .i64 a0_3) := (blk_cell BK211.out 3).trans rfl
                      have hcz58_4 : wc.cell? ⟨gb211, 4, none⟩ = some (.int .i64 a0_4) := (blk_cell BK211.out 4).trans rfl
                      have hcz58_5 : wc.cell? ⟨gb211, 5, none⟩ = some (.string a0_5) := (blk_cell BK211.out 5).trans rfl
                      have hcz58_6 : wc.cell? ⟨gb211, 6, none⟩ = some (.bool a0_6) := (blk_cell BK211.out 6).trans rfl
                      have hcz58_7 : wc.cell? ⟨gb211, 7, none⟩ = some (.string a0_7) := (blk_cell BK211.out 7).trans rfl
                      have hcz58_8 : wc.cell? ⟨gb211, 8, none⟩ = some (.bool a0_8) := (blk_cell BK211.out 8).trans rfl
                      have hcz58_9 : wc.cell? ⟨gb211, 9, none⟩ = some (.string a0_9) := (blk_cell BK211.out 9).trans rfl
                      have hcz58_10 : wc.cell? ⟨gb211, 10, none⟩ = some (.int .i64 a0_10) := (blk_cell BK211.out 10).trans rfl
                      have hfz58_0 := blk_frozen BK211.out 0
                      have hfz58_1 := blk_frozen BK211.out 1
                      have hfz58_2 := blk_frozen BK211.out 2
                      have hfz58_3 := blk_frozen BK211.out 3
                      have hfz58_4 := blk_frozen BK211.out 4
                      have hfz58_5 := blk_frozen BK211.out 5
                      have hfz58_6 := blk_frozen BK211.out 6
                      have hfz58_7 := blk_frozen BK211.out 7
                      have hfz58_8 := blk_frozen BK211.out 8
                      have hfz58_9 := blk_frozen BK211.out 9
                      have hfz58_10 := blk_frozen BK211.out 10
                      go_wp2_with (first | ((with_reducible refine gate_callee (f := 30) rfl ?_); refine goesL_ (some 92) rfl rfl Tryd.func30 (by kernel_rfl) rfl #[.int .i64 a0_0] rfl (by (try simp only [List.map_toArray, List.map_cons, List.map_nil]); first | done | rfl | (simp only [List.length_drop, List.length_take]; rfl)) ?_; (with_reducible refine (quadrigaref04_page.calls a0_0 false _ A50.out).mono ?_); rintro e w' ⟨rfl, ⟨nd, rfl⟩⟩; refine ⟨_, rfl, ?_⟩))
                      go_meet
                      case rel => exact ⟨_, (true), (by first | rfl | (simp; done) | (simp [*]; done)), H', ⟨by have := HJ1.out; have := HJ21.out; first | omega | exact Nat.le_refl _⟩, ⟨by (with_reducible repeat (first | refine blk_drewN ?_ _ | refine blk_drew ?_ | refine blk_alloc ?_ _)); exact BK211.out⟩, ⟨by repeat (first | (with_reducible first | exact HB.out | apply below_alloc | apply pw_below_drewN | apply below_drew1 | refine below_set ?_ GE211.out) | exact HB.out)⟩⟩
                  · rw [if_neg c53] at H
                    have c53b0 : (a0_4 == 0) = false := beq_eq_false_iff_ne.mpr c53
                    have c53b1 : (a0_4 != 0) = true := bne_iff_ne.mpr c53
                    (first | rw [c53b0] | (simp only [i64_w, i32_w]; rw [c53b0]) | skip)
                    have H' := Aside0.mk H
                    clear H
                    have hcz59_0 : wc.cell? ⟨gb211, 0, none⟩ = some (.int .i64 a0_0) := (blk_cell BK211.out 0).trans rfl
                    have hcz59_1 : wc.cell? ⟨gb211, 1, none⟩ = some (.int .i64 a0_1) := (blk_cell BK211.out 1).trans rfl
                    have hcz59_2 : wc.cell? ⟨gb211, 2, none⟩ = some (.int .i64 a0_2) := (blk_cell BK211.out 2).trans rfl
                    have hcz59_3 : wc.cell? ⟨gb211, 3, none⟩ = some (.int .i64 a0_3) := (blk_cell BK211.out 3).trans rfl
                    have hcz59_4 : wc.cell? ⟨gb211, 4, none⟩ = some (.int .i64 a0_4) := (blk_cell BK211.out 4).trans rfl
                    have hcz59_5 : wc.cell? ⟨gb211, 5, none⟩ = some (.string a0_5) := (blk_cell BK211.out 5).trans rfl
                    have hcz59_6 : wc.cell? ⟨gb211, 6, none⟩ = some (.bool a0_6) := (blk_cell BK211.out 6).trans rfl
                    have hcz59_7 : wc.cell? ⟨gb211, 7, none⟩ = some (.string a0_7) := (blk_cell BK211.out 7).trans rfl
                    have hcz59_8 : wc.cell? ⟨gb211, 8, none⟩ = some (.bool a0_8) := (blk_cell BK211.out 8).trans rfl
                    have hcz59_9 : wc.cell? ⟨gb211, 9, none⟩ = some (.string a0_9) := (blk_cell BK211.out 9).trans rfl
                    have hcz59_10 : wc.cell? ⟨gb211, 10, none⟩ = some (.int .i64 a0_10) := (blk_cell BK211.out 10).trans rfl
                    have hfz59_0 := blk_frozen BK211.out 0
                    have hfz59_1 := blk_frozen BK211.out 1
                    have hfz59_2 := blk_frozen BK211.out 2
                    have hfz59_3 := blk_frozen BK211.out 3
                    have hfz59_4 := blk_frozen BK211.out 4
                    have hfz59_5 := blk_frozen BK211.out 5
                    have hfz59_6 := blk_frozen BK211.out 6
                    have hfz59_7 := blk_frozen BK211.out 7
                    have hfz59_8 := blk_frozen BK211.out 8
                    have hfz59_9 := blk_frozen BK211.out 9
                    have hfz59_10 := blk_frozen BK211.out 10
                    go_wp2_with (first | ((with_reducible refine gate_callee (f := 30) rfl ?_); refine goesL_ (some 92) rfl rfl Tryd.func30 (by kernel_rfl) rfl #[.int .i64 a0_0] rfl (by (try simp only [List.map_toArray, List.map_cons, List.map_nil]); first | done | rfl | (simp only [List.length_drop, List.length_take]; rfl)) ?_; (with_reducible refine (quadrigaref04_page.calls a0_0 false _ A50.out).mono ?_); rintro e w' ⟨rfl, ⟨nd, rfl⟩⟩; refine ⟨_, rfl, ?_⟩))
                    go_meet
                    case rel => exact ⟨_, (true), (by first | rfl | (simp; done) | (simp [*]; done)), H', ⟨by have := HJ1.out; have := HJ21.out; first | omega | exact Nat.le_refl _⟩, ⟨by (with_reducible repeat (first | refine blk_drewN ?_ _ | refine blk_drew ?_ | refine blk_alloc ?_ _)); exact BK211.out⟩, ⟨by repeat (first | (with_reducible first | exact HB.out | apply below_alloc | apply pw_below_drewN | apply below_drew1 | refine below_set ?_ GE211.out) | exact HB.out)⟩⟩
              case rest =>
                clear HC49
                try clear p2
                try clear c3
                try clear c4
                try clear c5
                try clear c30
                try clear c48
                try clear c51
                try clear c53
                try clear c53b0
                try clear c53b1
                try clear c54
                try clear c54b0
                try clear c54b1
                try clear c55
                try clear c55b0
                try clear hcz15_5
                try clear hcz15_6
                try clear hcz15_7
                try clear hcz15_8
                try clear hcz15_9
                try clear hcz17_0
                try clear hcz17_1
                try clear hcz17_10
                try clear hcz17_2
                try clear hcz17_3
                try clear hcz17_4
                try clear hcz17_5
                try clear hcz17_6
                try clear hcz17_7
                try clear hcz17_8
                try clear hcz17_9
                try clear hcz19_0
                try clear hcz19_1
                try clear hcz19_10
                try clear hcz19_2
                try clear hcz19_3
                try clear hcz19_4
                try clear hcz19_5
                try clear hcz19_6
                try clear hcz19_7
                try clear hcz19_8
                try clear hcz19_9
                try clear hcz20_0
                try clear hcz20_1
                try clear hcz20_10
                try clear hcz20_2
                try clear hcz20_3
                try clear hcz20_4
                try clear hcz20_5
                try clear hcz20_6
                try clear hcz20_7
                try clear hcz20_8
                try clear hcz20_9
                try clear hcz26_0
                try clear hcz26_1
                try clear hcz26_10
                try clear hcz26_2
                try clear hcz26_3
                try clear hcz26_4
                try clear hcz26_5
                try clear hcz26_6
                try clear hcz26_7
                try clear hcz26_8
                try clear hcz26_9
                try clear hcz28_0
                try clear hcz28_1
                try clear hcz28_10
                try clear hcz28_2
                try clear hcz28_3
                try clear hcz28_4
                try clear hcz28_5
                try clear hcz28_6
                try clear hcz28_7
                try clear hcz28_8
                try clear hcz28_9
                try clear hcz35_0
                try clear hcz35_1
                try clear hcz35_10
                try clear hcz35_2
                try clear hcz35_3
                try clear hcz35_4
                try clear hcz35_5
                try clear hcz35_6
                try clear hcz35_7
                try clear hcz35_8
                try clear hcz35_9
                try clear hcz37_0
                try clear hcz37_1
                try clear hcz37_10
                try clear hcz37_2
                try clear hcz37_3
                try clear hcz37_4
                try clear hcz37_5
                try clear hcz37_6
                try clear hcz37_7
                try clear hcz37_8
                try clear hcz37_9
                try clear hcz39_0
                try clear hcz39_1
                try clear hcz39_10
                try clear hcz39_2
                try clear hcz39_3
                try clear hcz39_4
                try clear hcz39_5
                try clear hcz39_6
                try clear hcz39_7
                try clear hcz39_8
                try clear hcz39_9
                try clear hcz40_0
                try clear hcz40_1
                try clear hcz40_10
                try clear hcz40_2
                try clear hcz40_3
                try clear hcz40_4
                try clear hcz40_5
                try clear hcz40_6
                try clear hcz40_7
                try clear hcz40_8
                try clear hcz40_9
                try clear hcz42_0
                try clear hcz42_1
                try clear hcz42_10
                try clear hcz42_2
                try clear hcz42_3
                try clear hcz42_4
                try clear hcz42_5
                try clear hcz42_6
                try clear hcz42_7
                try clear hcz42_8
                try clear hcz42_9
                try clear hcz44_0
                try clear hcz44_1
                try clear hcz44_10
                try clear hcz44_2
                try clear hcz44_3
                try clear hcz44_4
                try clear hcz44_5
                try clear hcz44_6
                try clear hcz44_7
                try clear hcz44_8
                try clear hcz44_9
                try clear hcz46_0
                try clear hcz46_1
                try clear hcz46_10
                try clear hcz46_2
                try clear hcz46_3
                try clear hcz46_4
                try clear hcz46_5
                try clear hcz46_6
                try clear hcz46_7
                try clear hcz46_8
                try clear hcz46_9
                try clear hcz47_0
                try clear hcz47_1
                try clear hcz47_10
                try clear hcz47_2
                try clear hcz47_3
                try clear hcz47_4
                try clear hcz47_5
                try clear hcz47_6
                try clear hcz47_7
                try clear hcz47_8
                try clear hcz47_9
                try clear hcz52_0
                try clear hcz52_1
                try clear hcz52_10
                try clear hcz52_2
                try clear hcz52_3
                try clear hcz52_4
                try clear hcz52_5
                try clear hcz52_6
                try clear hcz52_7
                try clear hcz52_8
                try clear hcz52_9
                try clear hcz56_0
                try clear hcz56_1
                try clear hcz56_10
                try clear hcz56_2
                try clear hcz56_3
                try clear hcz56_4
                try clear hcz56_5
                try clear hcz56_6
                try clear hcz56_7
                try clear hcz56_8
                try clear hcz56_9
                try clear hcz57_0
                try clear hcz57_1
                try clear hcz57_10
                try clear hcz57_2
                try clear hcz57_3
                try clear hcz57_4
                try clear hcz57_5
                try clear hcz57_6
                try clear hcz57_7
                try clear hcz57_8
                try clear hcz57_9
                try clear hcz58_0
                try clear hcz58_1
                try clear hcz58_10
                try clear hcz58_2
                try clear hcz58_3
                try clear hcz58_4
                try clear hcz58_5
                try clear hcz58_6
                try clear hcz58_7
                try clear hcz58_8
                try clear hcz58_9
                try clear hcz59_0
                try clear hcz59_1
                try clear hcz59_10
                try clear hcz59_2
                try clear hcz59_3
                try clear hcz59_4
                try clear hcz59_5
                try clear hcz59_6
                try clear hcz59_7
                try clear hcz59_8
                try clear hcz59_9
                try clear hcz5_0
                try clear hcz5_1
                try clear hcz5_10
                try clear hcz5_2
                try clear hcz5_3
                try clear hcz5_4
                try clear hcz5_5
                try clear hcz5_6
                try clear hcz5_7
                try clear hcz5_8
                try clear hcz5_9
                try clear hcz7_0
                try clear hcz7_1
                try clear hcz7_10
                try clear hcz7_2
                try clear hcz7_3
                try clear hcz7_4
                try clear hcz7_5
                try clear hcz7_6
                try clear hcz7_7
                try clear hcz7_8
                try clear hcz7_9
                try clear hcz9_0
                try clear hcz9_1
                try clear hcz9_10
                try clear hcz9_2
                try clear hcz9_3
                try clear hcz9_4
                try clear hcz9_5
                try clear hcz9_6
                try clear hcz9_7
                try clear hcz9_8
                try clear hcz9_9
                try clear hfz11_0
                try clear hfz11_1
                try clear hfz11_10
                try clear hfz11_2
                try clear hfz11_3
                try clear hfz11_4
                try clear hfz11_5
                try clear hfz11_6
                try clear hfz11_7
                try clear hfz11_8
                try clear hfz11_9
                try clear hfz13_0
                try clear hfz13_1
                try clear hfz13_10
                try clear hfz13_2
                try clear hfz13_3
                try clear hfz13_4
                try clear hfz13_5
                try clear hfz13_6
                try clear hfz13_7
                try clear hfz13_8
                try clear hfz13_9
                try clear hfz15_0
                try clear hfz15_1
                try clear hfz15_10
                try clear hfz15_2
                try clear hfz15_3
                try clear hfz15_4
                try clear hfz15_5
                try clear hfz15_6
                try clear hfz15_7
                try clear hfz15_8
                try clear hfz15_9
                try clear hfz17_0
                try clear hfz17_1
                try clear hfz17_10
                try clear hfz17_2
                try clear hfz17_3
                try clear hfz17_4
                try clear hfz17_5
                try clear hfz17_6
                try clear hfz17_7
                try clear hfz17_8
                try clear hfz17_9
                try clear hfz19_0
                try clear hfz19_1
                try clear hfz19_10
                try clear hfz19_2
                try clear hfz19_3
                try clear hfz19_4
                try clear hfz19_5
                try clear hfz19_6
                try clear hfz19_7
                try clear hfz19_8
                try clear hfz19_9
                try clear hfz20_0
                try clear hfz20_1
                try clear hfz20_10
                try clear hfz20_2
                try clear hfz20_3
                try clear hfz20_4
                try clear hfz20_5
                try clear hfz20_6
                try clear hfz20_7
                try clear hfz20_8
                try clear hfz20_9
                try clear hfz26_0
                try clear hfz26_1
                try clear hfz26_10
                try clear hfz26_2
                try clear hfz26_3
                try clear hfz26_4
                try clear hfz26_5
                try clear hfz26_6
                try clear hfz26_7
                try clear hfz26_8
                try clear hfz26_9
                try clear hfz28_0
                try clear hfz28_1
                try clear hfz28_10
                try clear hfz28_2
                try clear hfz28_3
                try clear hfz28_4
                try clear hfz28_5
                try clear hfz28_6
                try clear hfz28_7
                try clear hfz28_8
                try clear hfz28_9
                try clear hfz35_0
                try clear hfz35_1
                try clear hfz35_10
                try clear hfz35_2
                try clear hfz35_3
                try clear hfz35_4
                try clear hfz35_5
                try clear hfz35_6
                try clear hfz35_7
                try clear hfz35_8
                try clear hfz35_9
                try clear hfz37_0
                try clear hfz37_1
                try clear hfz37_10
                try clear hfz37_2
                try clear hfz37_3
                try clear hfz37_4
                try clear hfz37_5
                try clear hfz37_6
                try clear hfz37_7
                try clear hfz37_8
                try clear hfz37_9
                try clear hfz39_0
                try clear hfz39_1
                try clear hfz39_10
                try clear hfz39_2
                try clear hfz39_3
                try clear hfz39_4
                try clear hfz39_5
                try clear hfz39_6
                try clear hfz39_7
                try clear hfz39_8
                try clear hfz39_9
                try clear hfz40_0
                try clear hfz40_1
                try clear hfz40_10
                try clear hfz40_2
                try clear hfz40_3
                try clear hfz40_4
                try clear hfz40_5
                try clear hfz40_6
                try clear hfz40_7
                try clear hfz40_8
                try clear hfz40_9
                try clear hfz42_0
                try clear hfz42_1
                try clear hfz42_10
                try clear hfz42_2
                try clear hfz42_3
                try clear hfz42_4
                try clear hfz42_5
                try clear hfz42_6
                try clear hfz42_7
                try clear hfz42_8
                try clear hfz42_9
                try clear hfz44_0
                try clear hfz44_1
                try clear hfz44_10
                try clear hfz44_2
                try clear hfz44_3
                try clear hfz44_4
                try clear hfz44_5
                try clear hfz44_6
                try clear hfz44_7
                try clear hfz44_8
                try clear hfz44_9
                try clear hfz46_0
                try clear hfz46_1
                try clear hfz46_10
                try clear hfz46_2
                try clear hfz46_3
                try clear hfz46_4
                try clear hfz46_5
                try clear hfz46_6
                try clear hfz46_7
                try clear hfz46_8
                try clear hfz46_9
                try clear hfz47_0
                try clear hfz47_1
                try clear hfz47_10
                try clear hfz47_2
                try clear hfz47_3
                try clear hfz47_4
                try clear hfz47_5
                try clear hfz47_6
                try clear hfz47_7
                try clear hfz47_8
                try clear hfz47_9
                try clear hfz52_0
                try clear hfz52_1
                try clear hfz52_10
                try clear hfz52_2
                try clear hfz52_3
                try clear hfz52_4
                try clear hfz52_5
                try clear hfz52_6
                try clear hfz52_7
                try clear hfz52_8
                try clear hfz52_9
                try clear hfz56_0
                try clear hfz56_1
                try clear hfz56_10
                try clear hfz56_2
                try clear hfz56_3
                try clear hfz56_4
                try clear hfz56_5
                try clear hfz56_6
                try clear hfz56_7
                try clear hfz56_8
                try clear hfz56_9
                try clear hfz57_0
                try clear hfz57_1
                try clear hfz57_10
                try clear hfz57_2
                try clear hfz57_3
                try clear hfz57_4
                try clear hfz57_5
                try clear hfz57_6
                try clear hfz57_7
                try clear hfz57_8
                try clear hfz57_9
                try clear hfz58_0
                try clear hfz58_1
                try clear hfz58_10
                try clear hfz58_2
                try clear hfz58_3
                try clear hfz58_4
                try clear hfz58_5
                try clear hfz58_6
                try clear hfz58_7
                try clear hfz58_8
                try clear hfz58_9
                try clear hfz59_0
                try clear hfz59_1
                try clear hfz59_10
                try clear hfz59_2
                try clear hfz59_3
                try clear hfz59_4
                try clear hfz59_5
                try clear hfz59_6
                try clear hfz59_7
                try clear hfz59_8
                try clear hfz59_9
                try clear hfz5_0
                try clear hfz5_1
                try clear hfz5_10
                try clear hfz5_2
                try clear hfz5_3
                try clear hfz5_4
                try clear hfz5_5
                try clear hfz5_6
                try clear hfz5_7
                try clear hfz5_8
                try clear hfz5_9
                try clear hfz7_0
                try clear hfz7_1
                try clear hfz7_10
                try clear hfz7_2
                try clear hfz7_3
                try clear hfz7_4
                try clear hfz7_5
                try clear hfz7_6
                try clear hfz7_7
                try clear hfz7_8
                try clear hfz7_9
                try clear hfz9_0
                try clear hfz9_1
                try clear hfz9_10
                try clear hfz9_2
                try clear hfz9_3
                try clear hfz9_4
                try clear hfz9_5
                try clear hfz9_6
                try clear hfz9_7
                try clear hfz9_8
                try clear hfz9_9
                try clear p2
                obtain ⟨kq, x115_48, rfl, HA, HJ48, BK211, HB⟩ := hcut
                cases kq with
                | zero => exact absurd HA.out (by simp [quadrigaref04_Right.j2])
                | succ kj48 =>
                  have H := HA.out
                  clear HA
                  simp only [quadrigaref04_Right.j2] at H
                  by_cases c60 : x115_48 = true
                  · subst c60
                    have H1 : (some false) = some r := by rw [if_pos rfl] at H; exact H
                    clear H
                    have H := H1
                    clear H1
                    obtain rfl := Option.some.inj H
                    go_wp2
                    go_ret
                    exact ⟨by first | rfl | (simp [errW_none, errW_some] <;> rfl) | (simp [*, errW_none, errW_some] <;> rfl), by repeat (first | (with_reducible first | exact HB.out | apply below_alloc | apply pw_below_drewN | apply below_drew1 | refine below_set ?_ GE211.out) | exact HB.out)⟩
                  · replace c60 := Bool.eq_false_iff.mpr c60
                    subst c60
                    have H1 : (if a0_0 = 3 then (if a0_10 ≥ 1 then (some (decide (a0_10 ≤ a0_3))) else (some false)) else (if a0_0 = 4 then (if a0_10 ≥ 0 then (some (decide (a0_10 < 256))) else (some false)) else (some (a0_10 == 0)))) = some r := by rw [if_neg (show ¬ (false = true) by decide)] at H; exact H
                    clear H
                    have H := H1
                    clear H1
                    by_cases c61 : a0_0 = 3
                    · rw [if_pos c61] at H
                      have c61b0 : (a0_0 == 3) = true := beq_iff_eq.mpr c61
                      have c61b1 : (a0_0 != 3) = false := bne_eq_false_iff_eq.mpr c61
                      clear c61
                      by_cases c62 : a0_10 ≥ 1
                      · rw [if_pos c62] at H
                        have c62b0 : decide (1 ≤ a0_10) = true := decide_eq_true c62
                        clear c62
                        obtain rfl := Option.some.inj H
                        have hcz63_0 : wc.cell? ⟨gb211, 0, none⟩ = some (.int .i64 a0_0) := (blk_cell BK211.out 0).trans rfl
                        have hcz63_1 : wc.cell? ⟨gb211, 1, none⟩ = some (.int .i64 a0_1) := (blk_cell BK211.out 1).trans rfl
                        have hcz63_2 : wc.cell? ⟨gb211, 2, none⟩ = some (.int .i64 a0_2) := (blk_cell BK211.out 2).trans rfl
                        have hcz63_3 : wc.cell? ⟨gb211, 3, none⟩ = some (.int .i64 a0_3) := (blk_cell BK211.out 3).trans rfl
                        have hcz63_4 : wc.cell? ⟨gb211, 4, none⟩ = some (.int .i64 a0_4) := (blk_cell BK211.out 4).trans rfl
                        have hcz63_5 : wc.cell? ⟨gb211, 5, none⟩ = some (.string a0_5) := (blk_cell BK211.out 5).trans rfl
                        have hcz63_6 : wc.cell? ⟨gb211, 6, none⟩ = some (.bool a0_6) := (blk_cell BK211.out 6).trans rfl
                        have hcz63_7 : wc.cell? ⟨gb211, 7, none⟩ = some (.string a0_7) := (blk_cell BK211.out 7).trans rfl
                        have hcz63_8 : wc.cell? ⟨gb211, 8, none⟩ = some (.bool a0_8) := (blk_cell BK211.out 8).trans rfl
                        have hcz63_9 : wc.cell? ⟨gb211, 9, none⟩ = some (.string a0_9) := (blk_cell BK211.out 9).trans rfl
                        have hcz63_10 : wc.cell? ⟨gb211, 10, none⟩ = some (.int .i64 a0_10) := (blk_cell BK211.out 10).trans rfl
                        have hfz63_0 := blk_frozen BK211.out 0
                        have hfz63_1 := blk_frozen BK211.out 1
                        have hfz63_2 := blk_frozen BK211.out 2
                        have hfz63_3 := blk_frozen BK211.out 3
                        have hfz63_4 := blk_frozen BK211.out 4
                        have hfz63_5 := blk_frozen BK211.out 5
                        have hfz63_6 := blk_frozen BK211.out 6
                        have hfz63_7 := blk_frozen BK211.out 7
                        have hfz63_8 := blk_frozen BK211.out 8
                        have hfz63_9 := blk_frozen BK211.out 9
                        have hfz63_10 := blk_frozen BK211.out 10
                        go_wp2
                        go_ret
                        exact ⟨by first | rfl | (simp [errW_none, errW_some] <;> rfl) | (simp [*, errW_none, errW_some] <;> rfl), by repeat (first | (with_reducible first | exact HB.out | apply below_alloc | apply pw_below_drewN | apply below_drew1 | refine below_set ?_ GE211.out) | exact HB.out)⟩
                      · rw [if_neg c62] at H
                        have c62b0 : decide (1 ≤ a0_10) = false := decide_eq_false c62
                        clear c62
                        obtain rfl := Option.some.inj H
                        have hcz64_0 : wc.cell? ⟨gb211, 0, none⟩ = some (.int .i64 a0_0) := (blk_cell BK211.out 0).trans rfl
                        have hcz64_1 : wc.cell? ⟨gb211, 1, none⟩ = some (.int .i64 a0_1) := (blk_cell BK211.out 1).trans rfl
                        have hcz64_2 : wc.cell? ⟨gb211, 2, none⟩ = some (.int .i64 a0_2) := (blk_cell BK211.out 2).trans rfl
                        have hcz64_3 : wc.cell? ⟨gb211, 3, none⟩ = some (.int .i64 a0_3) := (blk_cell BK211.out 3).trans rfl
                        have hcz64_4 : wc.cell? ⟨gb211, 4, none⟩ = some (.int .i64 a0_4) := (blk_cell BK211.out 4).trans rfl
                        have hcz64_5 : wc.cell? ⟨gb211, 5, none⟩ = some (.string a0_5) := (blk_cell BK211.out 5).trans rfl
                        have hcz64_6 : wc.cell? ⟨gb211, 6, none⟩ = some (.bool a0_6) := (blk_cell BK211.out 6).trans rfl
                        have hcz64_7 : wc.cell? ⟨gb211, 7, none⟩ = some (.string a0_7) := (blk_cell BK211.out 7).trans rfl
                        have hcz64_8 : wc.cell? ⟨gb211, 8, none⟩ = some (.bool a0_8) := (blk_cell BK211.out 8).trans rfl
                        have hcz64_9 : wc.cell? ⟨gb211, 9, none⟩ = some (.string a0_9) := (blk_cell BK211.out 9).trans rfl
                        have hcz64_10 : wc.cell? ⟨gb211, 10, none⟩ = some (.int .i64 a0_10) := (blk_cell BK211.out 10).trans rfl
                        have hfz64_0 := blk_frozen BK211.out 0
                        have hfz64_1 := blk_frozen BK211.out 1
                        have hfz64_2 := blk_frozen BK211.out 2
                        have hfz64_3 := blk_frozen BK211.out 3
                        have hfz64_4 := blk_frozen BK211.out 4
                        have hfz64_5 := blk_frozen BK211.out 5
                        have hfz64_6 := blk_frozen BK211.out 6
                        have hfz64_7 := blk_frozen BK211.out 7
                        have hfz64_8 := blk_frozen BK211.out 8
                        have hfz64_9 := blk_frozen BK211.out 9
                        have hfz64_10 := blk_frozen BK211.out 10
                        go_wp2
                        go_ret
                        exact ⟨by first | rfl | (simp [errW_none, errW_some] <;> rfl) | (simp [*, errW_none, errW_some] <;> rfl), by repeat (first | (with_reducible first | exact HB.out | apply below_alloc | apply pw_below_drewN | apply below_drew1 | refine below_set ?_ GE211.out) | exact HB.out)⟩
                    · rw [if_neg c61] at H
                      have c61b0 : (a0_0 == 3) = false := beq_eq_false_iff_ne.mpr c61
                      have c61b1 : (a0_0 != 3) = true := bne_iff_ne.mpr c61
                      by_cases c65 : a0_0 = 4
                      · rw [if_pos c65] at H
                        have c65b0 : (a0_0 == 4) = true := beq_iff_eq.mpr c65
                        have c65b1 : (a0_0 != 4) = false := bne_eq_false_iff_eq.mpr c65
                        clear c65
                        by_cases c66 : a0_10 ≥ 0
                        · rw [if_pos c66] at H
                          have c66b0 : decide (0 ≤ a0_10) = true := decide_eq_true c66
                          clear c66
                          obtain rfl := Option.some.inj H
                          have hcz67_0 : wc.cell? ⟨gb211, 0, none⟩ = some (.int .i64 a0_0) := (blk_cell BK211.out 0).trans rfl
                          have hcz67_1 : wc.cell? ⟨gb211, 1, none⟩ = some (.int .i64 a0_1) := (blk_cell BK211.out 1).trans rfl
                          have hcz67_2 : wc.cell? ⟨gb211, 2, none⟩ = some (.int .i64 a0_2) := (blk_cell BK211.out 2).trans rfl
                          have hcz67_3 : wc.cell? ⟨gb211, 3, none⟩ = some (.int .i64 a0_3) := (blk_cell BK211.out 3).trans rfl
                          have hcz67_4 : wc.cell? ⟨gb211, 4, none⟩ = some (.int .i64 a0_4) := (blk_cell BK211.out 4).trans rfl
                          have hcz67_5 : wc.cell? ⟨gb211, 5, none⟩ = some (.string a0_5) := (blk_cell BK211.out 5).trans rfl
                          have hcz67_6 : wc.cell? ⟨gb211, 6, none⟩ = some (.bool a0_6) := (blk_cell BK211.out 6).trans rfl
                          have hcz67_7 : wc.cell? ⟨gb211, 7, none⟩ = some (.string a0_7) := (blk_cell BK211.out 7).trans rfl
                          have hcz67_8 : wc.cell? ⟨gb211, 8, none⟩ = some (.bool a0_8) := (blk_cell BK211.out 8).trans rfl
                          have hcz67_9 : wc.cell? ⟨gb211, 9, none⟩ = some (.string a0_9) := (blk_cell BK211.out 9).trans rfl
                          have hcz67_10 : wc.cell? ⟨gb211, 10, none⟩ = some (.int .i64 a0_10) := (blk_cell BK211.out 10).trans rfl
                          have hfz67_0 := blk_frozen BK211.out 0
                          have hfz67_1 := blk_frozen BK211.out 1
                          have hfz67_2 := blk_frozen BK211.out 2
                          have hfz67_3 := blk_frozen BK211.out 3
                          have hfz67_4 := blk_frozen BK211.out 4
                          have hfz67_5 := blk_frozen BK211.out 5
                          have hfz67_6 := blk_frozen BK211.out 6
                          have hfz67_7 := blk_frozen BK211.out 7
                          have hfz67_8 := blk_frozen BK211.out 8
                          have hfz67_9 := blk_frozen BK211.out 9
                          have hfz67_10 := blk_frozen BK211.out 10
                          go_wp2
                          go_ret
                          exact ⟨by first | rfl | (simp [errW_none, errW_some] <;> rfl) | (simp [*, errW_none, errW_some] <;> rfl), by repeat (first | (with_reducible first | exact HB.out | apply below_alloc | apply pw_below_drewN | apply below_drew1 | refine below_set ?_ GE211.out) | exact HB.out)⟩
                        · rw [if_neg c66] at H
                          have c66b0 : decide (0 ≤ a0_10) = false := decide_eq_false c66
                          clear c66
                          obtain rfl := Option.some.inj H
                          have hcz68_0 : wc.cell? ⟨gb211, 0, none⟩ = some (.int .i64 a0_0) := (blk_cell BK211.out 0).trans rfl
                          have hcz68_1 : wc.cell? ⟨gb211, 1, none⟩ = some (.int .i64 a0_1) := (blk_cell BK211.out 1).trans rfl
                          have hcz68_2 : wc.cell? ⟨gb211, 2, none⟩ = some (.int .i64 a0_2) := (blk_cell BK211.out 2).trans rfl
                          have hcz68_3 : wc.cell? ⟨gb211, 3, none⟩ = some (.int .i64 a0_3) := (blk_cell BK211.out 3).trans rfl
                          have hcz68_4 : wc.cell? ⟨gb211, 4, none⟩ = some (.int .i64 a0_4) := (blk_cell BK211.out 4).trans rfl
                          have hcz68_5 : wc.cell? ⟨gb211, 5, none⟩ = some (.string a0_5) := (blk_cell BK211.out 5).trans rfl
                          have hcz68_6 : wc.cell? ⟨gb211, 6, none⟩ = some (.bool a0_6) := (blk_cell BK211.out 6).trans rfl
                          have hcz68_7 : wc.cell? ⟨gb211, 7, none⟩ = some (.string a0_7) := (blk_cell BK211.out 7).trans rfl
                          have hcz68_8 : wc.cell? ⟨gb211, 8, none⟩ = some (.bool a0_8) := (blk_cell BK211.out 8).trans rfl
                          have hcz68_9 : wc.cell? ⟨gb211, 9, none⟩ = some (.string a0_9) := (blk_cell BK211.out 9).trans rfl
                          have hcz68_10 : wc.cell? ⟨gb211, 10, none⟩ = some (.int .i64 a0_10) := (blk_cell BK211.out 10).trans rfl
                          have hfz68_0 := blk_frozen BK211.out 0
                          have hfz68_1 := blk_frozen BK211.out 1
                          have hfz68_2 := blk_frozen BK211.out 2
                          have hfz68_3 := blk_frozen BK211.out 3
                          have hfz68_4 := blk_frozen BK211.out 4
                          have hfz68_5 := blk_frozen BK211.out 5
                          have hfz68_6 := blk_frozen BK211.out 6
                          have hfz68_7 := blk_frozen BK211.out 7
                          have hfz68_8 := blk_frozen BK211.out 8
                          have hfz68_9 := blk_frozen BK211.out 9
                          have hfz68_10 := blk_frozen BK211.out 10
                          go_wp2
                          go_ret
                          exact ⟨by first | rfl | (simp [errW_none, errW_some] <;> rfl) | (simp [*, errW_none, errW_some] <;> rfl), by repeat (first | (with_reducible first | exact HB.out | apply below_alloc | apply pw_below_drewN | apply below_drew1 | refine below_set ?_ GE211.out) | exact HB.out)⟩
                      · rw [if_neg c65] at H
                        have c65b0 : (a0_0 == 4) = false := beq_eq_false_iff_ne.mpr c65
                        have c65b1 : (a0_0 != 4) = true := bne_iff_ne.mpr c65
                        obtain rfl := Option.some.inj H
                        have hcz69_0 : wc.cell? ⟨gb211, 0, none⟩ = some (.int .i64 a0_0) := (blk_cell BK211.out 0).trans rfl
                        have hcz69_1 : wc.cell? ⟨gb211, 1, none⟩ = some (.int .i64 a0_1) := (blk_cell BK211.out 1).trans rfl
                        have hcz69_2 : wc.cell? ⟨gb211, 2, none⟩ = some (.int .i64 a0_2) := (blk_cell BK211.out 2).trans rfl
                        have hcz69_3 : wc.cell? ⟨gb211, 3, none⟩ = some (.int .i64 a0_3) := (blk_cell BK211.out 3).trans rfl
                        have hcz69_4 : wc.cell? ⟨gb211, 4, none⟩ = some (.int .i64 a0_4) := (blk_cell BK211.out 4).trans rfl
                        have hcz69_5 : wc.cell? ⟨gb211, 5, none⟩ = some (.string a0_5) := (blk_cell BK211.out 5).trans rfl
                        have hcz69_6 : wc.cell? ⟨gb211, 6, none⟩ = some (.bool a0_6) := (blk_cell BK211.out 6).trans rfl
                        have hcz69_7 : wc.cell? ⟨gb211, 7, none⟩ = some (.string a0_7) := (blk_cell BK211.out 7).trans rfl
                        have hcz69_8 : wc.cell? ⟨gb211, 8, none⟩ = some (.bool a0_8) := (blk_cell BK211.out 8).trans rfl
                        have hcz69_9 : wc.cell? ⟨gb211, 9, none⟩ = some (.string a0_9) := (blk_cell BK211.out 9).trans rfl
                        have hcz69_10 : wc.cell? ⟨gb211, 10, none⟩ = some (.int .i64 a0_10) := (blk_cell BK211.out 10).trans rfl
                        have hfz69_0 := blk_frozen BK211.out 0
                        have hfz69_1 := blk_frozen BK211.out 1
                        have hfz69_2 := blk_frozen BK211.out 2
                        have hfz69_3 := blk_frozen BK211.out 3
                        have hfz69_4 := blk_frozen BK211.out 4
                        have hfz69_5 := blk_frozen BK211.out 5
                        have hfz69_6 := blk_frozen BK211.out 6
                        have hfz69_7 := blk_frozen BK211.out 7
                        have hfz69_8 := blk_frozen BK211.out 8
                        have hfz69_9 := blk_frozen BK211.out 9
                        have hfz69_10 := blk_frozen BK211.out 10
                        go_wp2
                        go_ret
                        exact ⟨by first | rfl | (simp [errW_none, errW_some] <;> rfl) | (simp [*, errW_none, errW_some] <;> rfl), by repeat (first | (with_reducible first | exact HB.out | apply below_alloc | apply pw_below_drewN | apply below_drew1 | refine below_set ?_ GE211.out) | exact HB.out)⟩

end Go.Proofs.YtlicobfjeajcfaaDoor.Q04
