/-
  record.Right: whether records are right, by 'all' over a list; record.right in one Boolean sentence.
-/
import Derived.Test.YtlicobfjeajcfaaDoorQ04x2
import Derived.Test.YtlicobfjeajcfaaDoorRcValue
import Derived.Lib.Hide
import Derived.WalkKit
import Derived.WalkSpells
import Derived.WalkLawsBesides
namespace Go.Proofs.YtlicobfjeajcfaaDoor
open Go.RowKit Go.Proofs.YtlicobfjeajcfaaDoor.Q04 Go.Proofs.YtlicobfjeajcfaaDoorW.PrintWords
set_option linter.unusedVariables false
set_option linter.unusedSimpArgs false

theorem ite_and (t x : Bool) : (if t = true then some x else some false) = some (t && x) := by cases t <;> rfl

def withinB (n lo hi : Int) : Bool := decide (lo ≤ n) && decide (n ≤ hi)
theorem within_eq (a b c : Int) : record_within.f a b c = some (withinB a b c) := by
  unfold record_within.f withinB
  by_cases h : b ≤ a
  · rw [if_pos h]; simp [h]
  · rw [if_neg h]; simp [h]
def chB (k : Int) : Bool := k == 2 || k == 3
theorem changes_eq (a : Int) : record_changes.f a = some (chB a) := by
  unfold record_changes.f chB
  by_cases h : a = 2
  · rw [if_pos h]; simp [h]
  · rw [if_neg h]; simp [h]
/-- What a record says of a page is right. -/
def bodyB (x : S25) : Bool :=
  if chB x.f0 then withinB x.f4 0 63 && (keyB x.f5 && ((valB x.f6 && valB x.f7) && (!(x.f6.f0 == x.f7.f0) || !(x.f6.f1.toList == x.f7.f1.toList))))
  else decide (x.f4 = 0) && (decide (x.f5.toList = []) && ((!x.f6.f0 && (x.f6.f1.toList == [])) && (!x.f7.f0 && (x.f7.f1.toList == []))))
def undoB (x : S25) : Bool := if x.f0 = 3 then withinB x.f8 1 x.f3 else if x.f0 = 4 then withinB x.f8 0 255 else x.f8 == 0
/-- Is a record right? -/
def rightB (x : S25) : Bool :=
  withinB x.f0 1 6 && (withinB x.f2 1 2147483647 && (withinB x.f1 1 4611686018427387903 && (withinB x.f3 0 (wrap64 (x.f1 - 1)) && (((x.f3 == 0) == (x.f0 == 1)) && (bodyB x && undoB x)))))

theorem ite_and' (p : Prop) [Decidable p] (x : Bool) : (if p then some x else some false) = some (decide p && x) := by by_cases h : p <;> simp [h]

theorem body_eq (x : S25) : record_body.f x.f0 x.f1 x.f2 x.f3 x.f4 x.f5 x.f6.f0 x.f6.f1 x.f7.f0 x.f7.f1 x.f8 = some (bodyB x) := by
  unfold record_body.f bodyB
  rw [changes_eq, Option.bind_some]
  cases chB x.f0 with
  | true =>
    simp only [if_true, within_eq, Option.bind_some, record_Key.f, record_Value.f, List.all_cons, List.all_nil, Bool.and_true, ite_and]
  | false =>
    simp only [Bool.false_eq_true, if_false, ite_and, ite_and', Bool.decide_eq_true]
theorem undo_eq (x : S25) : record_undo.f x.f0 x.f1 x.f2 x.f3 x.f4 x.f5 x.f6.f0 x.f6.f1 x.f7.f0 x.f7.f1 x.f8 = some (undoB x) := by
  unfold record_undo.f undoB
  simp only [within_eq, Option.bind_some]
  split
  · rfl
  · split <;> rfl
theorem right_eq (x : S25) : record_right.f x.f0 x.f1 x.f2 x.f3 x.f4 x.f5 x.f6.f0 x.f6.f1 x.f7.f0 x.f7.f1 x.f8 = some (rightB x) := by
  unfold record_right.f rightB
  simp only [within_eq, body_eq, undo_eq, Option.bind_some, ite_and]

theorem right_calls (x : S25) (w : World) : Calls Tryd.prog 24 #[.agg #[.int .i64 x.f0, .int .i64 x.f1, .int .i64 x.f2, .int .i64 x.f3, .int .i64 x.f4, .string x.f5, .bool x.f6.f0, .string x.f6.f1, .bool x.f7.f0, .string x.f7.f1, .int .i64 x.f8]] w fun e w' => e = .returned (.bool (rightB x)) ∧ Below w.heap.size w w' :=
  record_right.calls _ _ _ _ _ _ _ _ _ _ _ _ w (right_eq x)

theorem atRec {w : World} {A : Option Addr} {l : List S25} {k : Nat} (h : Kd.C k25 w A l.length l) (hk : k < l.length) : ∃ ad, A = some ad ∧ w.cell? (ad.add (k * 11)) = some (.int .i64 (l.getD k z25).f0) ∧ w.cell? ⟨(ad.add (k * 11)).block, (ad.add (k * 11)).off + 1, none⟩ = some (.int .i64 (l.getD k z25).f1) ∧ w.cell? ⟨(ad.add (k * 11)).block, (ad.add (k * 11)).off + 2, none⟩ = some (.int .i64 (l.getD k z25).f2) ∧ w.cell? ⟨(ad.add (k * 11)).block, (ad.add (k * 11)).off + 3, none⟩ = some (.int .i64 (l.getD k z25).f3) ∧ w.cell? ⟨(ad.add (k * 11)).block, (ad.add (k * 11)).off + 4, none⟩ = some (.int .i64 (l.getD k z25).f4) ∧ w.cell? ⟨(ad.add (k * 11)).block, (ad.add (k * 11)).off + 5, none⟩ = some (.string (l.getD k z25).f5) ∧ w.cell? ⟨(ad.add (k * 11)).block, (ad.add (k * 11)).off + 6, none⟩ = some (.bool (l.getD k z25).f6.f0) ∧ w.cell? ⟨(ad.add (k * 11)).block, (ad.add (k * 11)).off + 7, none⟩ = some (.string (l.getD k z25).f6.f1) ∧ w.cell? ⟨(ad.add (k * 11)).block, (ad.add (k * 11)).off + 8, none⟩ = some (.bool (l.getD k z25).f7.f0) ∧ w.cell? ⟨(ad.add (k * 11)).block, (ad.add (k * 11)).off + 9, none⟩ = some (.string (l.getD k z25).f7.f1) ∧ w.cell? ⟨(ad.add (k * 11)).block, (ad.add (k * 11)).off + 10, none⟩ = some (.int .i64 (l.getD k z25).f8) := by
  obtain ⟨ad, e, hc⟩ := at_T25 h (k : Int) (by omega) (by omega)
  refine ⟨ad, e, ?_⟩
  simpa [rd_T25] using hc

/-- The closure of 'all': not the predicate; the predicate lies in a box. -/
theorem cloRec (bx : Nat) (x : S25) (p : S25 → Bool) (W : World) (hbx : W.cell? ⟨bx, 0, none⟩ = some (.func (.func 24) #[] #[])) (hp : ∀ (x : S25) (w : World), Calls Tryd.prog 24 #[.agg #[.int .i64 x.f0, .int .i64 x.f1, .int .i64 x.f2, .int .i64 x.f3, .int .i64 x.f4, .string x.f5, .bool x.f6.f0, .string x.f6.f1, .bool x.f7.f0, .string x.f7.f1, .int .i64 x.f8]] w fun e w' => e = .returned (.bool (p x)) ∧ Below w.heap.size w w') :
    Calls Tryd.prog 57 #[.agg #[.int .i64 x.f0, .int .i64 x.f1, .int .i64 x.f2, .int .i64 x.f3, .int .i64 x.f4, .string x.f5, .bool x.f6.f0, .string x.f6.f1, .bool x.f7.f0, .string x.f7.f1, .int .i64 x.f8], .pointer (some ⟨bx, 0, none⟩)] W fun e w' => e = .returned (.bool (!p x)) ∧ Below W.heap.size W w' := by
  have hp1 := hp x
  clear hp
  generalize p x = q at hp1
  have Hp := Lib.hid hp1
  clear hp1
  have hb0 : Below W.heap.size W (W.alloc (.cells #[.int .i64 x.f0, .int .i64 x.f1, .int .i64 x.f2, .int .i64 x.f3, .int .i64 x.f4, .string x.f5, .bool x.f6.f0, .string x.f6.f1, .bool x.f7.f0, .string x.f7.f1, .int .i64 x.f8] 25)) := (Below.refl _ _).alloc (Nat.le_refl _) _
  have hbx1 := (hb0.cell (p := ⟨bx, 0, none⟩) (World.block_lt_of_cell? _ _ hbx)).trans hbx
  go_enter Tryd.func57, Tryd.ntmps57
  go_wp2_with (go_at_call 24; refine (Hp.out _).mono ?_; rintro e w' ⟨rfl, hbel⟩)
  go_ret
  exact ⟨rfl, bel_then hb0 hbel⟩

def IdxRelRec (A : Option Addr) (l : List (S25)) (p : S25 → Bool) (bx : Nat) (w wr : World) (k : Nat) : Prop :=
  (∀ j : Nat, j < k → p (l.getD j z25) = true) ∧ Below w.heap.size w wr ∧ wr.cell? ⟨bx, 0, none⟩ = some (.func (.func 24) #[] #[]) ∧ Kd.C k25 wr A l.length l

set_option maxRecDepth 100000 in
set_option maxHeartbeats 1000000 in
theorem idxRec (bx : Nat) (A : Option Addr) (c : Nat) (l : List (S25)) (p : S25 → Bool) (w : World) (hbx : w.cell? ⟨bx, 0, none⟩ = some (.func (.func 24) #[] #[])) (hr : Kd.C k25 w A l.length l)
    (hp : ∀ (x : S25) (w : World), Calls Tryd.prog 24 #[.agg #[.int .i64 x.f0, .int .i64 x.f1, .int .i64 x.f2, .int .i64 x.f3, .int .i64 x.f4, .string x.f5, .bool x.f6.f0, .string x.f6.f1, .bool x.f7.f0, .string x.f7.f1, .int .i64 x.f8]] w fun e w' => e = .returned (.bool (p x)) ∧ Below w.heap.size w w') :
    Calls Tryd.prog 69 #[.slice A l.length c, .func (.func 57) #[] #[.pointer (some ⟨bx, 0, none⟩)]] w (IdxPost (l.all p) w) := by
  have hlen : l.length ≤ 9223372036854775807 := hr.2.1
  have h0 : IdxRelRec A l p bx w w 0 := ⟨fun j hj => absurd hj (Nat.not_lt_zero _), Below.refl _ _, hbx, hr⟩
  have Hp := Lib.hid hp
  clear hp hr hbx
  go_enter Tryd.func69, Tryd.ntmps69
  go_wp2
  go_loopw [8] (fun i wr => ∃ k : Nat, k ≤ l.length ∧ i = .int .i64 k ∧ IdxRelRec A l p bx w wr k) (fun i _ => l.length - (intOf i).toNat)
  case atStart => exact ⟨0, Nat.zero_le _, rfl, h0⟩
  case round =>
    obtain ⟨k, hk, rfl, hpre, hbw, hb, hr⟩ := hrel
    by_cases hlt : k < l.length
    · obtain ⟨ad, rfl, hc0, hc1, hc2, hc3, hc4, hc5, hc6, hc7, hc8, hc9, hc10⟩ := atRec hr hlt
      have hk3 : (k : Int) < l.length := by omega
      have hx := (rfl : p (l.getD k z25) = p (l.getD k z25))
      obtain ⟨x, hxd⟩ : ∃ x, x = l.getD k z25 := ⟨_, rfl⟩
      rw [← hxd] at hc0 hc1 hc2 hc3 hc4 hc5 hc6 hc7 hc8 hc9 hc10
      have Hxd := Lib.hid hxd
      clear hx hxd
      have hclo := cloRec bx x p wr hb Hp.out
      have Hpre := Lib.hid hpre
      clear hpre
      cases hpx : p x with
      | true =>
        have Hpx := Lib.hid hpx
        rw [hpx] at hclo
        clear hpx
        go_wp2_with (go_at_call 57; refine hclo.mono ?_; rintro e w' ⟨rfl, hbel⟩)
        go_roundw
        case rel =>
          refine ⟨k + 1, hlt, by go_num, fun j hj => ?_, hbw.trans (hbel.mono hbw.size), (hbel.cell (p := ⟨bx, 0, none⟩) (World.block_lt_of_cell? _ _ hb)).trans hb, Kd.C_below hr hbel⟩
          rcases Nat.lt_succ_iff_lt_or_eq.1 hj with h | rfl
          · exact Hpre.out j h
          · rw [← Hxd.out]
            exact Hpx.out
        case measure => simp [intOf]; omega
      | false =>
        have Hpx := Lib.hid hpx
        rw [hpx] at hclo
        clear hpx
        go_wp2_with (go_at_call 57; refine hclo.mono ?_; rintro e w' ⟨rfl, hbel⟩)
        go_ret
        refine ⟨k, rfl, ?_, hbw.trans (hbel.mono hbw.size)⟩
        have hall : l.all p = false := by
          rw [List.all_eq_false]
          refine ⟨x, ?_, by simp [Hpx.out]⟩
          rw [Hxd.out, List.getD_eq_getElem?_getD, List.getElem?_eq_getElem hlt]
          exact List.getElem_mem hlt
        rw [hall]
        simp
    · obtain rfl : k = l.length := by omega
      have hall : l.all p = true := by
        rw [List.all_eq_true]
        intro y hy
        obtain ⟨j, hj, rfl⟩ := List.mem_iff_getElem.1 hy
        have := hpre j hj
        rwa [List.getD_eq_getElem?_getD, List.getElem?_eq_getElem hj] at this
      have Hall := Lib.hid hall
      clear hall hpre
      go_wp2
      go_ret
      refine ⟨-1, rfl, ?_, hbw⟩
      rw [Hall.out]
      decide

set_option maxRecDepth 100000 in
set_option maxHeartbeats 1000000 in
theorem allRec (A : Option Addr) (c : Nat) (l : List (S25)) (p : S25 → Bool) (w : World) (hr : Kd.C k25 w A l.length l)
    (hp : ∀ (x : S25) (w : World), Calls Tryd.prog 24 #[.agg #[.int .i64 x.f0, .int .i64 x.f1, .int .i64 x.f2, .int .i64 x.f3, .int .i64 x.f4, .string x.f5, .bool x.f6.f0, .string x.f6.f1, .bool x.f7.f0, .string x.f7.f1, .int .i64 x.f8]] w fun e w' => e = .returned (.bool (p x)) ∧ Below w.heap.size w w') :
    Calls Tryd.prog 34 #[.slice A l.length c, .func (.func 24) #[] #[]] w fun e w' => e = .returned (.bool (l.all p)) ∧ Below w.heap.size w w' := by
  have hb0 : Below w.heap.size w (w.alloc (.cells #[.func (.func 24) #[] #[]] 26)) := (Below.refl _ _).alloc (Nat.le_refl _) _
  have hidx := idxRec w.heap.size A c l p (w.alloc (.cells #[.func (.func 24) #[] #[]] 26)) (by simp) (Kd.C_below hr hb0) hp
  clear hp hr
  generalize l.all p = q at hidx
  have Hidx := Lib.hid hidx
  clear hidx
  have hcont : ∀ W, W = w.alloc (.cells #[.func (.func 24) #[] #[]] 26) → Calls Tryd.prog 56 #[.slice A l.length c, .func (.func 57) #[] #[.pointer (some ⟨w.heap.size, 0, none⟩)]] W fun e w' => e = .returned (.bool (!q)) ∧ Below W.heap.size W w' := by
    intro W hW
    subst hW
    go_enter Tryd.func56, Tryd.ntmps56
    go_wp2_with fail
    refine Hidx.out.mono ?_
    rintro e w' ⟨r, rfl, hq, hbel⟩
    have Hq := Lib.hid hq
    clear hq
    go_wp2
    go_ret
    have hz := Hq.out
    exact ⟨by rw [← hz]; rfl, hbel⟩
  have hc := hcont _ rfl
  have Hc := Lib.hid hc
  clear hc hcont Hidx
  go_enter Tryd.func34, Tryd.ntmps34
  go_wp2_with fail
  refine Hc.out.mono ?_
  rintro e w' ⟨rfl, hbel⟩
  go_wp2
  go_ret
  exact ⟨by simp, hb0.trans (hbel.mono hb0.size)⟩

def record_Right.f (l0 : List (S25)) : Option (Bool) := some (l0.all rightB)
theorem record_Right.calls (A0 : Option Addr) (c0 : Nat) (l0 : List (S25)) (r : Bool) (w : World) (hr0 : Kd.C k25 w A0 l0.length l0) (hc0 : l0.length ≤ c0) (h : record_Right.f l0 = some r) :
    Calls Tryd.prog 13 #[.slice A0 l0.length c0] w fun e w' => e = .returned (.bool r) ∧ Below w.heap.size w w' := by
  obtain rfl : l0.all rightB = r := Option.some.inj h
  have hc := allRec A0 c0 l0 rightB w hr0 right_calls
  clear h hr0
  generalize l0.all rightB = q at hc
  have Hc := Lib.hid hc
  clear hc
  go_enter Tryd.func13, Tryd.ntmps13
  go_wp2_with fail
  refine Hc.out.mono ?_
  rintro e w' ⟨rfl, hbel⟩
  go_wp2
  go_ret
  exact ⟨rfl, hbel⟩

end Go.Proofs.YtlicobfjeajcfaaDoor
