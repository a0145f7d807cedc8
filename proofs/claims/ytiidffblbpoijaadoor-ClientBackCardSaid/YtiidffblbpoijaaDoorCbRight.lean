/-
  client.Right: whether operations have lines; client.right in one Boolean sentence.
-/
import Derived.Test.YtiidffblbpoijaaDoorCbR1
import Derived.Lib.Hide
import Derived.WalkKit
import Derived.WalkSpells
import Derived.WalkLawsBesides
namespace Go.Proofs.YtiidffblbpoijaaDoor
open Go.RowKit Go.Proofs.YtiidffblbpoijaaDoor.Q33 Go.Proofs.YtiidffblbpoijaaDoorW.PrintWords
set_option linter.unusedVariables false
set_option linter.unusedSimpArgs false


theorem atOp {w : World} {A : Option Addr} {l : List Op} {k : Nat} (h : Kd.C k43 w A l.length l) (hk : k < l.length) : ∃ ad, A = some ad ∧ w.cell? (ad.add (k * 4)) = some (.int .i64 (l.getD k zOp).f0) ∧ w.cell? ⟨(ad.add (k * 4)).block, (ad.add (k * 4)).off + 1, none⟩ = some (.int .i64 (l.getD k zOp).f1) ∧ w.cell? ⟨(ad.add (k * 4)).block, (ad.add (k * 4)).off + 2, none⟩ = some (.string (l.getD k zOp).f2) ∧ w.cell? ⟨(ad.add (k * 4)).block, (ad.add (k * 4)).off + 3, none⟩ = some (.string (l.getD k zOp).f3) := by
  obtain ⟨ad, e, hc⟩ := at_T43 h (k : Int) (by omega) (by omega)
  refine ⟨ad, e, ?_⟩
  simpa [rd_T43] using hc
/-- The closure of Right. -/
theorem cloOp (x : Op) (W : World) : Calls Tryd.prog 37 #[.agg #[.int .i64 x.f0, .int .i64 x.f1, .string x.f2, .string x.f3]] W fun e w' => e = .returned (.bool (!rightO x)) ∧ Below W.heap.size W w' := by
  have hp1 := right_calls x
  generalize rightO x = q at hp1
  have Hp := Lib.hid hp1
  clear hp1
  go_enter Tryd.func37, Tryd.ntmps37
  go_wp2_with (go_at_call 30; refine (Hp.out _).mono ?_; rintro e w' ⟨rfl, hbel⟩)
  go_ret
  exact ⟨rfl, below_step (below_alloc (Below.refl _ _) _) hbel⟩
def IdxRelOp (A : Option Addr) (l : List Op) (w wr : World) (k : Nat) : Prop :=
  (∀ j : Nat, j < k → rightO (l.getD j zOp) = true) ∧ Below w.heap.size w wr ∧ Kd.C k43 wr A l.length l
set_option maxRecDepth 100000 in
set_option maxHeartbeats 1000000 in
theorem idxOp (A : Option Addr) (c : Nat) (l : List Op) (w : World) (hr : Kd.C k43 w A l.length l) :
    Calls Tryd.prog 49 #[.slice A l.length c, .func (.func 37) #[] #[]] w (IdxPost (l.all rightO) w) := by
  have hlen : l.length ≤ 9223372036854775807 := hr.2.1
  have h0 : IdxRelOp A l w w 0 := ⟨fun j hj => absurd hj (Nat.not_lt_zero _), Below.refl _ _, hr⟩
  clear hr
  go_enter Tryd.func49, Tryd.ntmps49
  go_wp2
  go_loopw [8] (fun i wr => ∃ k : Nat, k ≤ l.length ∧ i = .int .i64 k ∧ IdxRelOp A l w wr k) (fun i _ => l.length - (intOf i).toNat)
  case atStart => exact ⟨0, Nat.zero_le _, rfl, h0⟩
  case round =>
    obtain ⟨k, hk, rfl, hpre, hbw, hr⟩ := hrel
    by_cases hlt : k < l.length
    · obtain ⟨ad, rfl, hc0, hc1, hc2, hc3⟩ := atOp hr hlt
      have hk3 : (k : Int) < l.length := by omega
      obtain ⟨x, hxd⟩ : ∃ x, x = l.getD k zOp := ⟨_, rfl⟩
      rw [← hxd] at hc0 hc1 hc2 hc3
      have Hxd := Lib.hid hxd
      clear hxd
      have hclo := cloOp x wr
      have Hpre := Lib.hid hpre
      clear hpre
      cases hpx : rightO x with
      | true =>
        have Hpx := Lib.hid hpx
        rw [hpx] at hclo
        clear hpx
        go_wp2_with (go_at_call 37; refine hclo.mono ?_; rintro e w' ⟨rfl, hbel⟩)
        go_roundw
        case rel =>
          refine ⟨k + 1, hlt, by go_num, fun j hj => ?_, hbw.trans (hbel.mono hbw.size), Kd.C_below hr hbel⟩
          rcases Nat.lt_succ_iff_lt_or_eq.1 hj with h | rfl
          · exact Hpre.out j h
          · rw [← Hxd.out]
            exact Hpx.out
        case measure => simp [intOf]; omega
      | false =>
        have Hpx := Lib.hid hpx
        rw [hpx] at hclo
        clear hpx
        go_wp2_with (go_at_call 37; refine hclo.mono ?_; rintro e w' ⟨rfl, hbel⟩)
        go_ret
        refine ⟨k, rfl, ?_, hbw.trans (hbel.mono hbw.size)⟩
        have hall : l.all rightO = false := by
          rw [List.all_eq_false]
          refine ⟨x, ?_, by simp [Hpx.out]⟩
          rw [Hxd.out, List.getD_eq_getElem?_getD, List.getElem?_eq_getElem hlt]
          exact List.getElem_mem hlt
        rw [hall]
        simp
    · obtain rfl : k = l.length := by omega
      have hall : l.all rightO = true := by
        rw [List.all_eq_true]
        intro y hy
        obtain ⟨j, hj, rfl⟩ := List.mem_iff_getElem.1 hy
        have := hpre j hj
        rwa [List.getD_eq_getElem?_getD, List.getElem?_eq_getElem hj] at this
      have Hall := Lib.hid hall
      clear hall hpre
      go_wp2
      go_ret
      refine ⟨-1, rfl, ?_, hbw⟩
      rw [Hall.out]
      decide
def client_Right.f (l0 : List Op) : Option (Bool) := some (l0.all rightO)
set_option maxHeartbeats 1000000 in
theorem client_Right.calls (A0 : Option Addr) (c0 : Nat) (l0 : List Op) (r : Bool) (w : World) (hr0 : Kd.C k43 w A0 l0.length l0) (hc0 : l0.length ≤ c0) (h : client_Right.f l0 = some r) :
    Calls Tryd.prog 19 #[.slice A0 l0.length c0] w fun e w' => e = .returned (.bool r) ∧ Below w.heap.size w w' := by
  obtain rfl : l0.all rightO = r := Option.some.inj h
  have hidx := idxOp A0 c0 l0 w hr0
  clear h hr0
  generalize l0.all rightO = q at hidx
  have Hidx := Lib.hid hidx
  clear hidx
  have hcont : ∀ W, W = w → Calls Tryd.prog 36 #[.slice A0 l0.length c0, .func (.func 37) #[] #[]] W fun e w' => e = .returned (.bool (!q)) ∧ Below W.heap.size W w' := by
    intro W hW
    subst hW
    go_enter Tryd.func36, Tryd.ntmps36
    go_wp2_with fail
    refine Hidx.out.mono ?_
    rintro e w' ⟨r, rfl, hq, hbel⟩
    have Hq := Lib.hid hq
    clear hq
    go_wp2
    go_ret
    have hz := Hq.out
    exact ⟨by rw [← hz]; rfl, hbel⟩
  have hc := hcont _ rfl
  have Hc := Lib.hid hc
  clear hc hcont Hidx
  go_enter Tryd.func19, Tryd.ntmps19
  go_wp2_with fail
  refine Hc.out.mono ?_
  rintro e w' ⟨rfl, hbel⟩
  go_wp2
  go_ret
  exact ⟨by simp, hbel⟩
end Go.Proofs.YtiidffblbpoijaaDoor
