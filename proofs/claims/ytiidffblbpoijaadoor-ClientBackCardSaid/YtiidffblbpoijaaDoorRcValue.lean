/-
  record.Value: whether these are values, by 'all' over a list.
-/
import Derived.Test.YtiidffblbpoijaaDoorRcKey
import Derived.Lib.Hide
import Derived.WalkKit
import Derived.WalkSpells
import Derived.WalkLawsBesides
namespace Go.Proofs.YtiidffblbpoijaaDoor
open Go.RowKit Go.Proofs.YtiidffblbpoijaaDoor.Q33 Go.Proofs.YtiidffblbpoijaaDoorW.PrintWords
set_option linter.unusedVariables false
set_option linter.unusedSimpArgs false

/-- Is it a value? -/
def valB (v : S23) : Bool := decide (v.f1.size ≤ 16) && (v.f0 || decide (v.f1.size = 0))

theorem value1_calls (v : S23) (w : World) : Calls Tryd.prog 63 #[.agg #[.bool v.f0, .string v.f1]] w fun e w' => e = .returned (.bool (valB v)) ∧ Below w.heap.size w w' := by
  obtain ⟨b, s⟩ := v
  show Calls Tryd.prog 63 #[.agg #[.bool b, .string s]] w fun e w' => e = .returned (.bool (valB ⟨b, s⟩)) ∧ Below w.heap.size w w'
  have hb0 : Below w.heap.size w (w.alloc (.cells #[.bool b, .string s] 23)) := (Below.refl _ _).alloc (Nat.le_refl _) _
  by_cases h4 : (s.size : Int) ≤ 16
  · cases b with
    | true =>
      have hk : valB ⟨true, s⟩ = true := by
        simp [valB]
        omega
      have Hk := Lib.hid hk
      clear hk
      go_enter Tryd.func63, Tryd.ntmps63
      go_wp2
      go_ret
      exact ⟨by rw [Hk.out]; rfl, hb0⟩
    | false =>
      by_cases h1 : s.toList = []
      · have hk : valB ⟨false, s⟩ = true := by
          have := toList_nil.1 h1
          simp [valB, this]
        have Hk := Lib.hid hk
        clear hk
        go_enter Tryd.func63, Tryd.ntmps63
        go_wp2
        go_ret
        exact ⟨by rw [Hk.out]; simp, hb0⟩
      · have hk : valB ⟨false, s⟩ = false := by
          have h2 : ¬ s.size = 0 := fun h => h1 (toList_nil.2 h)
          simp [valB, h2]
        have h3 : s.toList.isEmpty = false := by simpa using h1
        have Hk := Lib.hid hk
        clear hk
        go_enter Tryd.func63, Tryd.ntmps63
        go_wp2
        go_ret
        exact ⟨by rw [Hk.out]; simp [h1], hb0⟩
  · have hk : valB ⟨b, s⟩ = false := by
      have e : ¬ s.size ≤ 16 := by omega
      simp [valB, e]
    have Hk := Lib.hid hk
    clear hk
    go_enter Tryd.func63, Tryd.ntmps63
    go_wp2
    go_ret
    exact ⟨by rw [Hk.out]; rfl, hb0⟩

theorem bel_then {w x y : World} (h : Below w.heap.size w x) (hb : Below x.heap.size x y) : Below w.heap.size w y := h.trans (hb.mono h.size)

theorem atVal {w : World} {A : Option Addr} {l : List S23} {k : Nat} (h : Kd.C k23 w A l.length l) (hk : k < l.length) : ∃ ad, A = some ad ∧ w.cell? (ad.add (k * 2)) = some (.bool (l.getD k z23).f0) ∧ w.cell? ⟨(ad.add (k * 2)).block, (ad.add (k * 2)).off + 1, none⟩ = some (.string (l.getD k z23).f1) := by
  obtain ⟨ad, e, hc⟩ := at_T23 h (k : Int) (by omega) (by omega)
  refine ⟨ad, e, ?_⟩
  simpa [rd_T23] using hc

/-- The closure of 'all': not the predicate; the predicate lies in a box. -/
theorem cloVal (bx : Nat) (x : S23) (p : S23 → Bool) (W : World) (hbx : W.cell? ⟨bx, 0, none⟩ = some (.func (.func 63) #[] #[])) (hp : ∀ (x : S23) (w : World), Calls Tryd.prog 63 #[.agg #[.bool x.f0, .string x.f1]] w fun e w' => e = .returned (.bool (p x)) ∧ Below w.heap.size w w') :
    Calls Tryd.prog 84 #[.agg #[.bool x.f0, .string x.f1], .pointer (some ⟨bx, 0, none⟩)] W fun e w' => e = .returned (.bool (!p x)) ∧ Below W.heap.size W w' := by
  have hp1 := hp x
  clear hp
  generalize p x = q at hp1
  have Hp := Lib.hid hp1
  clear hp1
  have hb0 : Below W.heap.size W (W.alloc (.cells #[.bool x.f0, .string x.f1] 23)) := (Below.refl _ _).alloc (Nat.le_refl _) _
  have hbx1 := (hb0.cell (p := ⟨bx, 0, none⟩) (World.block_lt_of_cell? _ _ hbx)).trans hbx
  go_enter Tryd.func84, Tryd.ntmps84
  go_wp2_with (go_at_call 63; refine (Hp.out _).mono ?_; rintro e w' ⟨rfl, hbel⟩)
  go_ret
  exact ⟨rfl, bel_then hb0 hbel⟩

def IdxRelVal (A : Option Addr) (l : List (S23)) (p : S23 → Bool) (bx : Nat) (w wr : World) (k : Nat) : Prop :=
  (∀ j : Nat, j < k → p (l.getD j z23) = true) ∧ Below w.heap.size w wr ∧ wr.cell? ⟨bx, 0, none⟩ = some (.func (.func 63) #[] #[]) ∧ Kd.C k23 wr A l.length l

set_option maxRecDepth 100000 in
set_option maxHeartbeats 1000000 in
theorem idxVal (bx : Nat) (A : Option Addr) (c : Nat) (l : List (S23)) (p : S23 → Bool) (w : World) (hbx : w.cell? ⟨bx, 0, none⟩ = some (.func (.func 63) #[] #[])) (hr : Kd.C k23 w A l.length l)
    (hp : ∀ (x : S23) (w : World), Calls Tryd.prog 63 #[.agg #[.bool x.f0, .string x.f1]] w fun e w' => e = .returned (.bool (p x)) ∧ Below w.heap.size w w') :
    Calls Tryd.prog 95 #[.slice A l.length c, .func (.func 84) #[] #[.pointer (some ⟨bx, 0, none⟩)]] w (IdxPost (l.all p) w) := by
  have hlen : l.length ≤ 9223372036854775807 := hr.2.1
  have h0 : IdxRelVal A l p bx w w 0 := ⟨fun j hj => absurd hj (Nat.not_lt_zero _), Below.refl _ _, hbx, hr⟩
  have Hp := Lib.hid hp
  clear hp hr hbx
  go_enter Tryd.func95, Tryd.ntmps95
  go_wp2
  go_loopw [8] (fun i wr => ∃ k : Nat, k ≤ l.length ∧ i = .int .i64 k ∧ IdxRelVal A l p bx w wr k) (fun i _ => l.length - (intOf i).toNat)
  case atStart => exact ⟨0, Nat.zero_le _, rfl, h0⟩
  case round =>
    obtain ⟨k, hk, rfl, hpre, hbw, hb, hr⟩ := hrel
    by_cases hlt : k < l.length
    · obtain ⟨ad, rfl, hc0, hc1⟩ := atVal hr hlt
      have hk3 : (k : Int) < l.length := by omega
      have hx := (rfl : p (l.getD k z23) = p (l.getD k z23))
      obtain ⟨x, hxd⟩ : ∃ x, x = l.getD k z23 := ⟨_, rfl⟩
      rw [← hxd] at hc0 hc1
      have Hxd := Lib.hid hxd
      clear hx hxd
      have hclo := cloVal bx x p wr hb Hp.out
      have Hpre := Lib.hid hpre
      clear hpre
      cases hpx : p x with
      | true =>
        have Hpx := Lib.hid hpx
        rw [hpx] at hclo
        clear hpx
        go_wp2_with (go_at_call 84; refine hclo.mono ?_; rintro e w' ⟨rfl, hbel⟩)
        go_roundw
        case rel =>
          refine ⟨k + 1, hlt, by go_num, fun j hj => ?_, hbw.trans (hbel.mono hbw.size), (hbel.cell (p := ⟨bx, 0, none⟩) (World.block_lt_of_cell? _ _ hb)).trans hb, Kd.C_below hr hbel⟩
          rcases Nat.lt_succ_iff_lt_or_eq.1 hj with h | rfl
          · exact Hpre.out j h
          · rw [← Hxd.out]
            exact Hpx.out
        case measure => simp [intOf]; omega
      | false =>
        have Hpx := Lib.hid hpx
        rw [hpx] at hclo
        clear hpx
        go_wp2_with (go_at_call 84; refine hclo.mono ?_; rintro e w' ⟨rfl, hbel⟩)
        go_ret
        refine ⟨k, rfl, ?_, hbw.trans (hbel.mono hbw.size)⟩
        have hall : l.all p = false := by
          rw [List.all_eq_false]
          refine ⟨x, ?_, by simp [Hpx.out]⟩
          rw [Hxd.out, List.getD_eq_getElem?_getD, List.getElem?_eq_getElem hlt]
          exact List.getElem_mem hlt
        rw [hall]
        simp
    · obtain rfl : k = l.length := by omega
      have hall : l.all p = true := by
        rw [List.all_eq_true]
        intro y hy
        obtain ⟨j, hj, rfl⟩ := List.mem_iff_getElem.1 hy
        have := hpre j hj
        rwa [List.getD_eq_getElem?_getD, List.getElem?_eq_getElem hj] at this
      have Hall := Lib.hid hall
      clear hall hpre
      go_wp2
      go_ret
      refine ⟨-1, rfl, ?_, hbw⟩
      rw [Hall.out]
      decide

set_option maxRecDepth 100000 in
set_option maxHeartbeats 1000000 in
theorem allVal (A : Option Addr) (c : Nat) (l : List (S23)) (p : S23 → Bool) (w : World) (hr : Kd.C k23 w A l.length l)
    (hp : ∀ (x : S23) (w : World), Calls Tryd.prog 63 #[.agg #[.bool x.f0, .string x.f1]] w fun e w' => e = .returned (.bool (p x)) ∧ Below w.heap.size w w') :
    Calls Tryd.prog 64 #[.slice A l.length c, .func (.func 63) #[] #[]] w fun e w' => e = .returned (.bool (l.all p)) ∧ Below w.heap.size w w' := by
  have hb0 : Below w.heap.size w (w.alloc (.cells #[.func (.func 63) #[] #[]] 102)) := (Below.refl _ _).alloc (Nat.le_refl _) _
  have hidx := idxVal w.heap.size A c l p (w.alloc (.cells #[.func (.func 63) #[] #[]] 102)) (by simp) (Kd.C_below hr hb0) hp
  clear hp hr
  generalize l.all p = q at hidx
  have Hidx := Lib.hid hidx
  clear hidx
  have hcont : ∀ W, W = w.alloc (.cells #[.func (.func 63) #[] #[]] 102) → Calls Tryd.prog 83 #[.slice A l.length c, .func (.func 84) #[] #[.pointer (some ⟨w.heap.size, 0, none⟩)]] W fun e w' => e = .returned (.bool (!q)) ∧ Below W.heap.size W w' := by
    intro W hW
    subst hW
    go_enter Tryd.func83, Tryd.ntmps83
    go_wp2_with fail
    refine Hidx.out.mono ?_
    rintro e w' ⟨r, rfl, hq, hbel⟩
    have Hq := Lib.hid hq
    clear hq
    go_wp2
    go_ret
    have hz := Hq.out
    exact ⟨by rw [← hz]; rfl, hbel⟩
  have hc := hcont _ rfl
  have Hc := Lib.hid hc
  clear hc hcont Hidx
  go_enter Tryd.func64, Tryd.ntmps64
  go_wp2_with fail
  refine Hc.out.mono ?_
  rintro e w' ⟨rfl, hbel⟩
  go_wp2
  go_ret
  exact ⟨by simp, hb0.trans (hbel.mono hb0.size)⟩

def record_Value.f (l0 : List (S23)) : Option (Bool) := some (l0.all valB)
theorem record_Value.calls (A0 : Option Addr) (c0 : Nat) (l0 : List (S23)) (r : Bool) (w : World) (hr0 : Kd.C k23 w A0 l0.length l0) (hc0 : l0.length ≤ c0) (h : record_Value.f l0 = some r) :
    Calls Tryd.prog 45 #[.slice A0 l0.length c0] w fun e w' => e = .returned (.bool r) ∧ Below w.heap.size w w' := by
  obtain rfl : l0.all valB = r := Option.some.inj h
  have hc := allVal A0 c0 l0 valB w hr0 value1_calls
  clear h hr0
  generalize l0.all valB = q at hc
  have Hc := Lib.hid hc
  clear hc
  go_enter Tryd.func45, Tryd.ntmps45
  go_wp2_with fail
  refine Hc.out.mono ?_
  rintro e w' ⟨rfl, hbel⟩
  go_wp2
  go_ret
  exact ⟨rfl, hbel⟩

end Go.Proofs.YtiidffblbpoijaaDoor
