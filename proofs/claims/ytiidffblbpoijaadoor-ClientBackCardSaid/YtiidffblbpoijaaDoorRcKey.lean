/-
  record.Key: whether texts are keys, by 'all' over a list (slices.ContainsFunc with a closure).
-/
import Derived.Test.YtiidffblbpoijaaDoorQ33x0
import Derived.Lib.Hide
import Derived.WalkKit
import Derived.WalkSpells
import Derived.WalkLawsBesides
namespace Go.Proofs.YtiidffblbpoijaaDoor
open Go.RowKit Go.Proofs.YtiidffblbpoijaaDoor.Q33 Go.Proofs.YtiidffblbpoijaaDoorW.PrintWords
set_option linter.unusedVariables false
set_option linter.unusedSimpArgs false

/-- What slices.IndexFunc answers: a place, or -1 where all are well. -/
def IdxPost (q : Bool) (w : World) (e : Ending) (w' : World) : Prop := ∃ r : Int, e = .returned (.int .i64 r) ∧ decide (0 ≤ r) = !q ∧ Below w.heap.size w w'

/-- Is a text a key? -/
def keyB (s : ByteArray) : Bool := decide (1 ≤ s.size) && decide (s.size ≤ 8)

theorem toList_nil {s : ByteArray} : s.toList = [] ↔ s.size = 0 := by
  rw [Go.ByteArray.toList_eq]
  constructor
  · intro h
    have := congrArg List.length h
    simpa using this
  · intro h
    exact List.eq_nil_of_length_eq_zero (by simpa using h)

theorem key1_calls (s : ByteArray) (w : World) : Calls Tryd.prog 61 #[.string s] w fun e w' => e = .returned (.bool (keyB s)) ∧ Below w.heap.size w w' := by
  by_cases h1 : s.toList = []
  · have hk : keyB s = false := by
      have := toList_nil.1 h1
      simp [keyB, this]
    have Hk := Lib.hid hk
    clear hk
    go_enter Tryd.func61, Tryd.ntmps61
    go_wp2
    go_ret
    exact ⟨by rw [Hk.out]; rfl, Below.refl _ _⟩
  · have h2 : ¬ s.size = 0 := fun h => h1 (toList_nil.2 h)
    have hk : keyB s = decide ((s.size : Int) ≤ 8) := by
      have e : decide (1 ≤ s.size) = true := decide_eq_true (by omega)
      simp only [keyB, e, Bool.true_and]
      congr 1
      simp
      omega
    have h3 : (!s.toList.isEmpty) = true := by simpa using h1
    have Hk := Lib.hid hk
    clear hk h2
    by_cases h4 : (s.size : Int) ≤ 8
    all_goals
      have H4 := Lib.hid h4
      go_enter Tryd.func61, Tryd.ntmps61
      go_wp2
      go_ret
      exact ⟨by rw [Hk.out]; simp [H4.out], Below.refl _ _⟩

/-- An element of a row of texts. -/
theorem atStr {w : World} {A : Option Addr} {l : List ByteArray} {k : Nat} (h : Kd.C Kd.string w A l.length l) (hk : k < l.length) : ∃ ad, A = some ad ∧ w.cell? (ad.add k) = some (.string (l.getD k ByteArray.empty)) := by
  obtain ⟨ad, e, hc⟩ := Kd.at_string h (k : Int) (by omega) (by omega)
  refine ⟨ad, e, ?_⟩
  simpa [rdOf] using hc

theorem cloKey (bx : Nat) (x : ByteArray) (p : ByteArray → Bool) (W : World) (hbx : W.cell? ⟨bx, 0, none⟩ = some (.func (.func 61) #[] #[])) (hp : ∀ (x : ByteArray) (w : World), Calls Tryd.prog 61 #[.string x] w fun e w' => e = .returned (.bool (p x)) ∧ Below w.heap.size w w') :
    Calls Tryd.prog 82 #[.string x, .pointer (some ⟨bx, 0, none⟩)] W fun e w' => e = .returned (.bool (!p x)) ∧ Below W.heap.size W w' := by
  have hp1 := hp x
  clear hp
  generalize p x = q at hp1
  have Hp := Lib.hid hp1
  clear hp1
  go_enter Tryd.func82, Tryd.ntmps82
  go_wp2_with (go_at_call 61; refine (Hp.out _).mono ?_; rintro e w' ⟨rfl, hbel⟩)
  go_ret
  exact ⟨rfl, hbel⟩

def IdxRelKey (A : Option Addr) (l : List (ByteArray)) (p : ByteArray → Bool) (bx : Nat) (w wr : World) (k : Nat) : Prop :=
  (∀ j : Nat, j < k → p (l.getD j ByteArray.empty) = true) ∧ Below w.heap.size w wr ∧ wr.cell? ⟨bx, 0, none⟩ = some (.func (.func 61) #[] #[]) ∧ Kd.C Kd.string wr A l.length l

set_option maxRecDepth 100000 in
set_option maxHeartbeats 1000000 in
theorem idxKey (bx : Nat) (A : Option Addr) (c : Nat) (l : List (ByteArray)) (p : ByteArray → Bool) (w : World) (hbx : w.cell? ⟨bx, 0, none⟩ = some (.func (.func 61) #[] #[])) (hr : Kd.C Kd.string w A l.length l)
    (hp : ∀ (x : ByteArray) (w : World), Calls Tryd.prog 61 #[.string x] w fun e w' => e = .returned (.bool (p x)) ∧ Below w.heap.size w w') :
    Calls Tryd.prog 94 #[.slice A l.length c, .func (.func 82) #[] #[.pointer (some ⟨bx, 0, none⟩)]] w (IdxPost (l.all p) w) := by
  have hlen : l.length ≤ 9223372036854775807 := hr.2.1
  have h0 : IdxRelKey A l p bx w w 0 := ⟨fun j hj => absurd hj (Nat.not_lt_zero _), Below.refl _ _, hbx, hr⟩
  have Hp := Lib.hid hp
  clear hp hr hbx
  go_enter Tryd.func94, Tryd.ntmps94
  go_wp2
  go_loopw [8] (fun i wr => ∃ k : Nat, k ≤ l.length ∧ i = .int .i64 k ∧ IdxRelKey A l p bx w wr k) (fun i _ => l.length - (intOf i).toNat)
  case atStart => exact ⟨0, Nat.zero_le _, rfl, h0⟩
  case round =>
    obtain ⟨k, hk, rfl, hpre, hbw, hb, hr⟩ := hrel
    by_cases hlt : k < l.length
    · obtain ⟨ad, rfl, hc0⟩ := atStr hr hlt
      have hk3 : (k : Int) < l.length := by omega
      have hx := (rfl : p (l.getD k ByteArray.empty) = p (l.getD k ByteArray.empty))
      obtain ⟨x, hxd⟩ : ∃ x, x = l.getD k ByteArray.empty := ⟨_, rfl⟩
      rw [← hxd] at hc0
      have Hxd := Lib.hid hxd
      clear hx hxd
      have hclo := cloKey bx x p wr hb Hp.out
      have Hpre := Lib.hid hpre
      clear hpre
      cases hpx : p x with
      | true =>
        have Hpx := Lib.hid hpx
        rw [hpx] at hclo
        clear hpx
        go_wp2_with (go_at_call 82; refine hclo.mono ?_; rintro e w' ⟨rfl, hbel⟩)
        go_roundw
        case rel =>
          refine ⟨k + 1, hlt, by go_num, fun j hj => ?_, hbw.trans (hbel.mono hbw.size), (hbel.cell (p := ⟨bx, 0, none⟩) (World.block_lt_of_cell? _ _ hb)).trans hb, Kd.C_below hr hbel⟩
          rcases Nat.lt_succ_iff_lt_or_eq.1 hj with h | rfl
          · exact Hpre.out j h
          · rw [← Hxd.out]
            exact Hpx.out
        case measure => simp [intOf]; omega
      | false =>
        have Hpx := Lib.hid hpx
        rw [hpx] at hclo
        clear hpx
        go_wp2_with (go_at_call 82; refine hclo.mono ?_; rintro e w' ⟨rfl, hbel⟩)
        go_ret
        refine ⟨k, rfl, ?_, hbw.trans (hbel.mono hbw.size)⟩
        have hall : l.all p = false := by
          rw [List.all_eq_false]
          refine ⟨x, ?_, by simp [Hpx.out]⟩
          rw [Hxd.out, List.getD_eq_getElem?_getD, List.getElem?_eq_getElem hlt]
          exact List.getElem_mem hlt
        rw [hall]
        simp
    · obtain rfl : k = l.length := by omega
      have hall : l.all p = true := by
        rw [List.all_eq_true]
        intro y hy
        obtain ⟨j, hj, rfl⟩ := List.mem_iff_getElem.1 hy
        have := hpre j hj
        rwa [List.getD_eq_getElem?_getD, List.getElem?_eq_getElem hj] at this
      have Hall := Lib.hid hall
      clear hall hpre
      go_wp2
      go_ret
      refine ⟨-1, rfl, ?_, hbw⟩
      rw [Hall.out]
      decide

set_option maxRecDepth 100000 in
set_option maxHeartbeats 1000000 in
theorem allKey (A : Option Addr) (c : Nat) (l : List (ByteArray)) (p : ByteArray → Bool) (w : World) (hr : Kd.C Kd.string w A l.length l)
    (hp : ∀ (x : ByteArray) (w : World), Calls Tryd.prog 61 #[.string x] w fun e w' => e = .returned (.bool (p x)) ∧ Below w.heap.size w w') :
    Calls Tryd.prog 62 #[.slice A l.length c, .func (.func 61) #[] #[]] w fun e w' => e = .returned (.bool (l.all p)) ∧ Below w.heap.size w w' := by
  have hb0 : Below w.heap.size w (w.alloc (.cells #[.func (.func 61) #[] #[]] 99)) := (Below.refl _ _).alloc (Nat.le_refl _) _
  have hidx := idxKey w.heap.size A c l p (w.alloc (.cells #[.func (.func 61) #[] #[]] 99)) (by simp) (Kd.C_below hr hb0) hp
  clear hp hr
  generalize l.all p = q at hidx
  have Hidx := Lib.hid hidx
  clear hidx
  have hcont : ∀ W, W = w.alloc (.cells #[.func (.func 61) #[] #[]] 99) → Calls Tryd.prog 81 #[.slice A l.length c, .func (.func 82) #[] #[.pointer (some ⟨w.heap.size, 0, none⟩)]] W fun e w' => e = .returned (.bool (!q)) ∧ Below W.heap.size W w' := by
    intro W hW
    subst hW
    go_enter Tryd.func81, Tryd.ntmps81
    go_wp2_with fail
    refine Hidx.out.mono ?_
    rintro e w' ⟨r, rfl, hq, hbel⟩
    have Hq := Lib.hid hq
    clear hq
    go_wp2
    go_ret
    have hz := Hq.out
    exact ⟨by rw [← hz]; rfl, hbel⟩
  have hc := hcont _ rfl
  have Hc := Lib.hid hc
  clear hc hcont Hidx
  go_enter Tryd.func62, Tryd.ntmps62
  go_wp2_with fail
  refine Hc.out.mono ?_
  rintro e w' ⟨rfl, hbel⟩
  go_wp2
  go_ret
  exact ⟨by simp, hb0.trans (hbel.mono hb0.size)⟩

def record_Key.f (l0 : List ByteArray) : Option (Bool) := some (l0.all keyB)
theorem record_Key.calls (A0 : Option Addr) (c0 : Nat) (l0 : List ByteArray) (r : Bool) (w : World) (hr0 : Kd.C Kd.string w A0 l0.length l0) (hc0 : l0.length ≤ c0) (h : record_Key.f l0 = some r) :
    Calls Tryd.prog 44 #[.slice A0 l0.length c0] w fun e w' => e = .returned (.bool r) ∧ Below w.heap.size w w' := by
  obtain rfl : l0.all keyB = r := Option.some.inj h
  have hc := allKey A0 c0 l0 keyB w hr0 key1_calls
  clear h hr0
  generalize l0.all keyB = q at hc
  have Hc := Lib.hid hc
  clear hc
  go_enter Tryd.func44, Tryd.ntmps44
  go_wp2_with fail
  refine Hc.out.mono ?_
  rintro e w' ⟨rfl, hbel⟩
  go_wp2
  go_ret
  exact ⟨rfl, hbel⟩

end Go.Proofs.YtiidffblbpoijaaDoor
