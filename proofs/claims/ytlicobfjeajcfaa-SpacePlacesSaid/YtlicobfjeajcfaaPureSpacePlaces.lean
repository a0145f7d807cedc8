/-
  The pure statement of SpacePlaces: the remainder by digits is the remainder of the weighted sum.
-/
import Derived.Test.YtlicobfjeajcfaaQ16x1
namespace Go.Proofs.Ytlicobfjeajcfaa.Pure
open Go.RowKit Go.Proofs.Ytlicobfjeajcfaa.Q16 Go.Proofs.YtlicobfjeajcfaaW.PrintWords Go.Proofs.YtlicobfjeajcfaaW.PrintLast
set_option linter.unusedVariables false
set_option linter.unusedSimpArgs false

/-- With enough rounds. -/
def Evr {α : Type} (g : Nat → Option α) (r : α) : Prop := ∃ K, ∀ k, K ≤ k → g k = some r

theorem Evr.step {α : Type} {g h : Nat → Option α} {r : α} (hh : Evr h r) (e : ∀ k, g (k + 1) = h k) : Evr g r := by
  obtain ⟨K, hK⟩ := hh
  refine ⟨K + 1, fun k hk => ?_⟩
  obtain ⟨k, rfl⟩ : ∃ m, k = m + 1 := ⟨k - 1, by omega⟩
  rw [e]
  exact hK k (by omega)
theorem Evr.pure {α : Type} {g : Nat → Option α} {r : α} (h : ∀ k, g (k + 1) = some r) : Evr g r := ⟨1, fun k hk => by
  obtain ⟨k, rfl⟩ : ∃ m, k = m + 1 := ⟨k - 1, by omega⟩
  exact h k⟩
theorem Evr.bind {α β : Type} {g : Nat → Option α} {r : α} {f : Nat → α → Option β} {s : β} (h : Evr g r) (h2 : Evr (fun k => f k r) s) : Evr (fun k => (g k).bind (f k)) s := by
  obtain ⟨K, hK⟩ := h
  obtain ⟨L, hL⟩ := h2
  exact ⟨max K L, fun k hk => by simp only [hK k (by omega), Option.bind_some, hL k (by omega)]⟩

def wsum (s : ByteArray) : Nat → Int
  | 0 => 0
  | n + 1 => wsum s n + ((n : Int) + 1) * bt s n

theorem wsum_bd (s : ByteArray) : ∀ n : Nat, n ≤ 100 → 0 ≤ wsum s n ∧ wsum s n ≤ 25500 * n
  | 0, _ => by simp [wsum]
  | n + 1, h => by
    have ih := wsum_bd s n (by omega)
    have hb := bt_range s n
    have h1 : ((n : Int) + 1) * bt s n ≤ 100 * 255 := Int.mul_le_mul (by omega) hb.2 hb.1 (by omega)
    have h2 : 0 ≤ ((n : Int) + 1) * bt s n := Int.mul_nonneg (by omega) hb.1
    simp only [wsum]
    omega

theorem place_ev (s : ByteArray) (p : Int) (hp : 1 ≤ p) (hn : s.size ≤ 100) : Evr (fun k => space_Place.f k s p) (wsum s s.size % p) := by
  have key : ∀ (d i : Nat), i + d = s.size → Evr (fun k => space_Place.l0 k s p (wsum s i) (s.size : Int) i) (wsum s s.size % p) := by
    intro d
    induction d with
    | zero =>
      intro i hi
      refine Evr.pure fun k => ?_
      simp only [space_Place.l0]
      obtain rfl : i = s.size := by omega
      rw [if_neg (by omega), if_neg (by omega), Int.tmod_eq_emod_of_nonneg (wsum_bd s _ hn).1]
    | succ d ih =>
      intro i hi
      refine Evr.step (ih (i + 1) (by omega)) fun k => ?_
      simp only [space_Place.l0]
      have hb := bt_range s i
      have hw := wsum_bd s i (by omega)
      have h1 : ((i : Int) + 1) * bt s i ≤ 100 * 255 := Int.mul_le_mul (by omega) hb.2 hb.1 (by omega)
      have h2 : 0 ≤ ((i : Int) + 1) * bt s i := Int.mul_nonneg (by omega) hb.1
      have e1 : wrap64 ((i : Int) + 1) = (i : Int) + 1 := by unfold wrap64; omega
      have e2 : wrap64 (bt s i) = bt s i := by unfold wrap64; omega
      rw [if_pos (by omega), if_pos (by omega), if_pos (by omega), e1, e2]
      have e3 : wrap64 (((i : Int) + 1) * bt s i) = ((i : Int) + 1) * bt s i := by unfold wrap64; omega
      rw [e3]
      have e4 : wrap64 (wsum s i + ((i : Int) + 1) * bt s i) = wsum s (i + 1) := by
        simp only [wsum]
        unfold wrap64
        omega
      rw [e4]
      simp
  have h0 := key s.size 0 (by omega)
  obtain ⟨K, hK⟩ := h0
  refine ⟨K, fun k hk => ?_⟩
  have := hK k hk
  simp only [space_Place.f]
  rw [if_neg (by omega)]
  simpa [wsum] using this

theorem laws_l (s : ByteArray) (p : Int) (hp : 1 ≤ p) (hp2 : p ≤ 1099511627776) (hn : s.size ≤ 100) :
    ∀ (d i : Nat), i + d = s.size → Evr (fun k => quadrigalaw16_SpacePlaces.l0 k s p (wsum s i % p) i) true := by
  intro d
  induction d with
  | zero =>
    intro i hi
    obtain rfl : i = s.size := by omega
    refine Evr.step (Evr.bind (f := fun k t => if t = wsum s s.size % p then ((quadrigalaw16_awake.f).bind fun t113 => (some t113)) else (some false)) (place_ev s p hp hn) (s := true) ⟨0, fun k _ => ?_⟩) fun k => ?_
    · rw [if_pos rfl]
      rfl
    · simp only [quadrigalaw16_SpacePlaces.l0]
      rw [if_neg (by omega)]
  | succ d ih =>
    intro i hi
    have hb := bt_range s i
    have hw := wsum_bd s i (by omega)
    have inner : ∀ (e t : Nat), t + e = i + 1 → Evr (fun k => quadrigalaw16_SpacePlaces.l1 k s p ((wsum s i + (t : Int) * bt s i) % p) i t) true := by
      intro e
      induction e with
      | zero =>
        intro t ht
        obtain rfl : t = i + 1 := by omega
        refine Evr.step (ih (i + 1) (by omega)) fun k => ?_
        simp only [quadrigalaw16_SpacePlaces.l1]
        have e1 : wrap64 ((i : Int) + 1) = (i : Int) + 1 := by unfold wrap64; omega
        rw [if_neg (by omega), e1]
        simp [wsum]
      | succ e ihe =>
        intro t ht
        refine Evr.step (ihe (t + 1) (by omega)) fun k => ?_
        simp only [quadrigalaw16_SpacePlaces.l1]
        have e1 : wrap64 ((t : Int) + 1) = (t : Int) + 1 := by unfold wrap64; omega
        have e2 : wrap64 (bt s i) = bt s i := by unfold wrap64; omega
        have hm := Int.emod_nonneg (wsum s i + (t : Int) * bt s i) (show p ≠ 0 by omega)
        have hm2 := Int.emod_lt_of_pos (wsum s i + (t : Int) * bt s i) (show 0 < p by omega)
        have e3 : wrap64 ((wsum s i + (t : Int) * bt s i) % p + bt s i) = (wsum s i + (t : Int) * bt s i) % p + bt s i := by
          generalize (wsum s i + (t : Int) * bt s i) % p = q at hm hm2
          unfold wrap64
          omega
        rw [if_pos (by omega), if_pos (by omega), if_pos (by omega), if_neg (by omega), e1, e2, e3, Int.tmod_eq_emod_of_nonneg (by omega)]
        have e4 : ((wsum s i + (t : Int) * bt s i) % p + bt s i) % p = (wsum s i + ((t + 1 : Nat) : Int) * bt s i) % p := by
          rw [Int.emod_add_emod]
          congr 1
          rw [Int.natCast_add, Int.add_mul]
          simp
          omega
        rw [e4]
        simp
    refine Evr.step (inner (i + 1) 0 (by omega)) fun k => ?_
    simp only [quadrigalaw16_SpacePlaces.l0]
    rw [if_pos (by omega)]
    simp

theorem SpacePlaces : quadrigalaw16_SpacePlaces.Pure := by
  intro s p hs hp
  have hawake : quadrigalaw16_awake.f = some true := rfl
  by_cases h1 : (s.size : Int) > 100
  · refine ⟨1, ?_⟩
    simp only [quadrigalaw16_SpacePlaces.f, quadrigalaw16_SpacePlaces.j0]
    rw [if_pos h1]
    simp [hawake]
  by_cases h2 : p > 1099511627776
  · refine ⟨1, ?_⟩
    simp only [quadrigalaw16_SpacePlaces.f, quadrigalaw16_SpacePlaces.j0]
    rw [if_neg h1, if_pos (by simpa using h2)]
    simp [hawake]
  by_cases h3 : p < 1
  · refine ⟨1, ?_⟩
    simp only [quadrigalaw16_SpacePlaces.f, quadrigalaw16_SpacePlaces.j0, space_Place.f]
    rw [if_neg h1, if_neg (by simpa using h2), if_pos h3, if_pos h3]
    simp [hawake]
  · obtain ⟨K, hK⟩ := laws_l s p (by omega) (by omega) (by omega) s.size 0 (by omega)
    refine ⟨K + 1, ?_⟩
    simp only [quadrigalaw16_SpacePlaces.f, quadrigalaw16_SpacePlaces.j0]
    rw [if_neg h1, if_neg (by simpa using h2), if_neg h3]
    have := hK K (Nat.le_refl _)
    simpa [wsum] using this

end Go.Proofs.Ytlicobfjeajcfaa.Pure
