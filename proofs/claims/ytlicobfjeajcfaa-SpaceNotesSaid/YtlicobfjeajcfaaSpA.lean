/-
  Maps of the space layer: what its small functions do (walks), in plain words on maps.
-/
import Derived.Test.YtlicobfjeajcfaaRows
import Derived.WalkKit
import Derived.WalkSpells
import Derived.WalkLawsBesides
import Derived.Maps.Own
import Derived.Maps.OwnOps
import Derived.Maps.OwnSet
import Derived.Maps.RangeWalk
import Derived.Maps.Views
import Derived.Lib.Hide
import Derived.RegionTactic
import Derived.BigRegion
namespace Go.Proofs.Ytlicobfjeajcfaa
open Go.RowKit Go.Maps
set_option linter.unusedVariables false
set_option linter.unusedSimpArgs false

/-- All blocks below base, and all rows of cells, stay as they are. -/
structure Chg (base : Nat) (w w' : World) : Prop where
  os : w'.os = w.os
  tape : w'.tape = w.tape
  output : w'.output = w.output
  size : w.heap.size ≤ w'.heap.size
  low : ∀ i : Nat, i < base → w'.heap[i]? = w.heap[i]?
  cells : ∀ (i : Nat) c e f, w.heap[i]? = some (Obj.cells c e f) → w'.heap[i]? = some (Obj.cells c e f)

theorem Chg.refl (base : Nat) (w : World) : Chg base w w := ⟨rfl, rfl, rfl, Nat.le_refl _, fun _ _ => rfl, fun _ _ _ _ h => h⟩
theorem Chg.trans {base : Nat} {a b c : World} (h : Chg base a b) (k : Chg base b c) : Chg base a c :=
  ⟨k.os.trans h.os, k.tape.trans h.tape, k.output.trans h.output, Nat.le_trans h.size k.size, fun i hi => (k.low i hi).trans (h.low i hi), fun i c e f hi => k.cells i c e f (h.cells i c e f hi)⟩
theorem Chg.mono {base base' : Nat} {w w' : World} (h : Chg base w w') (hb : base' ≤ base) : Chg base' w w' :=
  ⟨h.os, h.tape, h.output, h.size, fun i hi => h.low i (Nat.lt_of_lt_of_le hi hb), h.cells⟩
theorem Chg.of_below {base : Nat} {w w' : World} (h : Below w.heap.size w w') (hb : base ≤ w.heap.size) : Chg base w w' :=
  ⟨h.os, h.tape, h.output, h.size, fun i hi => h.block i (Nat.lt_of_lt_of_le hi hb), fun i _ _ _ hi => (h.block i (Array.getElem?_eq_some_iff.1 hi).1).trans hi⟩
theorem Chg.of_map {base b : Nat} {w w' : World} (h : w.grownBy w' (some b)) (hb : base ≤ b) (hs : base ≤ w.heap.size) (hm : ∀ c' e' f', w.heap[b]? ≠ some (Obj.cells c' e' f')) : Chg base w w' :=
  ⟨h.os, h.tape, h.output, h.size, fun i hi => h.block i (Nat.lt_of_lt_of_le hi hs) (fun e => by cases e; omega),
    fun i _ _ _ hi => (h.block i (Array.getElem?_eq_some_iff.1 hi).1 (fun e' => by cases e'; exact hm _ _ _ hi)).trans hi⟩
theorem Chg.cell {base : Nat} {w w' : World} (h : Chg base w w') {a : Addr} {v : Value} (hc : w.cell? a = some v) : w'.cell? a = some v := by
  unfold World.cell? at hc ⊢
  split at hc
  · rename_i c e f hi
    rw [h.cells _ _ _ _ hi]
    exact hc
  · cases hc
theorem Chg.frozen {base : Nat} {w w' : World} (h : Chg base w w') {a : Addr} {v : Value} (hc : w.cell? a = some v) : w'.frozen? a = w.frozen? a := by
  unfold World.cell? at hc
  unfold World.frozen?
  split at hc
  · rename_i c e f hi
    rw [h.cells _ _ _ _ hi, hi]
  · cases hc
theorem Chg.below {base : Nat} {w w' : World} (h : Chg base w w') : Below base w w' := ⟨h.os, h.tape, h.output, h.size, h.low⟩

/-- The inner map at block b reads as the function f (0 where there is nothing). -/
def IM (w : World) (b n : Nat) (f : Int → Int) : Prop :=
  ∃ D : DataW Unit, w.ownsMap Try.prog 3 (plainElem Try.prog 3) b n D ∧ ∀ x, (Lit.int .i64 x).wf = true → D.atKey (.int .i64 x) (.lit (.int .i64 0)) = .lit (.int .i64 (f x))

theorem kint : Keyed Try.prog 3 := int_keyed Try.underlying3
theorem zint (w : World) : (zeroValue 3).run Try.prog w = .ok (.int .i64 0) w := by kernel_rfl
theorem wf64 {x : Int} : (Lit.int .i64 x).wf = true ↔ -9223372036854775808 ≤ x ∧ x ≤ 9223372036854775807 := by
  simp [Lit.wf, IntKind.min, IntKind.max, IntKind.signed, IntKind.bits]

theorem IM.kept {w w' : World} {b n : Nat} {f : Int → Int} {row : Option Nat} (h : IM w b n f) (hg : w.grownBy w' row) (hne : some b ≠ row) : IM w' b n f := by
  obtain ⟨D, ho, hf⟩ := h
  exact ⟨D, ho.kept hg hne, hf⟩
theorem IM.mono {w : World} {b n n' : Nat} {f : Int → Int} (h : IM w b n f) (hn : n ≤ n') : IM w b n' f := by
  obtain ⟨D, ho, hf⟩ := h
  exact ⟨D, ho.mono hn, hf⟩
theorem IM.lt {w : World} {b n : Nat} {f : Int → Int} (h : IM w b n f) : b < w.heap.size := by
  obtain ⟨D, ho, hf⟩ := h
  exact ho.lt
theorem IM.noCells {w : World} {b n : Nat} {f : Int → Int} (h : IM w b n f) : ∀ c e g, w.heap[b]? ≠ some (Obj.cells c e g) := by
  obtain ⟨D, ⟨es, cl, hb, _⟩, hf⟩ := h
  intro c e g hc
  rw [hb] at hc
  cases hc

set_option maxHeartbeats 400000 in
theorem of_im (b n : Nat) (f : Int → Int) (k : Int) (w : World) (h : IM w b n f) (hk : (Lit.int .i64 k).wf = true) :
    Calls Try.prog 29 #[.agg #[.map (some b)], .int .i64 k] w fun e w' => e = .returned (.int .i64 (f k)) ∧ Below w.heap.size w w' := by
  obtain ⟨D, hown, hf⟩ := h
  have hown1 := hown.alloc (.cells #[.map (some b)] 72)
  have hfk := hf k hk
  have Hf := Lib.hid hfk
  clear hfk hf hown
  have hkey := keyOf_int_mk (P := Try.prog) Try.underlying3 hk
  go_enter Try.func29, Try.ntmps29
  go_wp2_with (first
    | (at_lookup; refine wpList_lookup_own_int _ rfl _ _ 70 rfl 3 3 .i64 kint Try.underlying70 Try.underlying3 (zint _) b n D rfl hown1 _ _ rfl hkey ?_; intro c hat hwc)
    | go_in)
  go_ret
  exact ⟨by rw [Hf.out] at hat; simp at hat; subst hat; rfl, (Below.refl _ _).alloc (Nat.le_refl _) _⟩

/-- What one turn makes of a need. -/
def turnV (v by_ : Int) : Int := if wrap64 (v + by_) < 0 then 0 else wrap64 (v + by_)
def upd (f : Int → Int) (k v : Int) : Int → Int := fun x => if x = k then v else f x

theorem turnV_wf (v b : Int) : (Lit.int .i64 (turnV v b)).wf = true := by
  have h := wrap64_wf (v + b)
  rw [wf64] at h ⊢
  unfold turnV
  split <;> omega

theorem im_put {w : World} {b n : Nat} {D E : DataW Unit} {f : Int → Int} {k v v' : Int} (hD : IsMap D) (hf : ∀ x, (Lit.int .i64 x).wf = true → D.atKey (.int .i64 x) (.lit (.int .i64 0)) = .lit (.int .i64 (f x)))
    (hown : w.ownsMap Try.prog 3 (plainElem Try.prog 3) b n E) (hE : E = D.put (.int .i64 k) (.lit (.int .i64 v))) (hv : v = v') : IM w b n (upd f k v') := by
  subst hv
  subst hE
  refine ⟨_, hown, fun y hy => ?_⟩
  unfold upd
  split
  · rename_i e
    subst e
    exact atKey_put_same (k := .int .i64 y) hD trivial _ _
  · rename_i e
    rw [atKey_put_other (by intro h; cases h; exact e rfl)]
    exact hf y hy

set_option maxRecDepth 100000 in
set_option maxHeartbeats 400000 in
theorem turn_im (b n : Nat) (f : Int → Int) (k x : Int) (w : World) (h : IM w b n f) (hk : (Lit.int .i64 k).wf = true) (hn : n < maxLen) :
    Calls Try.prog 36 #[.agg #[.map (some b)], .int .i64 k, .int .i64 x] w fun e w' => e = .returned (.tuple #[]) ∧ IM w' b (n + 1) (upd f k (turnV (f k) x)) ∧ w.grownBy w' (some b) := by
  obtain ⟨D, hown, hf⟩ := h
  have hg0 := World.grownBy_alloc w (.cells #[.map (some b)] 72) (some b)
  have hown1 := hown.alloc (.cells #[.map (some b)] 72)
  have hfk := hf k hk
  have Hf := Lib.hid hf
  have Hfk := Lib.hid hfk
  clear hf hown hfk
  have hkey := keyOf_int_mk (P := Try.prog) Try.underlying3 hk
  have hwt := turnV_wf (f k) x
  unfold turnV at hwt
  have Hwt := Lib.hid hwt
  clear hwt
  go_enter Try.func36, Try.ntmps36
  go_wp2_with (at_lookup; refine wpList_lookup_own_int _ rfl _ _ 70 rfl 3 3 .i64 kint Try.underlying70 Try.underlying3 (zint _) b n D rfl hown1 _ _ rfl hkey ?_)
  intro c hat hwc
  obtain rfl : c = f k := by
    have z := Hfk.out
    rw [hat] at z
    simpa using z
  clear hat hwc
  by_cases h : wrap64 (f k + x) < 0
  all_goals
    have Hh := Lib.hid h
    go_wp2_with (at_mapUpdate; refine wpList_mapUpdate_own _ rfl _ _ _ 70 rfl 3 3 kint Try.underlying70 _ b n D rfl hown1 hn _ _ _ rfl rfl hkey _ [] (plainElem_int Try.underlying3 (by first | exact wrap64_wf _ | decide)) ?_)
    intro w1 hown2 hg2
    go_wp2
    go_end0
    exact ⟨rfl, im_put hown1.isMap Hf.out hown2 rfl (by have z := Hh.out; unfold turnV; split <;> omega), hg0.trans hg2⟩

end Go.Proofs.Ytlicobfjeajcfaa
