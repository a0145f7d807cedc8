/-
  RecordPrints: the law's walk.
-/
import Derived.Test.YtlicobfjeajcfaaDoorRpRefW
import Derived.Test.YtlicobfjeajcfaaDoorRpG
import Derived.Test.YtlicobfjeajcfaaDoorWalkRec
import Derived.Test.YtlicobfjeajcfaaDoorQ04e
import Derived.Test.YtlicobfjeajcfaaDoorQ04h
import Derived.Test.YtlicobfjeajcfaaDoorOpnQ04
import Derived.Lib.Hide
import Derived.WalkKit
import Derived.WalkSpells
import Derived.WalkLawsBesides
import Derived.Outline
import Derived.Deep.DrawnRows
namespace Go.Proofs.YtlicobfjeajcfaaDoor
open Go.RowKit Go.Proofs.YtlicobfjeajcfaaDoor.Q04 Go.Proofs.YtlicobfjeajcfaaDoorW.PrintWords Go.Proofs.YtlicobfjeajcfaaDoorW.PrintLast
attribute [local go_sem high] eqA25
set_option linter.unusedVariables false
set_option linter.unusedSimpArgs false

/-- The two boxes. -/
structure Bx2 (w : World) (g : Nat) (x y : Rc) : Prop where
  a : RecB w g x
  b : RecB w (g + 1) y
theorem Bx2.below {w w' : World} {g : Nat} {x y : Rc} (h : Bx2 w g x y) (hb : Below w.heap.size w w') : Bx2 w' g x y := ⟨blk_below h.a hb, blk_below h.b hb⟩
theorem Bx2.drew {w : World} {g : Nat} {x y : Rc} (h : Bx2 w g x y) : Bx2 w.drew g x y := ⟨h.a, h.b⟩
def greatB (x : Rc) : Bool := decide (x.f5.size > 100 ∨ x.f6.f1.size > 100 ∨ x.f7.f1.size > 100)
theorem great_calls (x : Rc) (w : World) : Calls Tryd.prog 8 #[.agg #[.int .i64 x.f0, .int .i64 x.f1, .int .i64 x.f2, .int .i64 x.f3, .int .i64 x.f4, .string x.f5, .bool x.f6.f0, .string x.f6.f1, .bool x.f7.f0, .string x.f7.f1, .int .i64 x.f8]] w fun e w' => e = .returned (.bool (greatB x)) ∧ Below w.heap.size w w' :=
  quadrigalaw04_great.calls _ _ _ _ _ _ _ _ _ _ _ _ w (great_eq x)
theorem awake_calls (w : World) : Calls Tryd.prog 9 #[] w fun e w' => e = .returned (.bool true) ∧ Below w.heap.size w w' :=
  quadrigalaw04_awake.calls 13 _ w awake13
theorem rright_calls (x : Rc) (w : World) (hx : -9223372036854775808 ≤ x.f1 ∧ x.f1 ≤ 9223372036854775807) : Calls Tryd.prog 11 #[.agg #[.int .i64 x.f0, .int .i64 x.f1, .int .i64 x.f2, .int .i64 x.f3, .int .i64 x.f4, .string x.f5, .bool x.f6.f0, .string x.f6.f1, .bool x.f7.f0, .string x.f7.f1, .int .i64 x.f8]] w fun e w' => e = .returned (.bool (rightB x)) ∧ Below w.heap.size w w' :=
  quadrigaref04_Right.calls 3 _ _ _ _ _ _ _ _ _ _ _ _ w (rright_eq x 0 hx)
theorem wf64' {x : Int} (h : (Lit.int .i64 x).wf = true) : -9223372036854775808 ≤ x ∧ x ≤ 9223372036854775807 := by
  simpa [Lit.wf, IntKind.min, IntKind.max, IntKind.signed, IntKind.bits] using h
/-- Two records, field by field. -/
def eqB (x y : Rc) : Bool := x.f0 == y.f0 && (x.f1 == y.f1 && (x.f2 == y.f2 && (x.f3 == y.f3 && (x.f4 == y.f4 && (x.f5.toList == y.f5.toList && ((x.f6.f0 == y.f6.f0 && (x.f6.f1.toList == y.f6.f1.toList)) && ((x.f7.f0 == y.f7.f0 && (x.f7.f1.toList == y.f7.f1.toList)) && (x.f8 == y.f8))))))))
theorem eqB_iff (x y : Rc) : eqB x y = true ↔ x = y := by
  obtain ⟨a0, a1, a2, a3, a4, a5, ⟨a6, a7⟩, ⟨a8, a9⟩, a10⟩ := x
  obtain ⟨b0, b1, b2, b3, b4, b5, ⟨b6, b7⟩, ⟨b8, b9⟩, b10⟩ := y
  unfold eqB
  simp only [Bool.and_eq_true, beq_iff_eq, toList_inj, S25.mk.injEq, S23.mk.injEq]
theorem mk_beq (p q : List UInt8) : ((mk p).toList == (mk q).toList) = (p == q) := by rw [mk_toList, mk_toList]
theorem mk_ne {p : List UInt8} (h : p ≠ []) : ((mk p).toList == ([] : List UInt8)) = false := by rw [mk_toList]; simpa using h
set_option maxRecDepth 100000 in
set_option maxHeartbeats 8000000 in
theorem prints_great0 (x y : Rc) (w : World) (hx : greatB x = true) : Calls Tryd.prog 3 #[.agg #[.int .i64 x.f0, .int .i64 x.f1, .int .i64 x.f2, .int .i64 x.f3, .int .i64 x.f4, .string x.f5, .bool x.f6.f0, .string x.f6.f1, .bool x.f7.f0, .string x.f7.f1, .int .i64 x.f8], .agg #[.int .i64 y.f0, .int .i64 y.f1, .int .i64 y.f2, .int .i64 y.f3, .int .i64 y.f4, .string y.f5, .bool y.f6.f0, .string y.f6.f1, .bool y.f7.f0, .string y.f7.f1, .int .i64 y.f8]] w fun e w' => e = .returned (.bool true) ∧ Below w.heap.size w w' := by
  have hgx := great_calls x
  rw [hx] at hgx
  have HGx := Lib.hid hgx
  clear hgx hx
  have hbxs : Bx2 ((w.alloc (.cells #[.int .i64 x.f0, .int .i64 x.f1, .int .i64 x.f2, .int .i64 x.f3, .int .i64 x.f4, .string x.f5, .bool x.f6.f0, .string x.f6.f1, .bool x.f7.f0, .string x.f7.f1, .int .i64 x.f8] 25)).alloc (.cells #[.int .i64 y.f0, .int .i64 y.f1, .int .i64 y.f2, .int .i64 y.f3, .int .i64 y.f4, .string y.f5, .bool y.f6.f0, .string y.f6.f1, .bool y.f7.f0, .string y.f7.f1, .int .i64 y.f8] 25)) w.heap.size x y := by
    refine ⟨blk_below (blk_new w _) ((Below.refl _ _).alloc (Nat.le_refl _) _), ?_⟩
    have h := blk_new (w.alloc (.cells #[.int .i64 x.f0, .int .i64 x.f1, .int .i64 x.f2, .int .i64 x.f3, .int .i64 x.f4, .string x.f5, .bool x.f6.f0, .string x.f6.f1, .bool x.f7.f0, .string x.f7.f1, .int .i64 x.f8] 25)) (.cells #[.int .i64 y.f0, .int .i64 y.f1, .int .i64 y.f2, .int .i64 y.f3, .int .i64 y.f4, .string y.f5, .bool y.f6.f0, .string y.f6.f1, .bool y.f7.f0, .string y.f7.f1, .int .i64 y.f8] 25)
    rw [World.size_alloc] at h
    exact h
  have HBX := Lib.hid hbxs
  have HB0 : Hid (Below w.heap.size w ((w.alloc (.cells #[.int .i64 x.f0, .int .i64 x.f1, .int .i64 x.f2, .int .i64 x.f3, .int .i64 x.f4, .string x.f5, .bool x.f6.f0, .string x.f6.f1, .bool x.f7.f0, .string x.f7.f1, .int .i64 x.f8] 25)).alloc (.cells #[.int .i64 y.f0, .int .i64 y.f1, .int .i64 y.f2, .int .i64 y.f3, .int .i64 y.f4, .string y.f5, .bool y.f6.f0, .string y.f6.f1, .bool y.f7.f0, .string y.f7.f1, .int .i64 y.f8] 25))) := Lib.hid (((Below.refl _ _).alloc (Nat.le_refl _) _).alloc (by simp) _)
  obtain ⟨a0, a1, a2, a3, a4, a5, a6, a7, a8, a9, a10⟩ := hbxs.a.cells
  obtain ⟨b0, b1, b2, b3, b4, b5, b6, b7, b8, b9, b10⟩ := hbxs.b.cells
  clear hbxs
  go_enter Tryd.func3, Tryd.ntmps3
  go_wp2_with (go_at_call 8; with_reducible refine (HGx.out _).mono ?_; rintro e w1 ⟨rfl, hb1⟩; have HBX1 := Lib.hid (Bx2.below HBX.out hb1); have HB1 := Lib.hid (bel_go HB0.out hb1); clear hb1 a0 a1 a2 a3 a4 a5 a6 a7 a8 a9 a10 b0 b1 b2 b3 b4 b5 b6 b7 b8 b9 b10; obtain ⟨a0, a1, a2, a3, a4, a5, a6, a7, a8, a9, a10⟩ := HBX1.out.a.cells; obtain ⟨b0, b1, b2, b3, b4, b5, b6, b7, b8, b9, b10⟩ := HBX1.out.b.cells)
  go_wp2_with (go_at_call 9; refine (awake_calls _).mono ?_; rintro e w9 ⟨rfl, hb9⟩; have HB9 := Lib.hid (bel_go HB1.out hb9); clear hb9)
  go_ret
  exact ⟨rfl, HB9.out⟩
set_option maxRecDepth 100000 in
set_option maxHeartbeats 8000000 in
theorem prints_great1 (x y : Rc) (w : World) (hx : greatB x = false) (hy : greatB y = true) : Calls Tryd.prog 3 #[.agg #[.int .i64 x.f0, .int .i64 x.f1, .int .i64 x.f2, .int .i64 x.f3, .int .i64 x.f4, .string x.f5, .bool x.f6.f0, .string x.f6.f1, .bool x.f7.f0, .string x.f7.f1, .int .i64 x.f8], .agg #[.int .i64 y.f0, .int .i64 y.f1, .int .i64 y.f2, .int .i64 y.f3, .int .i64 y.f4, .string y.f5, .bool y.f6.f0, .string y.f6.f1, .bool y.f7.f0, .string y.f7.f1, .int .i64 y.f8]] w fun e w' => e = .returned (.bool true) ∧ Below w.heap.size w w' := by
  have hgx := great_calls x
  have hgy := great_calls y
  rw [hx] at hgx
  rw [hy] at hgy
  have HGx := Lib.hid hgx
  have HGy := Lib.hid hgy
  clear hgx hgy hx hy
  have hbxs : Bx2 ((w.alloc (.cells #[.int .i64 x.f0, .int .i64 x.f1, .int .i64 x.f2, .int .i64 x.f3, .int .i64 x.f4, .string x.f5, .bool x.f6.f0, .string x.f6.f1, .bool x.f7.f0, .string x.f7.f1, .int .i64 x.f8] 25)).alloc (.cells #[.int .i64 y.f0, .int .i64 y.f1, .int .i64 y.f2, .int .i64 y.f3, .int .i64 y.f4, .string y.f5, .bool y.f6.f0, .string y.f6.f1, .bool y.f7.f0, .string y.f7.f1, .int .i64 y.f8] 25)) w.heap.size x y := by
    refine ⟨blk_below (blk_new w _) ((Below.refl _ _).alloc (Nat.le_refl _) _), ?_⟩
    have h := blk_new (w.alloc (.cells #[.int .i64 x.f0, .int .i64 x.f1, .int .i64 x.f2, .int .i64 x.f3, .int .i64 x.f4, .string x.f5, .bool x.f6.f0, .string x.f6.f1, .bool x.f7.f0, .string x.f7.f1, .int .i64 x.f8] 25)) (.cells #[.int .i64 y.f0, .int .i64 y.f1, .int .i64 y.f2, .int .i64 y.f3, .int .i64 y.f4, .string y.f5, .bool y.f6.f0, .string y.f6.f1, .bool y.f7.f0, .string y.f7.f1, .int .i64 y.f8] 25)
    rw [World.size_alloc] at h
    exact h
  have HBX := Lib.hid hbxs
  have HB0 : Hid (Below w.heap.size w ((w.alloc (.cells #[.int .i64 x.f0, .int .i64 x.f1, .int .i64 x.f2, .int .i64 x.f3, .int .i64 x.f4, .string x.f5, .bool x.f6.f0, .string x.f6.f1, .bool x.f7.f0, .string x.f7.f1, .int .i64 x.f8] 25)).alloc (.cells #[.int .i64 y.f0, .int .i64 y.f1, .int .i64 y.f2, .int .i64 y.f3, .int .i64 y.f4, .string y.f5, .bool y.f6.f0, .string y.f6.f1, .bool y.f7.f0, .string y.f7.f1, .int .i64 y.f8] 25))) := Lib.hid (((Below.refl _ _).alloc (Nat.le_refl _) _).alloc (by simp) _)
  obtain ⟨a0, a1, a2, a3, a4, a5, a6, a7, a8, a9, a10⟩ := hbxs.a.cells
  obtain ⟨b0, b1, b2, b3, b4, b5, b6, b7, b8, b9, b10⟩ := hbxs.b.cells
  clear hbxs
  go_enter Tryd.func3, Tryd.ntmps3
  go_wp2_with (go_at_call 8; with_reducible refine (HGx.out _).mono ?_; rintro e w1 ⟨rfl, hb1⟩; have HBX1 := Lib.hid (Bx2.below HBX.out hb1); have HB1 := Lib.hid (bel_go HB0.out hb1); clear hb1 a0 a1 a2 a3 a4 a5 a6 a7 a8 a9 a10 b0 b1 b2 b3 b4 b5 b6 b7 b8 b9 b10; obtain ⟨a0, a1, a2, a3, a4, a5, a6, a7, a8, a9, a10⟩ := HBX1.out.a.cells; obtain ⟨b0, b1, b2, b3, b4, b5, b6, b7, b8, b9, b10⟩ := HBX1.out.b.cells)
  go_wp2_with (go_at_call 8; with_reducible refine (HGy.out _).mono ?_; rintro e w2 ⟨rfl, hb1⟩; have HBX2 := Lib.hid (Bx2.below HBX1.out hb1); have HB2 := Lib.hid (bel_go HB1.out hb1); clear hb1 a0 a1 a2 a3 a4 a5 a6 a7 a8 a9 a10 b0 b1 b2 b3 b4 b5 b6 b7 b8 b9 b10; obtain ⟨a0, a1, a2, a3, a4, a5, a6, a7, a8, a9, a10⟩ := HBX2.out.a.cells; obtain ⟨b0, b1, b2, b3, b4, b5, b6, b7, b8, b9, b10⟩ := HBX2.out.b.cells)
  go_wp2_with (go_at_call 9; refine (awake_calls _).mono ?_; rintro e w9 ⟨rfl, hb9⟩; have HB9 := Lib.hid (bel_go HB2.out hb9); clear hb9)
  go_ret
  exact ⟨rfl, HB9.out⟩
set_option maxRecDepth 100000 in
set_option maxHeartbeats 8000000 in
theorem prints_no0 (x y : Rc) (w : World) (hx : greatB x = false) (hy : greatB y = false) (ht : TabOk w) (hxr : -9223372036854775808 ≤ x.f1 ∧ x.f1 ≤ 9223372036854775807) (rx : rightB x = false) (q : List UInt8) (hq : q = printL y) : Calls Tryd.prog 3 #[.agg #[.int .i64 x.f0, .int .i64 x.f1, .int .i64 x.f2, .int .i64 x.f3, .int .i64 x.f4, .string x.f5, .bool x.f6.f0, .string x.f6.f1, .bool x.f7.f0, .string x.f7.f1, .int .i64 x.f8], .agg #[.int .i64 y.f0, .int .i64 y.f1, .int .i64 y.f2, .int .i64 y.f3, .int .i64 y.f4, .string y.f5, .bool y.f6.f0, .string y.f6.f1, .bool y.f7.f0, .string y.f7.f1, .int .i64 y.f8]] w fun e w' => e = .returned (.bool true) ∧ Below w.heap.size w w' := by
  have hgx := great_calls x
  have hgy := great_calls y
  rw [hx] at hgx
  rw [hy] at hgy
  have HGx := Lib.hid hgx
  have HGy := Lib.hid hgy
  clear hgx hgy hx hy
  have HT := Lib.hid (fun (W : World) (hb : Below w.heap.size w W) => ht.below hb)
  clear ht
  have HPX := Lib.hid (fun (V : World) (h : TabOk V) => (show Calls Tryd.prog 10 #[.agg #[.int .i64 x.f0, .int .i64 x.f1, .int .i64 x.f2, .int .i64 x.f3, .int .i64 x.f4, .string x.f5, .bool x.f6.f0, .string x.f6.f1, .bool x.f7.f0, .string x.f7.f1, .int .i64 x.f8]] V fun e w' => e = .returned (.string { data := #[] }) ∧ Below V.heap.size V w' by have := printg_calls x V h; rw [show printL x = [] by unfold printL; rw [rx]; rfl] at this; exact this))
  have HPY := Lib.hid (fun (V : World) (h : TabOk V) => (show Calls Tryd.prog 10 #[.agg #[.int .i64 y.f0, .int .i64 y.f1, .int .i64 y.f2, .int .i64 y.f3, .int .i64 y.f4, .string y.f5, .bool y.f6.f0, .string y.f6.f1, .bool y.f7.f0, .string y.f7.f1, .int .i64 y.f8]] V fun e w' => e = .returned (.string (mk q)) ∧ Below V.heap.size V w' by have := printg_calls y V h; rw [← hq] at this; exact this))
  have hrr := fun V => rright_calls x V hxr
  rw [rx] at hrr
  have HRR := Lib.hid hrr
  clear hrr hxr
  clear hq rx
  have hbxs : Bx2 ((w.alloc (.cells #[.int .i64 x.f0, .int .i64 x.f1, .int .i64 x.f2, .int .i64 x.f3, .int .i64 x.f4, .string x.f5, .bool x.f6.f0, .string x.f6.f1, .bool x.f7.f0, .string x.f7.f1, .int .i64 x.f8] 25)).alloc (.cells #[.int .i64 y.f0, .int .i64 y.f1, .int .i64 y.f2, .int .i64 y.f3, .int .i64 y.f4, .string y.f5, .bool y.f6.f0, .string y.f6.f1, .bool y.f7.f0, .string y.f7.f1, .int .i64 y.f8] 25)) w.heap.size x y := by
    refine ⟨blk_below (blk_new w _) ((Below.refl _ _).alloc (Nat.le_refl _) _), ?_⟩
    have h := blk_new (w.alloc (.cells #[.int .i64 x.f0, .int .i64 x.f1, .int .i64 x.f2, .int .i64 x.f3, .int .i64 x.f4, .string x.f5, .bool x.f6.f0, .string x.f6.f1, .bool x.f7.f0, .string x.f7.f1, .int .i64 x.f8] 25)) (.cells #[.int .i64 y.f0, .int .i64 y.f1, .int .i64 y.f2, .int .i64 y.f3, .int .i64 y.f4, .string y.f5, .bool y.f6.f0, .string y.f6.f1, .bool y.f7.f0, .string y.f7.f1, .int .i64 y.f8] 25)
    rw [World.size_alloc] at h
    exact h
  have HBX := Lib.hid hbxs
  have HB0 : Hid (Below w.heap.size w ((w.alloc (.cells #[.int .i64 x.f0, .int .i64 x.f1, .int .i64 x.f2, .int .i64 x.f3, .int .i64 x.f4, .string x.f5, .bool x.f6.f0, .string x.f6.f1, .bool x.f7.f0, .string x.f7.f1, .int .i64 x.f8] 25)).alloc (.cells #[.int .i64 y.f0, .int .i64 y.f1, .int .i64 y.f2, .int .i64 y.f3, .int .i64 y.f4, .string y.f5, .bool y.f6.f0, .string y.f6.f1, .bool y.f7.f0, .string y.f7.f1, .int .i64 y.f8] 25))) := Lib.hid (((Below.refl _ _).alloc (Nat.le_refl _) _).alloc (by simp) _)
  obtain ⟨a0, a1, a2, a3, a4, a5, a6, a7, a8, a9, a10⟩ := hbxs.a.cells
  obtain ⟨b0, b1, b2, b3, b4, b5, b6, b7, b8, b9, b10⟩ := hbxs.b.cells
  clear hbxs
  go_enter Tryd.func3, Tryd.ntmps3
  go_wp2_with (go_at_call 8; with_reducible refine (HGx.out _).mono ?_; rintro e w1 ⟨rfl, hb1⟩; have HBX1 := Lib.hid (Bx2.below HBX.out hb1); have HB1 := Lib.hid (bel_go HB0.out hb1); clear hb1 a0 a1 a2 a3 a4 a5 a6 a7 a8 a9 a10 b0 b1 b2 b3 b4 b5 b6 b7 b8 b9 b10; obtain ⟨a0, a1, a2, a3, a4, a5, a6, a7, a8, a9, a10⟩ := HBX1.out.a.cells; obtain ⟨b0, b1, b2, b3, b4, b5, b6, b7, b8, b9, b10⟩ := HBX1.out.b.cells)
  go_wp2_with (go_at_call 8; with_reducible refine (HGy.out _).mono ?_; rintro e w2 ⟨rfl, hb1⟩; have HBX2 := Lib.hid (Bx2.below HBX1.out hb1); have HB2 := Lib.hid (bel_go HB1.out hb1); clear hb1 a0 a1 a2 a3 a4 a5 a6 a7 a8 a9 a10 b0 b1 b2 b3 b4 b5 b6 b7 b8 b9 b10; obtain ⟨a0, a1, a2, a3, a4, a5, a6, a7, a8, a9, a10⟩ := HBX2.out.a.cells; obtain ⟨b0, b1, b2, b3, b4, b5, b6, b7, b8, b9, b10⟩ := HBX2.out.b.cells)
  clear a0 a1 a2 a3 a4 a5 a6 a7 a8 a9 a10 b0 b1 b2 b3 b4 b5 b6 b7 b8 b9 b10
  refine start_ (n := 6) (S := fun w' => Bx2 w' w.heap.size x y) (ds := []) #[false, false, false, false, false, false] (by kernel_rfl) rfl rfl HBX2.out.drew ?_
  intro hHeld
  have HBwd : Hid (Below w.heap.size w w2.drew) := Lib.hid (pw_below_drewN HB2.out 1)
  generalize w2.drew = wd at *
  refine take_ (i := 0) (N := some 15) (v := ?_) (a' := ?_) #[true, false, false, false, false, false] rfl rfl (by as_aux_lemma => kernel_rfl) (fun _ _ _ h => h) (Or.inl ⟨by rfl, ?_⟩) hHeld ?_ ?_
  rotate_left
  · intro w' hS
    have hbx : Bx2 w' w.heap.size x y := hS
    obtain ⟨a0, a1, a2, a3, a4, a5, a6, a7, a8, a9, a10⟩ := hbx.a.cells
    obtain ⟨b0, b1, b2, b3, b4, b5, b6, b7, b8, b9, b10⟩ := hbx.b.cells
    (go_simp; with_reducible rfl)
  (rotate_left; focus (simp only [Act.put, List.setIfInBounds_toArray, List.set_cons_zero, List.set_cons_succ, i64_w, i32_w]; rfl))
  refine take_ (i := 2) (N := some 17) (v := ?_) (a' := ?_) #[true, false, true, false, false, false] rfl rfl (by as_aux_lemma => kernel_rfl) (fun _ _ _ h => h) (Or.inl ⟨by rfl, ?_⟩) hHeld ?_ ?_
  rotate_left
  · intro w' hS
    have hbx : Bx2 w' w.heap.size x y := hS
    obtain ⟨a0, a1, a2, a3, a4, a5, a6, a7, a8, a9, a10⟩ := hbx.a.cells
    obtain ⟨b0, b1, b2, b3, b4, b5, b6, b7, b8, b9, b10⟩ := hbx.b.cells
    (go_simp; with_reducible rfl)
  (rotate_left; focus (simp only [Act.put, List.setIfInBounds_toArray, List.set_cons_zero, List.set_cons_succ, i64_w, i32_w]; rfl))
  refine one_ (i := 1) (N := some 16) #[true, true, true, false, false, false] rfl rfl (by as_aux_lemma => kernel_rfl) (by decide) (fun K hK => ?_)
  refine goes_ Tryd.func10 (by kernel_rfl) rfl #[.agg #[.int .i64 x.f0, .int .i64 x.f1, .int .i64 x.f2, .int .i64 x.f3, .int .i64 x.f4, .string x.f5, .bool x.f6.f0, .string x.f6.f1, .bool x.f7.f0, .string x.f7.f1, .int .i64 x.f8]] (by rfl) rfl rfl (by (try simp only [List.map_toArray, List.map_cons, List.map_nil]); first | done | rfl) ?_
  refine (HPX.out _ (HT.out _ HBwd.out)).mono ?_
  rintro e u1 ⟨rfl, hb2⟩
  refine ⟨_, rfl, ?_⟩
  have HBu1 := Lib.hid (bel_go HBwd.out hb2)
  refine hK.out _ _ (Bx2.below hHeld hb2) ?_
  intro hHeld
  clear hK K hb2
  refine norm_ (a' := ?_) ?_ ?_
  (rotate_left; focus (simp only [Act.put, List.setIfInBounds_toArray, List.set_cons_zero, List.set_cons_succ, i64_w, i32_w]; rfl))
  refine one_ (i := 3) (N := some 18) #[true, true, true, true, false, false] rfl rfl (by as_aux_lemma => kernel_rfl) (by decide) (fun K hK => ?_)
  refine goes_ Tryd.func10 (by kernel_rfl) rfl #[.agg #[.int .i64 y.f0, .int .i64 y.f1, .int .i64 y.f2, .int .i64 y.f3, .int .i64 y.f4, .string y.f5, .bool y.f6.f0, .string y.f6.f1, .bool y.f7.f0, .string y.f7.f1, .int .i64 y.f8]] (by rfl) rfl rfl (by (try simp only [List.map_toArray, List.map_cons, List.map_nil]); first | done | rfl) ?_
  refine (HPY.out _ (HT.out _ HBu1.out)).mono ?_
  rintro e u2 ⟨rfl, hb2⟩
  refine ⟨_, rfl, ?_⟩
  have HBu2 := Lib.hid (bel_go HBu1.out hb2)
  refine hK.out _ _ (Bx2.below hHeld hb2) ?_
  intro hHeld
  clear hK K hb2
  refine norm_ (a' := ?_) ?_ ?_
  (rotate_left; focus (simp only [Act.put, List.setIfInBounds_toArray, List.set_cons_zero, List.set_cons_succ, i64_w, i32_w]; rfl))
  refine one_ (i := 4) (N := some 5) #[true, true, true, true, true, false] rfl rfl (by as_aux_lemma => kernel_rfl) (by decide) (fun K hK => ?_)
  refine value_ (v := .string { data := #[] }) (by rfl) rfl (by first | rfl | (go_simp; done) | (go_simp; rfl)) ?_
  refine hK.out _ _ hHeld ?_
  intro hHeld
  clear hK K
  refine norm_ (a' := ?_) ?_ ?_
  (rotate_left; focus (simp only [Act.put, List.setIfInBounds_toArray, List.set_cons_zero, List.set_cons_succ, i64_w, i32_w]; rfl))
  refine one_ (i := 5) (N := some 6) #[true, true, true, true, true, true] rfl rfl (by as_aux_lemma => kernel_rfl) (by decide) (fun K hK => ?_)
  refine value_ (v := .string (mk q)) (by rfl) rfl (by first | rfl | (go_simp; done) | (go_simp; rfl)) ?_
  refine hK.out _ _ hHeld ?_
  intro hHeld
  clear hK K
  refine norm_ (a' := ?_) ?_ ?_
  (rotate_left; focus (simp only [Act.put, List.setIfInBounds_toArray, List.set_cons_zero, List.set_cons_succ, i64_w, i32_w]; rfl))
  refine done_ (by as_aux_lemma => kernel_rfl) ?_
  obtain ⟨a0, a1, a2, a3, a4, a5, a6, a7, a8, a9, a10⟩ := hHeld.a.cells
  obtain ⟨b0, b1, b2, b3, b4, b5, b6, b7, b8, b9, b10⟩ := hHeld.b.cells
  have HBXu2 := Lib.hid hHeld
  go_wp2_with (go_at_call 11; with_reducible refine (HRR.out _).mono ?_; rintro e u3 ⟨rfl, hb1⟩; have HBXu3 := Lib.hid (Bx2.below HBXu2.out hb1); have HBu3 := Lib.hid (bel_go HBu2.out hb1); clear hb1 a0 a1 a2 a3 a4 a5 a6 a7 a8 a9 a10 b0 b1 b2 b3 b4 b5 b6 b7 b8 b9 b10; obtain ⟨a0, a1, a2, a3, a4, a5, a6, a7, a8, a9, a10⟩ := HBXu3.out.a.cells; obtain ⟨b0, b1, b2, b3, b4, b5, b6, b7, b8, b9, b10⟩ := HBXu3.out.b.cells)
  go_wp2_with (go_at_call 9; refine (awake_calls _).mono ?_; rintro e w9 ⟨rfl, hb9⟩; have HB9 := Lib.hid (bel_go HBu3.out hb9); clear hb9)
  go_ret
  exact ⟨rfl, HB9.out⟩
set_option maxRecDepth 100000 in
set_option maxHeartbeats 8000000 in
theorem prints_no1 (x y : Rc) (w : World) (hx : greatB x = false) (hy : greatB y = false) (ht : TabOk w) (hxr : -9223372036854775808 ≤ x.f1 ∧ x.f1 ≤ 9223372036854775807) (rx : rightB x = true) (ry : rightB y = false) : Calls Tryd.prog 3 #[.agg #[.int .i64 x.f0, .int .i64 x.f1, .int .i64 x.f2, .int .i64 x.f3, .int .i64 x.f4, .string x.f5, .bool x.f6.f0, .string x.f6.f1, .bool x.f7.f0, .string x.f7.f1, .int .i64 x.f8], .agg #[.int .i64 y.f0, .int .i64 y.f1, .int .i64 y.f2, .int .i64 y.f3, .int .i64 y.f4, .string y.f5, .bool y.f6.f0, .string y.f6.f1, .bool y.f7.f0, .string y.f7.f1, .int .i64 y.f8]] w fun e w' => e = .returned (.bool true) ∧ Below w.heap.size w w' := by
  have hgx := great_calls x
  have hgy := great_calls y
  rw [hx] at hgx
  rw [hy] at hgy
  have HGx := Lib.hid hgx
  have HGy := Lib.hid hgy
  clear hgx hgy hx hy
  have HT := Lib.hid (fun (W : World) (hb : Below w.heap.size w W) => ht.below hb)
  clear ht
  have hrp := fun V => refprint x V ((right_iff x).1 rx)
  obtain ⟨p, hp⟩ : ∃ p, p = lineOf x := ⟨_, rfl⟩
  have hpn : p ≠ [] := hp ▸ line_ne x
  have hpe := mk_ne hpn
  rw [← hp] at hrp
  have HRP := Lib.hid hrp
  clear hrp
  have HPX := Lib.hid (fun (V : World) (h : TabOk V) => (show Calls Tryd.prog 10 #[.agg #[.int .i64 x.f0, .int .i64 x.f1, .int .i64 x.f2, .int .i64 x.f3, .int .i64 x.f4, .string x.f5, .bool x.f6.f0, .string x.f6.f1, .bool x.f7.f0, .string x.f7.f1, .int .i64 x.f8]] V fun e w' => e = .returned (.string (mk p)) ∧ Below V.heap.size V w' by have := printg_calls x V h; rw [show printL x = lineOf x by unfold printL; rw [rx]; rfl, ← hp] at this; exact this))
  have HPY := Lib.hid (fun (V : World) (h : TabOk V) => (show Calls Tryd.prog 10 #[.agg #[.int .i64 y.f0, .int .i64 y.f1, .int .i64 y.f2, .int .i64 y.f3, .int .i64 y.f4, .string y.f5, .bool y.f6.f0, .string y.f6.f1, .bool y.f7.f0, .string y.f7.f1, .int .i64 y.f8]] V fun e w' => e = .returned (.string { data := #[] }) ∧ Below V.heap.size V w' by have := printg_calls y V h; rw [show printL y = [] by unfold printL; rw [ry]; rfl] at this; exact this))
  have hrr := fun V => rright_calls x V hxr
  rw [rx] at hrr
  have HRR := Lib.hid hrr
  clear hrr hxr
  clear hp rx ry hpn
  have hbxs : Bx2 ((w.alloc (.cells #[.int .i64 x.f0, .int .i64 x.f1, .int .i64 x.f2, .int .i64 x.f3, .int .i64 x.f4, .string x.f5, .bool x.f6.f0, .string x.f6.f1, .bool x.f7.f0, .string x.f7.f1, .int .i64 x.f8] 25)).alloc (.cells #[.int .i64 y.f0, .int .i64 y.f1, .int .i64 y.f2, .int .i64 y.f3, .int .i64 y.f4, .string y.f5, .bool y.f6.f0, .string y.f6.f1, .bool y.f7.f0, .string y.f7.f1, .int .i64 y.f8] 25)) w.heap.size x y := by
    refine ⟨blk_below (blk_new w _) ((Below.refl _ _).alloc (Nat.le_refl _) _), ?_⟩
    have h := blk_new (w.alloc (.cells #[.int .i64 x.f0, .int .i64 x.f1, .int .i64 x.f2, .int .i64 x.f3, .int .i64 x.f4, .string x.f5, .bool x.f6.f0, .string x.f6.f1, .bool x.f7.f0, .string x.f7.f1, .int .i64 x.f8] 25)) (.cells #[.int .i64 y.f0, .int .i64 y.f1, .int .i64 y.f2, .int .i64 y.f3, .int .i64 y.f4, .string y.f5, .bool y.f6.f0, .string y.f6.f1, .bool y.f7.f0, .string y.f7.f1, .int .i64 y.f8] 25)
    rw [World.size_alloc] at h
    exact h
  have HBX := Lib.hid hbxs
  have HB0 : Hid (Below w.heap.size w ((w.alloc (.cells #[.int .i64 x.f0, .int .i64 x.f1, .int .i64 x.f2, .int .i64 x.f3, .int .i64 x.f4, .string x.f5, .bool x.f6.f0, .string x.f6.f1, .bool x.f7.f0, .string x.f7.f1, .int .i64 x.f8] 25)).alloc (.cells #[.int .i64 y.f0, .int .i64 y.f1, .int .i64 y.f2, .int .i64 y.f3, .int .i64 y.f4, .string y.f5, .bool y.f6.f0, .string y.f6.f1, .bool y.f7.f0, .string y.f7.f1, .int .i64 y.f8] 25))) := Lib.hid (((Below.refl _ _).alloc (Nat.le_refl _) _).alloc (by simp) _)
  obtain ⟨a0, a1, a2, a3, a4, a5, a6, a7, a8, a9, a10⟩ := hbxs.a.cells
  obtain ⟨b0, b1, b2, b3, b4, b5, b6, b7, b8, b9, b10⟩ := hbxs.b.cells
  clear hbxs
  go_enter Tryd.func3, Tryd.ntmps3
  go_wp2_with (go_at_call 8; with_reducible refine (HGx.out _).mono ?_; rintro e w1 ⟨rfl, hb1⟩; have HBX1 := Lib.hid (Bx2.below HBX.out hb1); have HB1 := Lib.hid (bel_go HB0.out hb1); clear hb1 a0 a1 a2 a3 a4 a5 a6 a7 a8 a9 a10 b0 b1 b2 b3 b4 b5 b6 b7 b8 b9 b10; obtain ⟨a0, a1, a2, a3, a4, a5, a6, a7, a8, a9, a10⟩ := HBX1.out.a.cells; obtain ⟨b0, b1, b2, b3, b4, b5, b6, b7, b8, b9, b10⟩ := HBX1.out.b.cells)
  go_wp2_with (go_at_call 8; with_reducible refine (HGy.out _).mono ?_; rintro e w2 ⟨rfl, hb1⟩; have HBX2 := Lib.hid (Bx2.below HBX1.out hb1); have HB2 := Lib.hid (bel_go HB1.out hb1); clear hb1 a0 a1 a2 a3 a4 a5 a6 a7 a8 a9 a10 b0 b1 b2 b3 b4 b5 b6 b7 b8 b9 b10; obtain ⟨a0, a1, a2, a3, a4, a5, a6, a7, a8, a9, a10⟩ := HBX2.out.a.cells; obtain ⟨b0, b1, b2, b3, b4, b5, b6, b7, b8, b9, b10⟩ := HBX2.out.b.cells)
  clear a0 a1 a2 a3 a4 a5 a6 a7 a8 a9 a10 b0 b1 b2 b3 b4 b5 b6 b7 b8 b9 b10
  refine start_ (n := 6) (S := fun w' => Bx2 w' w.heap.size x y) (ds := []) #[false, false, false, false, false, false] (by kernel_rfl) rfl rfl HBX2.out.drew ?_
  intro hHeld
  have HBwd : Hid (Below w.heap.size w w2.drew) := Lib.hid (pw_below_drewN HB2.out 1)
  generalize w2.drew = wd at *
  refine take_ (i := 0) (N := some 15) (v := ?_) (a' := ?_) #[true, false, false, false, false, false] rfl rfl (by as_aux_lemma => kernel_rfl) (fun _ _ _ h => h) (Or.inl ⟨by rfl, ?_⟩) hHeld ?_ ?_
  rotate_left
  · intro w' hS
    have hbx : Bx2 w' w.heap.size x y := hS
    obtain ⟨a0, a1, a2, a3, a4, a5, a6, a7, a8, a9, a10⟩ := hbx.a.cells
    obtain ⟨b0, b1, b2, b3, b4, b5, b6, b7, b8, b9, b10⟩ := hbx.b.cells
    (go_simp; with_reducible rfl)
  (rotate_left; focus (simp only [Act.put, List.setIfInBounds_toArray, List.set_cons_zero, List.set_cons_succ, i64_w, i32_w]; rfl))
  refine take_ (i := 2) (N := some 17) (v := ?_) (a' := ?_) #[true, false, true, false, false, false] rfl rfl (by as_aux_lemma => kernel_rfl) (fun _ _ _ h => h) (Or.inl ⟨by rfl, ?_⟩) hHeld ?_ ?_
  rotate_left
  · intro w' hS
    have hbx : Bx2 w' w.heap.size x y := hS
    obtain ⟨a0, a1, a2, a3, a4, a5, a6, a7, a8, a9, a10⟩ := hbx.a.cells
    obtain ⟨b0, b1, b2, b3, b4, b5, b6, b7, b8, b9, b10⟩ := hbx.b.cells
    (go_simp; with_reducible rfl)
  (rotate_left; focus (simp only [Act.put, List.setIfInBounds_toArray, List.set_cons_zero, List.set_cons_succ, i64_w, i32_w]; rfl))
  refine one_ (i := 1) (N := some 16) #[true, true, true, false, false, false] rfl rfl (by as_aux_lemma => kernel_rfl) (by decide) (fun K hK => ?_)
  refine goes_ Tryd.func10 (by kernel_rfl) rfl #[.agg #[.int .i64 x.f0, .int .i64 x.f1, .int .i64 x.f2, .int .i64 x.f3, .int .i64 x.f4, .string x.f5, .bool x.f6.f0, .string x.f6.f1, .bool x.f7.f0, .string x.f7.f1, .int .i64 x.f8]] (by rfl) rfl rfl (by (try simp only [List.map_toArray, List.map_cons, List.map_nil]); first | done | rfl) ?_
  refine (HPX.out _ (HT.out _ HBwd.out)).mono ?_
  rintro e u1 ⟨rfl, hb2⟩
  refine ⟨_, rfl, ?_⟩
  have HBu1 := Lib.hid (bel_go HBwd.out hb2)
  refine hK.out _ _ (Bx2.below hHeld hb2) ?_
  intro hHeld
  clear hK K hb2
  refine norm_ (a' := ?_) ?_ ?_
  (rotate_left; focus (simp only [Act.put, List.setIfInBounds_toArray, List.set_cons_zero, List.set_cons_succ, i64_w, i32_w]; rfl))
  refine one_ (i := 3) (N := some 18) #[true, true, true, true, false, false] rfl rfl (by as_aux_lemma => kernel_rfl) (by decide) (fun K hK => ?_)
  refine goes_ Tryd.func10 (by kernel_rfl) rfl #[.agg #[.int .i64 y.f0, .int .i64 y.f1, .int .i64 y.f2, .int .i64 y.f3, .int .i64 y.f4, .string y.f5, .bool y.f6.f0, .string y.f6.f1, .bool y.f7.f0, .string y.f7.f1, .int .i64 y.f8]] (by rfl) rfl rfl (by (try simp only [List.map_toArray, List.map_cons, List.map_nil]); first | done | rfl) ?_
  refine (HPY.out _ (HT.out _ HBu1.out)).mono ?_
  rintro e u2 ⟨rfl, hb2⟩
  refine ⟨_, rfl, ?_⟩
  have HBu2 := Lib.hid (bel_go HBu1.out hb2)
  refine hK.out _ _ (Bx2.below hHeld hb2) ?_
  intro hHeld
  clear hK K hb2
  refine norm_ (a' := ?_) ?_ ?_
  (rotate_left; focus (simp only [Act.put, List.setIfInBounds_toArray, List.set_cons_zero, List.set_cons_succ, i64_w, i32_w]; rfl))
  refine one_ (i := 4) (N := some 5) #[true, true, true, true, true, false] rfl rfl (by as_aux_lemma => kernel_rfl) (by decide) (fun K hK => ?_)
  refine value_ (v := .string (mk p)) (by rfl) rfl (by first | rfl | (go_simp; done) | (go_simp; rfl)) ?_
  refine hK.out _ _ hHeld ?_
  intro hHeld
  clear hK K
  refine norm_ (a' := ?_) ?_ ?_
  (rotate_left; focus (simp only [Act.put, List.setIfInBounds_toArray, List.set_cons_zero, List.set_cons_succ, i64_w, i32_w]; rfl))
  refine one_ (i := 5) (N := some 6) #[true, true, true, true, true, true] rfl rfl (by as_aux_lemma => kernel_rfl) (by decide) (fun K hK => ?_)
  refine value_ (v := .string { data := #[] }) (by rfl) rfl (by first | rfl | (go_simp; done) | (go_simp; rfl)) ?_
  refine hK.out _ _ hHeld ?_
  intro hHeld
  clear hK K
  refine norm_ (a' := ?_) ?_ ?_
  (rotate_left; focus (simp only [Act.put, List.setIfInBounds_toArray, List.set_cons_zero, List.set_cons_succ, i64_w, i32_w]; rfl))
  refine done_ (by as_aux_lemma => kernel_rfl) ?_
  obtain ⟨a0, a1, a2, a3, a4, a5, a6, a7, a8, a9, a10⟩ := hHeld.a.cells
  obtain ⟨b0, b1, b2, b3, b4, b5, b6, b7, b8, b9, b10⟩ := hHeld.b.cells
  have HBXu2 := Lib.hid hHeld
  go_wp2_with (go_at_call 11; with_reducible refine (HRR.out _).mono ?_; rintro e u3 ⟨rfl, hb1⟩; have HBXu3 := Lib.hid (Bx2.below HBXu2.out hb1); have HBu3 := Lib.hid (bel_go HBu2.out hb1); clear hb1 a0 a1 a2 a3 a4 a5 a6 a7 a8 a9 a10 b0 b1 b2 b3 b4 b5 b6 b7 b8 b9 b10; obtain ⟨a0, a1, a2, a3, a4, a5, a6, a7, a8, a9, a10⟩ := HBXu3.out.a.cells; obtain ⟨b0, b1, b2, b3, b4, b5, b6, b7, b8, b9, b10⟩ := HBXu3.out.b.cells)
  go_wp2_with (go_at_call 12; with_reducible refine (HRP.out _).mono ?_; rintro e u4 ⟨rfl, hb1⟩; have HBXu4 := Lib.hid (Bx2.below HBXu3.out hb1); have HBu4 := Lib.hid (bel_go HBu3.out hb1); clear hb1 a0 a1 a2 a3 a4 a5 a6 a7 a8 a9 a10 b0 b1 b2 b3 b4 b5 b6 b7 b8 b9 b10; obtain ⟨a0, a1, a2, a3, a4, a5, a6, a7, a8, a9, a10⟩ := HBXu4.out.a.cells; obtain ⟨b0, b1, b2, b3, b4, b5, b6, b7, b8, b9, b10⟩ := HBXu4.out.b.cells)
  go_wp2_with (go_at_call 9; refine (awake_calls _).mono ?_; rintro e w9 ⟨rfl, hb9⟩; have HB9 := Lib.hid (bel_go HBu4.out hb9); clear hb9)
  go_ret
  exact ⟨rfl, HB9.out⟩
set_option maxRecDepth 100000 in
set_option maxHeartbeats 8000000 in
theorem prints_yes (x y : Rc) (w : World) (hx : greatB x = false) (hy : greatB y = false) (ht : TabOk w) (hxr : -9223372036854775808 ≤ x.f1 ∧ x.f1 ≤ 9223372036854775807) (rx : rightB x = true) (ry : rightB y = true) : Calls Tryd.prog 3 #[.agg #[.int .i64 x.f0, .int .i64 x.f1, .int .i64 x.f2, .int .i64 x.f3, .int .i64 x.f4, .string x.f5, .bool x.f6.f0, .string x.f6.f1, .bool x.f7.f0, .string x.f7.f1, .int .i64 x.f8], .agg #[.int .i64 y.f0, .int .i64 y.f1, .int .i64 y.f2, .int .i64 y.f3, .int .i64 y.f4, .string y.f5, .bool y.f6.f0, .string y.f6.f1, .bool y.f7.f0, .string y.f7.f1, .int .i64 y.f8]] w fun e w' => e = .returned (.bool true) ∧ Below w.heap.size w w' := by
  have hgx := great_calls x
  have hgy := great_calls y
  rw [hx] at hgx
  rw [hy] at hgy
  have HGx := Lib.hid hgx
  have HGy := Lib.hid hgy
  clear hgx hgy hx hy
  have HT := Lib.hid (fun (W : World) (hb : Below w.heap.size w W) => ht.below hb)
  clear ht
  have hrp := fun V => refprint x V ((right_iff x).1 rx)
  obtain ⟨p, hp⟩ : ∃ p, p = lineOf x := ⟨_, rfl⟩
  have hpn : p ≠ [] := hp ▸ line_ne x
  have hpe := mk_ne hpn
  rw [← hp] at hrp
  have HRP := Lib.hid hrp
  clear hrp
  have HPX := Lib.hid (fun (V : World) (h : TabOk V) => (show Calls Tryd.prog 10 #[.agg #[.int .i64 x.f0, .int .i64 x.f1, .int .i64 x.f2, .int .i64 x.f3, .int .i64 x.f4, .string x.f5, .bool x.f6.f0, .string x.f6.f1, .bool x.f7.f0, .string x.f7.f1, .int .i64 x.f8]] V fun e w' => e = .returned (.string (mk p)) ∧ Below V.heap.size V w' by have := printg_calls x V h; rw [show printL x = lineOf x by unfold printL; rw [rx]; rfl, ← hp] at this; exact this))
  obtain ⟨q, hq⟩ : ∃ q, q = lineOf y := ⟨_, rfl⟩
  have hqn : q ≠ [] := hq ▸ line_ne y
  have hqe := mk_ne hqn
  have HPY := Lib.hid (fun (V : World) (h : TabOk V) => (show Calls Tryd.prog 10 #[.agg #[.int .i64 y.f0, .int .i64 y.f1, .int .i64 y.f2, .int .i64 y.f3, .int .i64 y.f4, .string y.f5, .bool y.f6.f0, .string y.f6.f1, .bool y.f7.f0, .string y.f7.f1, .int .i64 y.f8]] V fun e w' => e = .returned (.string (mk q)) ∧ Below V.heap.size V w' by have := printg_calls y V h; rw [show printL y = lineOf y by unfold printL; rw [ry]; rfl, ← hq] at this; exact this))
  have hab : (p == q) = eqB x y := by
    rw [Bool.eq_iff_iff, beq_iff_eq, eqB_iff, hp, hq]
    exact ⟨fun h => line_inj x y rx ry h, fun h => by rw [h]⟩
  rw [← mk_beq] at hab
  obtain ⟨c, hc⟩ : ∃ c, c = eqB x y := ⟨_, rfl⟩
  rw [← hc] at hab
  have hxy := hc.symm
  unfold eqB at hxy
  have hrr := fun V => rright_calls x V hxr
  rw [rx] at hrr
  have HRR := Lib.hid hrr
  clear hrr hxr
  clear hp rx ry hpn hq hqn hc
  have hbxs : Bx2 ((w.alloc (.cells #[.int .i64 x.f0, .int .i64 x.f1, .int .i64 x.f2, .int .i64 x.f3, .int .i64 x.f4, .string x.f5, .bool x.f6.f0, .string x.f6.f1, .bool x.f7.f0, .string x.f7.f1, .int .i64 x.f8] 25)).alloc (.cells #[.int .i64 y.f0, .int .i64 y.f1, .int .i64 y.f2, .int .i64 y.f3, .int .i64 y.f4, .string y.f5, .bool y.f6.f0, .string y.f6.f1, .bool y.f7.f0, .string y.f7.f1, .int .i64 y.f8] 25)) w.heap.size x y := by
    refine ⟨blk_below (blk_new w _) ((Below.refl _ _).alloc (Nat.le_refl _) _), ?_⟩
    have h := blk_new (w.alloc (.cells #[.int .i64 x.f0, .int .i64 x.f1, .int .i64 x.f2, .int .i64 x.f3, .int .i64 x.f4, .string x.f5, .bool x.f6.f0, .string x.f6.f1, .bool x.f7.f0, .string x.f7.f1, .int .i64 x.f8] 25)) (.cells #[.int .i64 y.f0, .int .i64 y.f1, .int .i64 y.f2, .int .i64 y.f3, .int .i64 y.f4, .string y.f5, .bool y.f6.f0, .string y.f6.f1, .bool y.f7.f0, .string y.f7.f1, .int .i64 y.f8] 25)
    rw [World.size_alloc] at h
    exact h
  have HBX := Lib.hid hbxs
  have HB0 : Hid (Below w.heap.size w ((w.alloc (.cells #[.int .i64 x.f0, .int .i64 x.f1, .int .i64 x.f2, .int .i64 x.f3, .int .i64 x.f4, .string x.f5, .bool x.f6.f0, .string x.f6.f1, .bool x.f7.f0, .string x.f7.f1, .int .i64 x.f8] 25)).alloc (.cells #[.int .i64 y.f0, .int .i64 y.f1, .int .i64 y.f2, .int .i64 y.f3, .int .i64 y.f4, .string y.f5, .bool y.f6.f0, .string y.f6.f1, .bool y.f7.f0, .string y.f7.f1, .int .i64 y.f8] 25))) := Lib.hid (((Below.refl _ _).alloc (Nat.le_refl _) _).alloc (by simp) _)
  obtain ⟨a0, a1, a2, a3, a4, a5, a6, a7, a8, a9, a10⟩ := hbxs.a.cells
  obtain ⟨b0, b1, b2, b3, b4, b5, b6, b7, b8, b9, b10⟩ := hbxs.b.cells
  clear hbxs
  go_enter Tryd.func3, Tryd.ntmps3
  go_wp2_with (go_at_call 8; with_reducible refine (HGx.out _).mono ?_; rintro e w1 ⟨rfl, hb1⟩; have HBX1 := Lib.hid (Bx2.below HBX.out hb1); have HB1 := Lib.hid (bel_go HB0.out hb1); clear hb1 a0 a1 a2 a3 a4 a5 a6 a7 a8 a9 a10 b0 b1 b2 b3 b4 b5 b6 b7 b8 b9 b10; obtain ⟨a0, a1, a2, a3, a4, a5, a6, a7, a8, a9, a10⟩ := HBX1.out.a.cells; obtain ⟨b0, b1, b2, b3, b4, b5, b6, b7, b8, b9, b10⟩ := HBX1.out.b.cells)
  go_wp2_with (go_at_call 8; with_reducible refine (HGy.out _).mono ?_; rintro e w2 ⟨rfl, hb1⟩; have HBX2 := Lib.hid (Bx2.below HBX1.out hb1); have HB2 := Lib.hid (bel_go HB1.out hb1); clear hb1 a0 a1 a2 a3 a4 a5 a6 a7 a8 a9 a10 b0 b1 b2 b3 b4 b5 b6 b7 b8 b9 b10; obtain ⟨a0, a1, a2, a3, a4, a5, a6, a7, a8, a9, a10⟩ := HBX2.out.a.cells; obtain ⟨b0, b1, b2, b3, b4, b5, b6, b7, b8, b9, b10⟩ := HBX2.out.b.cells)
  clear a0 a1 a2 a3 a4 a5 a6 a7 a8 a9 a10 b0 b1 b2 b3 b4 b5 b6 b7 b8 b9 b10
  refine start_ (n := 6) (S := fun w' => Bx2 w' w.heap.size x y) (ds := []) #[false, false, false, false, false, false] (by kernel_rfl) rfl rfl HBX2.out.drew ?_
  intro hHeld
  have HBwd : Hid (Below w.heap.size w w2.drew) := Lib.hid (pw_below_drewN HB2.out 1)
  generalize w2.drew = wd at *
  refine take_ (i := 0) (N := some 15) (v := ?_) (a' := ?_) #[true, false, false, false, false, false] rfl rfl (by as_aux_lemma => kernel_rfl) (fun _ _ _ h => h) (Or.inl ⟨by rfl, ?_⟩) hHeld ?_ ?_
  rotate_left
  · intro w' hS
    have hbx : Bx2 w' w.heap.size x y := hS
    obtain ⟨a0, a1, a2, a3, a4, a5, a6, a7, a8, a9, a10⟩ := hbx.a.cells
    obtain ⟨b0, b1, b2, b3, b4, b5, b6, b7, b8, b9, b10⟩ := hbx.b.cells
    (go_simp; with_reducible rfl)
  (rotate_left; focus (simp only [Act.put, List.setIfInBounds_toArray, List.set_cons_zero, List.set_cons_succ, i64_w, i32_w]; rfl))
  refine take_ (i := 2) (N := some 17) (v := ?_) (a' := ?_) #[true, false, true, false, false, false] rfl rfl (by as_aux_lemma => kernel_rfl) (fun _ _ _ h => h) (Or.inl ⟨by rfl, ?_⟩) hHeld ?_ ?_
  rotate_left
  · intro w' hS
    have hbx : Bx2 w' w.heap.size x y := hS
    obtain ⟨a0, a1, a2, a3, a4, a5, a6, a7, a8, a9, a10⟩ := hbx.a.cells
    obtain ⟨b0, b1, b2, b3, b4, b5, b6, b7, b8, b9, b10⟩ := hbx.b.cells
    (go_simp; with_reducible rfl)
  (rotate_left; focus (simp only [Act.put, List.setIfInBounds_toArray, List.set_cons_zero, List.set_cons_succ, i64_w, i32_w]; rfl))
  refine one_ (i := 1) (N := some 16) #[true, true, true, false, false, false] rfl rfl (by as_aux_lemma => kernel_rfl) (by decide) (fun K hK => ?_)
  refine goes_ Tryd.func10 (by kernel_rfl) rfl #[.agg #[.int .i64 x.f0, .int .i64 x.f1, .int .i64 x.f2, .int .i64 x.f3, .int .i64 x.f4, .string x.f5, .bool x.f6.f0, .string x.f6.f1, .bool x.f7.f0, .string x.f7.f1, .int .i64 x.f8]] (by rfl) rfl rfl (by (try simp only [List.map_toArray, List.map_cons, List.map_nil]); first | done | rfl) ?_
  refine (HPX.out _ (HT.out _ HBwd.out)).mono ?_
  rintro e u1 ⟨rfl, hb2⟩
  refine ⟨_, rfl, ?_⟩
  have HBu1 := Lib.hid (bel_go HBwd.out hb2)
  refine hK.out _ _ (Bx2.below hHeld hb2) ?_
  intro hHeld
  clear hK K hb2
  refine norm_ (a' := ?_) ?_ ?_
  (rotate_left; focus (simp only [Act.put, List.setIfInBounds_toArray, List.set_cons_zero, List.set_cons_succ, i64_w, i32_w]; rfl))
  refine one_ (i := 3) (N := some 18) #[true, true, true, true, false, false] rfl rfl (by as_aux_lemma => kernel_rfl) (by decide) (fun K hK => ?_)
  refine goes_ Tryd.func10 (by kernel_rfl) rfl #[.agg #[.int .i64 y.f0, .int .i64 y.f1, .int .i64 y.f2, .int .i64 y.f3, .int .i64 y.f4, .string y.f5, .bool y.f6.f0, .string y.f6.f1, .bool y.f7.f0, .string y.f7.f1, .int .i64 y.f8]] (by rfl) rfl rfl (by (try simp only [List.map_toArray, List.map_cons, List.map_nil]); first | done | rfl) ?_
  refine (HPY.out _ (HT.out _ HBu1.out)).mono ?_
  rintro e u2 ⟨rfl, hb2⟩
  refine ⟨_, rfl, ?_⟩
  have HBu2 := Lib.hid (bel_go HBu1.out hb2)
  refine hK.out _ _ (Bx2.below hHeld hb2) ?_
  intro hHeld
  clear hK K hb2
  refine norm_ (a' := ?_) ?_ ?_
  (rotate_left; focus (simp only [Act.put, List.setIfInBounds_toArray, List.set_cons_zero, List.set_cons_succ, i64_w, i32_w]; rfl))
  refine one_ (i := 4) (N := some 5) #[true, true, true, true, true, false] rfl rfl (by as_aux_lemma => kernel_rfl) (by decide) (fun K hK => ?_)
  refine value_ (v := .string (mk p)) (by rfl) rfl (by first | rfl | (go_simp; done) | (go_simp; rfl)) ?_
  refine hK.out _ _ hHeld ?_
  intro hHeld
  clear hK K
  refine norm_ (a' := ?_) ?_ ?_
  (rotate_left; focus (simp only [Act.put, List.setIfInBounds_toArray, List.set_cons_zero, List.set_cons_succ, i64_w, i32_w]; rfl))
  refine one_ (i := 5) (N := some 6) #[true, true, true, true, true, true] rfl rfl (by as_aux_lemma => kernel_rfl) (by decide) (fun K hK => ?_)
  refine value_ (v := .string (mk q)) (by rfl) rfl (by first | rfl | (go_simp; done) | (go_simp; rfl)) ?_
  refine hK.out _ _ hHeld ?_
  intro hHeld
  clear hK K
  refine norm_ (a' := ?_) ?_ ?_
  (rotate_left; focus (simp only [Act.put, List.setIfInBounds_toArray, List.set_cons_zero, List.set_cons_succ, i64_w, i32_w]; rfl))
  refine done_ (by as_aux_lemma => kernel_rfl) ?_
  obtain ⟨a0, a1, a2, a3, a4, a5, a6, a7, a8, a9, a10⟩ := hHeld.a.cells
  obtain ⟨b0, b1, b2, b3, b4, b5, b6, b7, b8, b9, b10⟩ := hHeld.b.cells
  have HBXu2 := Lib.hid hHeld
  go_wp2_with (go_at_call 11; with_reducible refine (HRR.out _).mono ?_; rintro e u3 ⟨rfl, hb1⟩; have HBXu3 := Lib.hid (Bx2.below HBXu2.out hb1); have HBu3 := Lib.hid (bel_go HBu2.out hb1); clear hb1 a0 a1 a2 a3 a4 a5 a6 a7 a8 a9 a10 b0 b1 b2 b3 b4 b5 b6 b7 b8 b9 b10; obtain ⟨a0, a1, a2, a3, a4, a5, a6, a7, a8, a9, a10⟩ := HBXu3.out.a.cells; obtain ⟨b0, b1, b2, b3, b4, b5, b6, b7, b8, b9, b10⟩ := HBXu3.out.b.cells)
  go_wp2_with (go_at_call 12; with_reducible refine (HRP.out _).mono ?_; rintro e u4 ⟨rfl, hb1⟩; have HBXu4 := Lib.hid (Bx2.below HBXu3.out hb1); have HBu4 := Lib.hid (bel_go HBu3.out hb1); clear hb1 a0 a1 a2 a3 a4 a5 a6 a7 a8 a9 a10 b0 b1 b2 b3 b4 b5 b6 b7 b8 b9 b10; obtain ⟨a0, a1, a2, a3, a4, a5, a6, a7, a8, a9, a10⟩ := HBXu4.out.a.cells; obtain ⟨b0, b1, b2, b3, b4, b5, b6, b7, b8, b9, b10⟩ := HBXu4.out.b.cells)
  go_wp2_with (go_at_call 9; refine (awake_calls _).mono ?_; rintro e w9 ⟨rfl, hb9⟩; have HB9 := Lib.hid (bel_go HBu4.out hb9); clear hb9)
  go_ret
  exact ⟨rfl, HB9.out⟩
theorem prints_walk (x y : Rc) (w : World) (hx : ok25 x) (hy : ok25 y) (ht : TabOk w) : Calls Tryd.prog 3 #[.agg #[.int .i64 x.f0, .int .i64 x.f1, .int .i64 x.f2, .int .i64 x.f3, .int .i64 x.f4, .string x.f5, .bool x.f6.f0, .string x.f6.f1, .bool x.f7.f0, .string x.f7.f1, .int .i64 x.f8], .agg #[.int .i64 y.f0, .int .i64 y.f1, .int .i64 y.f2, .int .i64 y.f3, .int .i64 y.f4, .string y.f5, .bool y.f6.f0, .string y.f6.f1, .bool y.f7.f0, .string y.f7.f1, .int .i64 y.f8]] w fun e w' => e = .returned (.bool true) ∧ Below w.heap.size w w' := by
  have hx1 := wf64' hx.2.1
  cases gx : greatB x with
  | true => exact prints_great0 x y w gx
  | false =>
    cases gy : greatB y with
    | true => exact prints_great1 x y w gx gy
    | false =>
      cases rx : rightB x with
      | false => exact prints_no0 x y w gx gy ht hx1 rx _ rfl
      | true =>
        cases ry : rightB y with
        | false => exact prints_no1 x y w gx gy ht hx1 rx ry
        | true => exact prints_yes x y w gx gy ht hx1 rx ry
end Go.Proofs.YtlicobfjeajcfaaDoor
