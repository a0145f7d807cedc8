/-
  RecordRights: the law's walk.
-/
import Derived.Test.YtlicobfjeajcfaaDoorRrHead
import Derived.Test.YtlicobfjeajcfaaDoorOpnQ04
import Derived.Lib.Hide
import Derived.WalkKit
import Derived.WalkSpells
import Derived.WalkLawsBesides
import Derived.Outline
import Derived.Deep.DrawnRows
namespace Go.Proofs.YtlicobfjeajcfaaDoor
open Go.RowKit Go.Proofs.YtlicobfjeajcfaaDoor.Q04 Go.Proofs.YtlicobfjeajcfaaDoorW.PrintWords Go.Proofs.YtlicobfjeajcfaaDoorW.PrintLast
attribute [local go_sem high] eqA23
set_option linter.unusedVariables false
set_option linter.unusedSimpArgs false

set_option maxRecDepth 100000 in
set_option maxHeartbeats 8000000 in
theorem rights_great0 (x y : Rc) (key : ByteArray) (v : Vl) (w : World) (hx : greatB x = true) :
    Calls Tryd.prog 4 #[.agg #[.int .i64 x.f0, .int .i64 x.f1, .int .i64 x.f2, .int .i64 x.f3, .int .i64 x.f4, .string x.f5, .bool x.f6.f0, .string x.f6.f1, .bool x.f7.f0, .string x.f7.f1, .int .i64 x.f8], .agg #[.int .i64 y.f0, .int .i64 y.f1, .int .i64 y.f2, .int .i64 y.f3, .int .i64 y.f4, .string y.f5, .bool y.f6.f0, .string y.f6.f1, .bool y.f7.f0, .string y.f7.f1, .int .i64 y.f8], .string key, .agg #[.bool v.f0, .string v.f1]] w fun e w' => e = .returned (.bool true) ∧ Below w.heap.size w w' := by
  have hgx := great_calls x
  rw [hx] at hgx
  have HGx := Lib.hid hgx
  clear hgx hx
  have hbxs : Bxs (((w.alloc (.cells #[.int .i64 x.f0, .int .i64 x.f1, .int .i64 x.f2, .int .i64 x.f3, .int .i64 x.f4, .string x.f5, .bool x.f6.f0, .string x.f6.f1, .bool x.f7.f0, .string x.f7.f1, .int .i64 x.f8] 25)).alloc (.cells #[.int .i64 y.f0, .int .i64 y.f1, .int .i64 y.f2, .int .i64 y.f3, .int .i64 y.f4, .string y.f5, .bool y.f6.f0, .string y.f6.f1, .bool y.f7.f0, .string y.f7.f1, .int .i64 y.f8] 25)).alloc (.cells #[.bool v.f0, .string v.f1] 23)) w.heap.size x y v := by
    refine ⟨blk_below (blk_below (blk_new w _) ((Below.refl _ _).alloc (Nat.le_refl _) _)) ((Below.refl _ _).alloc (Nat.le_refl _) _), ?_, ?_⟩
    · refine blk_below (?_ : RecB _ _ _) ((Below.refl _ _).alloc (Nat.le_refl _) _)
      have h := blk_new (w.alloc (.cells #[.int .i64 x.f0, .int .i64 x.f1, .int .i64 x.f2, .int .i64 x.f3, .int .i64 x.f4, .string x.f5, .bool x.f6.f0, .string x.f6.f1, .bool x.f7.f0, .string x.f7.f1, .int .i64 x.f8] 25)) (.cells #[.int .i64 y.f0, .int .i64 y.f1, .int .i64 y.f2, .int .i64 y.f3, .int .i64 y.f4, .string y.f5, .bool y.f6.f0, .string y.f6.f1, .bool y.f7.f0, .string y.f7.f1, .int .i64 y.f8] 25)
      rw [World.size_alloc] at h
      exact h
    · have h := blk_new ((w.alloc (.cells #[.int .i64 x.f0, .int .i64 x.f1, .int .i64 x.f2, .int .i64 x.f3, .int .i64 x.f4, .string x.f5, .bool x.f6.f0, .string x.f6.f1, .bool x.f7.f0, .string x.f7.f1, .int .i64 x.f8] 25)).alloc (.cells #[.int .i64 y.f0, .int .i64 y.f1, .int .i64 y.f2, .int .i64 y.f3, .int .i64 y.f4, .string y.f5, .bool y.f6.f0, .string y.f6.f1, .bool y.f7.f0, .string y.f7.f1, .int .i64 y.f8] 25)) (.cells #[.bool v.f0, .string v.f1] 23)
      rw [World.size_alloc, World.size_alloc] at h
      exact h
  have HBX := Lib.hid hbxs
  have HB : Hid (Below w.heap.size w (((w.alloc (.cells #[.int .i64 x.f0, .int .i64 x.f1, .int .i64 x.f2, .int .i64 x.f3, .int .i64 x.f4, .string x.f5, .bool x.f6.f0, .string x.f6.f1, .bool x.f7.f0, .string x.f7.f1, .int .i64 x.f8] 25)).alloc (.cells #[.int .i64 y.f0, .int .i64 y.f1, .int .i64 y.f2, .int .i64 y.f3, .int .i64 y.f4, .string y.f5, .bool y.f6.f0, .string y.f6.f1, .bool y.f7.f0, .string y.f7.f1, .int .i64 y.f8] 25)).alloc (.cells #[.bool v.f0, .string v.f1] 23))) := Lib.hid ((((Below.refl _ _).alloc (Nat.le_refl _) _).alloc (by simp) _).alloc (by simp; omega) _)
  obtain ⟨v0, v1⟩ := hbxs.v.cells
  obtain ⟨a0, a1, a2, a3, a4, a5, a6, a7, a8, a9, a10⟩ := hbxs.a.cells
  obtain ⟨b0, b1, b2, b3, b4, b5, b6, b7, b8, b9, b10⟩ := hbxs.b.cells
  clear hbxs
  go_enter Tryd.func4, Tryd.ntmps4
  go_wp2_with (go_at_call 8; with_reducible refine (HGx.out _).mono ?_; rintro e w1 ⟨rfl, hb1⟩; have HBX1 := Lib.hid (Bxs.below HBX.out hb1); have HB1 := Lib.hid (bel_go HB.out hb1); clear hb1 a0 a1 a2 a3 a4 a5 a6 a7 a8 a9 a10 b0 b1 b2 b3 b4 b5 b6 b7 b8 b9 b10 v0 v1; obtain ⟨a0, a1, a2, a3, a4, a5, a6, a7, a8, a9, a10⟩ := HBX1.out.a.cells; obtain ⟨b0, b1, b2, b3, b4, b5, b6, b7, b8, b9, b10⟩ := HBX1.out.b.cells; obtain ⟨v0, v1⟩ := HBX1.out.v.cells)
  go_wp2_with (go_at_call 9; refine (awake_calls _).mono ?_; rintro e w3 ⟨rfl, hb3⟩; have HB3 := Lib.hid (bel_go HB1.out hb3); clear hb3)
  go_ret
  exact ⟨rfl, HB3.out⟩

set_option maxRecDepth 100000 in
set_option maxHeartbeats 8000000 in
theorem rights_great1 (x y : Rc) (key : ByteArray) (v : Vl) (w : World) (hx : greatB x = false) (hy : greatB y = true) :
    Calls Tryd.prog 4 #[.agg #[.int .i64 x.f0, .int .i64 x.f1, .int .i64 x.f2, .int .i64 x.f3, .int .i64 x.f4, .string x.f5, .bool x.f6.f0, .string x.f6.f1, .bool x.f7.f0, .string x.f7.f1, .int .i64 x.f8], .agg #[.int .i64 y.f0, .int .i64 y.f1, .int .i64 y.f2, .int .i64 y.f3, .int .i64 y.f4, .string y.f5, .bool y.f6.f0, .string y.f6.f1, .bool y.f7.f0, .string y.f7.f1, .int .i64 y.f8], .string key, .agg #[.bool v.f0, .string v.f1]] w fun e w' => e = .returned (.bool true) ∧ Below w.heap.size w w' := by
  have hgx := great_calls x
  rw [hx] at hgx
  have HGx := Lib.hid hgx
  clear hgx hx
  have hgy := great_calls y
  rw [hy] at hgy
  have HGy := Lib.hid hgy
  clear hgy hy
  have hbxs : Bxs (((w.alloc (.cells #[.int .i64 x.f0, .int .i64 x.f1, .int .i64 x.f2, .int .i64 x.f3, .int .i64 x.f4, .string x.f5, .bool x.f6.f0, .string x.f6.f1, .bool x.f7.f0, .string x.f7.f1, .int .i64 x.f8] 25)).alloc (.cells #[.int .i64 y.f0, .int .i64 y.f1, .int .i64 y.f2, .int .i64 y.f3, .int .i64 y.f4, .string y.f5, .bool y.f6.f0, .string y.f6.f1, .bool y.f7.f0, .string y.f7.f1, .int .i64 y.f8] 25)).alloc (.cells #[.bool v.f0, .string v.f1] 23)) w.heap.size x y v := by
    refine ⟨blk_below (blk_below (blk_new w _) ((Below.refl _ _).alloc (Nat.le_refl _) _)) ((Below.refl _ _).alloc (Nat.le_refl _) _), ?_, ?_⟩
    · refine blk_below (?_ : RecB _ _ _) ((Below.refl _ _).alloc (Nat.le_refl _) _)
      have h := blk_new (w.alloc (.cells #[.int .i64 x.f0, .int .i64 x.f1, .int .i64 x.f2, .int .i64 x.f3, .int .i64 x.f4, .string x.f5, .bool x.f6.f0, .string x.f6.f1, .bool x.f7.f0, .string x.f7.f1, .int .i64 x.f8] 25)) (.cells #[.int .i64 y.f0, .int .i64 y.f1, .int .i64 y.f2, .int .i64 y.f3, .int .i64 y.f4, .string y.f5, .bool y.f6.f0, .string y.f6.f1, .bool y.f7.f0, .string y.f7.f1, .int .i64 y.f8] 25)
      rw [World.size_alloc] at h
      exact h
    · have h := blk_new ((w.alloc (.cells #[.int .i64 x.f0, .int .i64 x.f1, .int .i64 x.f2, .int .i64 x.f3, .int .i64 x.f4, .string x.f5, .bool x.f6.f0, .string x.f6.f1, .bool x.f7.f0, .string x.f7.f1, .int .i64 x.f8] 25)).alloc (.cells #[.int .i64 y.f0, .int .i64 y.f1, .int .i64 y.f2, .int .i64 y.f3, .int .i64 y.f4, .string y.f5, .bool y.f6.f0, .string y.f6.f1, .bool y.f7.f0, .string y.f7.f1, .int .i64 y.f8] 25)) (.cells #[.bool v.f0, .string v.f1] 23)
      rw [World.size_alloc, World.size_alloc] at h
      exact h
  have HBX := Lib.hid hbxs
  have HB : Hid (Below w.heap.size w (((w.alloc (.cells #[.int .i64 x.f0, .int .i64 x.f1, .int .i64 x.f2, .int .i64 x.f3, .int .i64 x.f4, .string x.f5, .bool x.f6.f0, .string x.f6.f1, .bool x.f7.f0, .string x.f7.f1, .int .i64 x.f8] 25)).alloc (.cells #[.int .i64 y.f0, .int .i64 y.f1, .int .i64 y.f2, .int .i64 y.f3, .int .i64 y.f4, .string y.f5, .bool y.f6.f0, .string y.f6.f1, .bool y.f7.f0, .string y.f7.f1, .int .i64 y.f8] 25)).alloc (.cells #[.bool v.f0, .string v.f1] 23))) := Lib.hid ((((Below.refl _ _).alloc (Nat.le_refl _) _).alloc (by simp) _).alloc (by simp; omega) _)
  obtain ⟨v0, v1⟩ := hbxs.v.cells
  obtain ⟨a0, a1, a2, a3, a4, a5, a6, a7, a8, a9, a10⟩ := hbxs.a.cells
  obtain ⟨b0, b1, b2, b3, b4, b5, b6, b7, b8, b9, b10⟩ := hbxs.b.cells
  clear hbxs
  go_enter Tryd.func4, Tryd.ntmps4
  go_wp2_with (go_at_call 8; with_reducible refine (HGx.out _).mono ?_; rintro e w1 ⟨rfl, hb1⟩; have HBX1 := Lib.hid (Bxs.below HBX.out hb1); have HB1 := Lib.hid (bel_go HB.out hb1); clear hb1 a0 a1 a2 a3 a4 a5 a6 a7 a8 a9 a10 b0 b1 b2 b3 b4 b5 b6 b7 b8 b9 b10 v0 v1; obtain ⟨a0, a1, a2, a3, a4, a5, a6, a7, a8, a9, a10⟩ := HBX1.out.a.cells; obtain ⟨b0, b1, b2, b3, b4, b5, b6, b7, b8, b9, b10⟩ := HBX1.out.b.cells; obtain ⟨v0, v1⟩ := HBX1.out.v.cells)
  go_wp2_with (go_at_call 8; with_reducible refine (HGy.out _).mono ?_; rintro e w2 ⟨rfl, hb1⟩; have HBX2 := Lib.hid (Bxs.below HBX1.out hb1); have HB2 := Lib.hid (bel_go HB1.out hb1); clear hb1 a0 a1 a2 a3 a4 a5 a6 a7 a8 a9 a10 b0 b1 b2 b3 b4 b5 b6 b7 b8 b9 b10 v0 v1; obtain ⟨a0, a1, a2, a3, a4, a5, a6, a7, a8, a9, a10⟩ := HBX2.out.a.cells; obtain ⟨b0, b1, b2, b3, b4, b5, b6, b7, b8, b9, b10⟩ := HBX2.out.b.cells; obtain ⟨v0, v1⟩ := HBX2.out.v.cells)
  go_wp2_with (go_at_call 9; refine (awake_calls _).mono ?_; rintro e w3 ⟨rfl, hb3⟩; have HB3 := Lib.hid (bel_go HB2.out hb3); clear hb3)
  go_ret
  exact ⟨rfl, HB3.out⟩

set_option maxRecDepth 100000 in
set_option maxHeartbeats 8000000 in
theorem rights_great2 (x y : Rc) (key : ByteArray) (v : Vl) (w : World) (hx : greatB x = false) (hy : greatB y = false) (hk : decide ((key.size : Int) > 100) = true) :
    Calls Tryd.prog 4 #[.agg #[.int .i64 x.f0, .int .i64 x.f1, .int .i64 x.f2, .int .i64 x.f3, .int .i64 x.f4, .string x.f5, .bool x.f6.f0, .string x.f6.f1, .bool x.f7.f0, .string x.f7.f1, .int .i64 x.f8], .agg #[.int .i64 y.f0, .int .i64 y.f1, .int .i64 y.f2, .int .i64 y.f3, .int .i64 y.f4, .string y.f5, .bool y.f6.f0, .string y.f6.f1, .bool y.f7.f0, .string y.f7.f1, .int .i64 y.f8], .string key, .agg #[.bool v.f0, .string v.f1]] w fun e w' => e = .returned (.bool true) ∧ Below w.heap.size w w' := by
  have hgx := great_calls x
  rw [hx] at hgx
  have HGx := Lib.hid hgx
  clear hgx hx
  have hgy := great_calls y
  rw [hy] at hgy
  have HGy := Lib.hid hgy
  clear hgy hy
  have hbxs : Bxs (((w.alloc (.cells #[.int .i64 x.f0, .int .i64 x.f1, .int .i64 x.f2, .int .i64 x.f3, .int .i64 x.f4, .string x.f5, .bool x.f6.f0, .string x.f6.f1, .bool x.f7.f0, .string x.f7.f1, .int .i64 x.f8] 25)).alloc (.cells #[.int .i64 y.f0, .int .i64 y.f1, .int .i64 y.f2, .int .i64 y.f3, .int .i64 y.f4, .string y.f5, .bool y.f6.f0, .string y.f6.f1, .bool y.f7.f0, .string y.f7.f1, .int .i64 y.f8] 25)).alloc (.cells #[.bool v.f0, .string v.f1] 23)) w.heap.size x y v := by
    refine ⟨blk_below (blk_below (blk_new w _) ((Below.refl _ _).alloc (Nat.le_refl _) _)) ((Below.refl _ _).alloc (Nat.le_refl _) _), ?_, ?_⟩
    · refine blk_below (?_ : RecB _ _ _) ((Below.refl _ _).alloc (Nat.le_refl _) _)
      have h := blk_new (w.alloc (.cells #[.int .i64 x.f0, .int .i64 x.f1, .int .i64 x.f2, .int .i64 x.f3, .int .i64 x.f4, .string x.f5, .bool x.f6.f0, .string x.f6.f1, .bool x.f7.f0, .string x.f7.f1, .int .i64 x.f8] 25)) (.cells #[.int .i64 y.f0, .int .i64 y.f1, .int .i64 y.f2, .int .i64 y.f3, .int .i64 y.f4, .string y.f5, .bool y.f6.f0, .string y.f6.f1, .bool y.f7.f0, .string y.f7.f1, .int .i64 y.f8] 25)
      rw [World.size_alloc] at h
      exact h
    · have h := blk_new ((w.alloc (.cells #[.int .i64 x.f0, .int .i64 x.f1, .int .i64 x.f2, .int .i64 x.f3, .int .i64 x.f4, .string x.f5, .bool x.f6.f0, .string x.f6.f1, .bool x.f7.f0, .string x.f7.f1, .int .i64 x.f8] 25)).alloc (.cells #[.int .i64 y.f0, .int .i64 y.f1, .int .i64 y.f2, .int .i64 y.f3, .int .i64 y.f4, .string y.f5, .bool y.f6.f0, .string y.f6.f1, .bool y.f7.f0, .string y.f7.f1, .int .i64 y.f8] 25)) (.cells #[.bool v.f0, .string v.f1] 23)
      rw [World.size_alloc, World.size_alloc] at h
      exact h
  have HBX := Lib.hid hbxs
  have HB : Hid (Below w.heap.size w (((w.alloc (.cells #[.int .i64 x.f0, .int .i64 x.f1, .int .i64 x.f2, .int .i64 x.f3, .int .i64 x.f4, .string x.f5, .bool x.f6.f0, .string x.f6.f1, .bool x.f7.f0, .string x.f7.f1, .int .i64 x.f8] 25)).alloc (.cells #[.int .i64 y.f0, .int .i64 y.f1, .int .i64 y.f2, .int .i64 y.f3, .int .i64 y.f4, .string y.f5, .bool y.f6.f0, .string y.f6.f1, .bool y.f7.f0, .string y.f7.f1, .int .i64 y.f8] 25)).alloc (.cells #[.bool v.f0, .string v.f1] 23))) := Lib.hid ((((Below.refl _ _).alloc (Nat.le_refl _) _).alloc (by simp) _).alloc (by simp; omega) _)
  obtain ⟨v0, v1⟩ := hbxs.v.cells
  obtain ⟨a0, a1, a2, a3, a4, a5, a6, a7, a8, a9, a10⟩ := hbxs.a.cells
  obtain ⟨b0, b1, b2, b3, b4, b5, b6, b7, b8, b9, b10⟩ := hbxs.b.cells
  clear hbxs
  go_enter Tryd.func4, Tryd.ntmps4
  go_wp2_with (go_at_call 8; with_reducible refine (HGx.out _).mono ?_; rintro e w1 ⟨rfl, hb1⟩; have HBX1 := Lib.hid (Bxs.below HBX.out hb1); have HB1 := Lib.hid (bel_go HB.out hb1); clear hb1 a0 a1 a2 a3 a4 a5 a6 a7 a8 a9 a10 b0 b1 b2 b3 b4 b5 b6 b7 b8 b9 b10 v0 v1; obtain ⟨a0, a1, a2, a3, a4, a5, a6, a7, a8, a9, a10⟩ := HBX1.out.a.cells; obtain ⟨b0, b1, b2, b3, b4, b5, b6, b7, b8, b9, b10⟩ := HBX1.out.b.cells; obtain ⟨v0, v1⟩ := HBX1.out.v.cells)
  go_wp2_with (go_at_call 8; with_reducible refine (HGy.out _).mono ?_; rintro e w2 ⟨rfl, hb1⟩; have HBX2 := Lib.hid (Bxs.below HBX1.out hb1); have HB2 := Lib.hid (bel_go HB1.out hb1); clear hb1 a0 a1 a2 a3 a4 a5 a6 a7 a8 a9 a10 b0 b1 b2 b3 b4 b5 b6 b7 b8 b9 b10 v0 v1; obtain ⟨a0, a1, a2, a3, a4, a5, a6, a7, a8, a9, a10⟩ := HBX2.out.a.cells; obtain ⟨b0, b1, b2, b3, b4, b5, b6, b7, b8, b9, b10⟩ := HBX2.out.b.cells; obtain ⟨v0, v1⟩ := HBX2.out.v.cells)
  go_wp2_with (go_at_call 9; refine (awake_calls _).mono ?_; rintro e w3 ⟨rfl, hb3⟩; have HB3 := Lib.hid (bel_go HB2.out hb3); clear hb3)
  go_ret
  exact ⟨rfl, HB3.out⟩

set_option maxRecDepth 100000 in
set_option maxHeartbeats 8000000 in
theorem rights_great3 (x y : Rc) (key : ByteArray) (v : Vl) (w : World) (hx : greatB x = false) (hy : greatB y = false) (hk : decide ((key.size : Int) > 100) = false) (hv : decide ((v.f1.size : Int) > 100) = true) :
    Calls Tryd.prog 4 #[.agg #[.int .i64 x.f0, .int .i64 x.f1, .int .i64 x.f2, .int .i64 x.f3, .int .i64 x.f4, .string x.f5, .bool x.f6.f0, .string x.f6.f1, .bool x.f7.f0, .string x.f7.f1, .int .i64 x.f8], .agg #[.int .i64 y.f0, .int .i64 y.f1, .int .i64 y.f2, .int .i64 y.f3, .int .i64 y.f4, .string y.f5, .bool y.f6.f0, .string y.f6.f1, .bool y.f7.f0, .string y.f7.f1, .int .i64 y.f8], .string key, .agg #[.bool v.f0, .string v.f1]] w fun e w' => e = .returned (.bool true) ∧ Below w.heap.size w w' := by
  have hgx := great_calls x
  rw [hx] at hgx
  have HGx := Lib.hid hgx
  clear hgx hx
  have hgy := great_calls y
  rw [hy] at hgy
  have HGy := Lib.hid hgy
  clear hgy hy
  have hbxs : Bxs (((w.alloc (.cells #[.int .i64 x.f0, .int .i64 x.f1, .int .i64 x.f2, .int .i64 x.f3, .int .i64 x.f4, .string x.f5, .bool x.f6.f0, .string x.f6.f1, .bool x.f7.f0, .string x.f7.f1, .int .i64 x.f8] 25)).alloc (.cells #[.int .i64 y.f0, .int .i64 y.f1, .int .i64 y.f2, .int .i64 y.f3, .int .i64 y.f4, .string y.f5, .bool y.f6.f0, .string y.f6.f1, .bool y.f7.f0, .string y.f7.f1, .int .i64 y.f8] 25)).alloc (.cells #[.bool v.f0, .string v.f1] 23)) w.heap.size x y v := by
    refine ⟨blk_below (blk_below (blk_new w _) ((Below.refl _ _).alloc (Nat.le_refl _) _)) ((Below.refl _ _).alloc (Nat.le_refl _) _), ?_, ?_⟩
    · refine blk_below (?_ : RecB _ _ _) ((Below.refl _ _).alloc (Nat.le_refl _) _)
      have h := blk_new (w.alloc (.cells #[.int .i64 x.f0, .int .i64 x.f1, .int .i64 x.f2, .int .i64 x.f3, .int .i64 x.f4, .string x.f5, .bool x.f6.f0, .string x.f6.f1, .bool x.f7.f0, .string x.f7.f1, .int .i64 x.f8] 25)) (.cells #[.int .i64 y.f0, .int .i64 y.f1, .int .i64 y.f2, .int .i64 y.f3, .int .i64 y.f4, .string y.f5, .bool y.f6.f0, .string y.f6.f1, .bool y.f7.f0, .string y.f7.f1, .int .i64 y.f8] 25)
      rw [World.size_alloc] at h
      exact h
    · have h := blk_new ((w.alloc (.cells #[.int .i64 x.f0, .int .i64 x.f1, .int .i64 x.f2, .int .i64 x.f3, .int .i64 x.f4, .string x.f5, .bool x.f6.f0, .string x.f6.f1, .bool x.f7.f0, .string x.f7.f1, .int .i64 x.f8] 25)).alloc (.cells #[.int .i64 y.f0, .int .i64 y.f1, .int .i64 y.f2, .int .i64 y.f3, .int .i64 y.f4, .string y.f5, .bool y.f6.f0, .string y.f6.f1, .bool y.f7.f0, .string y.f7.f1, .int .i64 y.f8] 25)) (.cells #[.bool v.f0, .string v.f1] 23)
      rw [World.size_alloc, World.size_alloc] at h
      exact h
  have HBX := Lib.hid hbxs
  have HB : Hid (Below w.heap.size w (((w.alloc (.cells #[.int .i64 x.f0, .int .i64 x.f1, .int .i64 x.f2, .int .i64 x.f3, .int .i64 x.f4, .string x.f5, .bool x.f6.f0, .string x.f6.f1, .bool x.f7.f0, .string x.f7.f1, .int .i64 x.f8] 25)).alloc (.cells #[.int .i64 y.f0, .int .i64 y.f1, .int .i64 y.f2, .int .i64 y.f3, .int .i64 y.f4, .string y.f5, .bool y.f6.f0, .string y.f6.f1, .bool y.f7.f0, .string y.f7.f1, .int .i64 y.f8] 25)).alloc (.cells #[.bool v.f0, .string v.f1] 23))) := Lib.hid ((((Below.refl _ _).alloc (Nat.le_refl _) _).alloc (by simp) _).alloc (by simp; omega) _)
  obtain ⟨v0, v1⟩ := hbxs.v.cells
  obtain ⟨a0, a1, a2, a3, a4, a5, a6, a7, a8, a9, a10⟩ := hbxs.a.cells
  obtain ⟨b0, b1, b2, b3, b4, b5, b6, b7, b8, b9, b10⟩ := hbxs.b.cells
  clear hbxs
  go_enter Tryd.func4, Tryd.ntmps4
  go_wp2_with (go_at_call 8; with_reducible refine (HGx.out _).mono ?_; rintro e w1 ⟨rfl, hb1⟩; have HBX1 := Lib.hid (Bxs.below HBX.out hb1); have HB1 := Lib.hid (bel_go HB.out hb1); clear hb1 a0 a1 a2 a3 a4 a5 a6 a7 a8 a9 a10 b0 b1 b2 b3 b4 b5 b6 b7 b8 b9 b10 v0 v1; obtain ⟨a0, a1, a2, a3, a4, a5, a6, a7, a8, a9, a10⟩ := HBX1.out.a.cells; obtain ⟨b0, b1, b2, b3, b4, b5, b6, b7, b8, b9, b10⟩ := HBX1.out.b.cells; obtain ⟨v0, v1⟩ := HBX1.out.v.cells)
  go_wp2_with (go_at_call 8; with_reducible refine (HGy.out _).mono ?_; rintro e w2 ⟨rfl, hb1⟩; have HBX2 := Lib.hid (Bxs.below HBX1.out hb1); have HB2 := Lib.hid (bel_go HB1.out hb1); clear hb1 a0 a1 a2 a3 a4 a5 a6 a7 a8 a9 a10 b0 b1 b2 b3 b4 b5 b6 b7 b8 b9 b10 v0 v1; obtain ⟨a0, a1, a2, a3, a4, a5, a6, a7, a8, a9, a10⟩ := HBX2.out.a.cells; obtain ⟨b0, b1, b2, b3, b4, b5, b6, b7, b8, b9, b10⟩ := HBX2.out.b.cells; obtain ⟨v0, v1⟩ := HBX2.out.v.cells)
  go_wp2_with (go_at_call 9; refine (awake_calls _).mono ?_; rintro e w3 ⟨rfl, hb3⟩; have HB3 := Lib.hid (bel_go HB2.out hb3); clear hb3)
  go_ret
  exact ⟨rfl, HB3.out⟩

end Go.Proofs.YtlicobfjeajcfaaDoor
