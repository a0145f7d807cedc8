/-
  The evaluator runs quadrigalaw26.ImageNone: what it reads, and the walk.
-/
import Derived.Test.YthgppobkdedgdaaDoorEvD
import Derived.Test.YthgppobkdedgdaaDoorRows
import Derived.LaidSub
import Derived.Lib.LaidTab
namespace Go.Proofs.YthgppobkdedgdaaDoor.EvImageNone
open Go Go.Ek Go.RowKit
set_option linter.unusedVariables false
set_option maxRecDepth 100000
noncomputable def H : Hooks := fun f => cond (Nat.beq f 56) (some hSame) (cond (Nat.beq f 76) (some (hMakeNoZero 5)) (none))
theorem hooks : HookOk Tryd.prog H := hookOk_cons (hSame_ok Tryd.func56 (by kernel_rfl) (by kernel_rfl) (by kernel_rfl) (by kernel_rfl)) (hookOk_cons (hMakeNoZero_ok (ps := Tryd.f76.params) (t := 53) Tryd.func76 (by kernel_rfl) (by kernel_rfl) (by kernel_rfl) (by kernel_rfl) Tryd.underlying53 (by kernel_rfl)) (hookOk_none))
def zs_quadriga_sum_nibbles : List Int := [0, 498536548, 997073096, 651767980, 1994146192, 1802195444, 1303535960, 1342533948, 3988292384, 4027552580, 3604390888, 3412177804, 2607071920, 2262029012, 2685067896, 3183342108]
theorem in_zs_quadriga_sum_nibbles {W : World} (hL : laidMetH Tryd.prog [("unicode/utf8.acceptRanges", Rows.laid_unicode_utf8_acceptRanges), ("quadriga/sum.nibbles", Rows.laid_quadriga_sum_nibbles), ("unicode/utf8.first", Rows.laid_unicode_utf8_first)] W) : TabIn W (0, zs_quadriga_sum_nibbles.map fun z => Value.int .u32 z) := by
  have h1 : laidMetH Tryd.prog [("quadriga/sum.nibbles", Rows.laid_quadriga_sum_nibbles)] W := hL.filter (fun x => x.1 == "quadriga/sum.nibbles")
  have h2 : laidMet Tryd.prog [("quadriga/sum.nibbles", Rows.laid_quadriga_sum_nibbles)] W := h1
  have e : (Rows.laid_quadriga_sum_nibbles : DataW Unit) = Lib.tabData .u32 zs_quadriga_sum_nibbles := by kernel_rfl
  rw [e] at h2
  exact tabIn_of (by decide) (by kernel_rfl) (Lib.tabIs_of_head (g := 0) (t := 115) (e := 99) (n := 16) (by kernel_rfl) (by kernel_rfl) (by kernel_rfl) (by kernel_rfl) (by kernel_rfl) (by kernel_rfl) h2)
noncomputable def tabs : List (Nat × List Value) := [(0, zs_quadriga_sum_nibbles.map fun z => Value.int .u32 z)]
theorem tabs_in {W : World} (hL : laidMetH Tryd.prog [("unicode/utf8.acceptRanges", Rows.laid_unicode_utf8_acceptRanges), ("quadriga/sum.nibbles", Rows.laid_quadriga_sum_nibbles), ("unicode/utf8.first", Rows.laid_unicode_utf8_first)] W) : ∀ x ∈ tabs, TabIn W x := by
  intro x hx
  simp only [tabs, List.mem_cons, List.not_mem_nil, or_false] at hx
  subst hx
  · exact in_zs_quadriga_sum_nibbles hL
theorem yes (a0 : Int) : tabK tabs ⟨.lf, 64⟩ (fun w => evF Tryd.prog H 400 3 [.int .u8 a0] w (fun v _ => isTrue v)) = true := by kernel_rfl
theorem walk (a0 : Int) (W : World) (h0 : (Lit.int .u8 a0).wf = true) (hL : laidMetH Tryd.prog [("unicode/utf8.acceptRanges", Rows.laid_unicode_utf8_acceptRanges), ("quadriga/sum.nibbles", Rows.laid_quadriga_sum_nibbles), ("unicode/utf8.first", Rows.laid_unicode_utf8_first)] W) : Calls Tryd.prog 3 #[.int .u8 a0] W fun e W' => e = .returned (.bool true) ∧ Below W.heap.size W W' :=
  calls_of_tab (by kernel_rfl) hooks Tryd.func3 (by kernel_rfl) (by kernel_rfl) (tabs_in hL) (.int .u8 a0 .nil) (yes a0)
end Go.Proofs.YthgppobkdedgdaaDoor.EvImageNone
