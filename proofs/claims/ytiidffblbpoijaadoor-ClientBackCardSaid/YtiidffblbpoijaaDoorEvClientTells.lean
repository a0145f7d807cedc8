/-
  The evaluator runs quadrigalaw32.awake: what it reads, and the walk.
-/
import Derived.Test.YtiidffblbpoijaaDoorEvE
import Derived.Test.YtiidffblbpoijaaDoorRows
import Derived.LaidSub
import Derived.Lib.LaidTab
namespace Go.Proofs.YtiidffblbpoijaaDoor.EvClientTells
open Go Go.Ek Go.RowKit Go.Proofs
set_option linter.unusedVariables false
set_option maxRecDepth 100000
noncomputable def H : Hooks := fun f => cond (Nat.beq f 50) (some hSame) (cond (Nat.beq f 85) (some (hMakeNoZero 5)) (cond (Nat.beq f 91) (some hIdxB) (cond (Nat.beq f 76) (some hCntB) (none))))
theorem hooks : HookOk Tryd.prog H := hookOk_cons (hSame_ok Tryd.func50 (by kernel_rfl) (by kernel_rfl) (by kernel_rfl) (by kernel_rfl)) (hookOk_cons (hMakeNoZero_ok (ps := Tryd.f85.params) (t := 48) Tryd.func85 (by kernel_rfl) (by kernel_rfl) (by kernel_rfl) (by kernel_rfl) Tryd.underlying48 (by kernel_rfl)) (hookOk_cons (hIdxB_ok Tryd.func91 (by kernel_rfl) (by kernel_rfl) (by kernel_rfl) (by kernel_rfl)) (hookOk_cons (hCntB_ok Tryd.func76 (by kernel_rfl) (by kernel_rfl) (by kernel_rfl) (by kernel_rfl)) (hookOk_none))))
noncomputable def tabs : List (Nat × List Value) := []
theorem tabs_in {W : World} (hL : laidMetH Tryd.prog [("math/bits.deBruijn32tab", Rows.laid_math_bits_deBruijn32tab), ("math/bits.deBruijn64tab", Rows.laid_math_bits_deBruijn64tab), ("internal/strconv.uint64pow10", Rows.laid_internal_strconv_uint64pow10), ("unicode/utf8.acceptRanges", Rows.laid_unicode_utf8_acceptRanges), ("strconv.ErrRange", Rows.laid_strconv_ErrRange), ("strconv.ErrSyntax", Rows.laid_strconv_ErrSyntax), ("unicode/utf8.first", Rows.laid_unicode_utf8_first)] W) : ∀ x ∈ tabs, TabIn W x := by
  intro x hx
  cases hx
theorem yes  : tabK tabs ⟨.lf, 64⟩ (fun w => evF Tryd.prog H 400 5 [] w (fun v _ => isTrue v)) = true := by kernel_rfl
theorem walk  (W : World)  (hL : laidMetH Tryd.prog [("math/bits.deBruijn32tab", Rows.laid_math_bits_deBruijn32tab), ("math/bits.deBruijn64tab", Rows.laid_math_bits_deBruijn64tab), ("internal/strconv.uint64pow10", Rows.laid_internal_strconv_uint64pow10), ("unicode/utf8.acceptRanges", Rows.laid_unicode_utf8_acceptRanges), ("strconv.ErrRange", Rows.laid_strconv_ErrRange), ("strconv.ErrSyntax", Rows.laid_strconv_ErrSyntax), ("unicode/utf8.first", Rows.laid_unicode_utf8_first)] W) : Calls Tryd.prog 5 #[] W fun e W' => e = .returned (.bool true) ∧ Below W.heap.size W W' :=
  calls_of_tab (by kernel_rfl) hooks Tryd.func5 (by kernel_rfl) (by kernel_rfl) (tabs_in hL) .nil (yes )
end Go.Proofs.YtiidffblbpoijaaDoor.EvClientTells
