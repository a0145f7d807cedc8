/-
  The evaluator runs quadrigalaw29.SingleNone: what it reads, and the walk.
-/
import Derived.Test.YthdkepehgpabpaaGreatDoorEvE
import Derived.Test.YthdkepehgpabpaaGreatDoorRows
import Derived.LaidSub
import Derived.Lib.LaidTab
namespace Go.Proofs.YthdkepehgpabpaaGreatDoor.EvSingleNone
open Go Go.Ek Go.RowKit
set_option linter.unusedVariables false
set_option maxRecDepth 100000
noncomputable def H : Hooks := fun f => cond (Nat.beq f 151) (some hSame) (cond (Nat.beq f 152) (some (hMakeNoZero 5)) (none))
theorem hooks : HookOk Tryz.prog H := hookOk_cons (hSame_ok Tryz.func151 (by kernel_rfl) (by kernel_rfl) (by kernel_rfl) (by kernel_rfl)) (hookOk_cons (hMakeNoZero_ok (ps := Tryz.f152.params) (t := 153) Tryz.func152 (by kernel_rfl) (by kernel_rfl) (by kernel_rfl) (by kernel_rfl) Tryz.underlying153 (by kernel_rfl)) (hookOk_none))
def zs_quadriga_sum_nibbles : List Int := [0, 498536548, 997073096, 651767980, 1994146192, 1802195444, 1303535960, 1342533948, 3988292384, 4027552580, 3604390888, 3412177804, 2607071920, 2262029012, 2685067896, 3183342108]
theorem in_zs_quadriga_sum_nibbles {W : World} (hL : laidMetH Tryz.prog [("unicode/utf8.acceptRanges", Rows.laid_unicode_utf8_acceptRanges), ("quadriga/sum.nibbles", Rows.laid_quadriga_sum_nibbles), ("unicode/utf8.first", Rows.laid_unicode_utf8_first)] W) : TabIn W (1, zs_quadriga_sum_nibbles.map fun z => Value.int .u32 z) := by
  have h1 : laidMetH Tryz.prog [("quadriga/sum.nibbles", Rows.laid_quadriga_sum_nibbles)] W := hL.filter (fun x => x.1 == "quadriga/sum.nibbles")
  have h2 : laidMet Tryz.prog [("quadriga/sum.nibbles", Rows.laid_quadriga_sum_nibbles)] W := h1
  have e : (Rows.laid_quadriga_sum_nibbles : DataW Unit) = Lib.tabData .u32 zs_quadriga_sum_nibbles := by kernel_rfl
  rw [e] at h2
  exact tabIn_of (by decide) (by kernel_rfl) (Lib.tabIs_of_head (g := 1) (t := 280) (e := 145) (n := 16) (by kernel_rfl) (by kernel_rfl) (by kernel_rfl) (by kernel_rfl) (by kernel_rfl) (by kernel_rfl) h2)
noncomputable def tabs : List (Nat × List Value) := [(1, zs_quadriga_sum_nibbles.map fun z => Value.int .u32 z)]
theorem tabs_in {W : World} (hL : laidMetH Tryz.prog [("unicode/utf8.acceptRanges", Rows.laid_unicode_utf8_acceptRanges), ("quadriga/sum.nibbles", Rows.laid_quadriga_sum_nibbles), ("unicode/utf8.first", Rows.laid_unicode_utf8_first)] W) : ∀ x ∈ tabs, TabIn W x := by
  intro x hx
  simp only [tabs, List.mem_cons, List.not_mem_nil, or_false] at hx
  subst hx
  · exact in_zs_quadriga_sum_nibbles hL
noncomputable def run1 (a : Nat) : R := tabK tabs ⟨.lf, 64⟩ (fun w => evF Tryz.prog H 400 3 [.complex .f64 8 a] w (fun v _ => isTrue v))
theorem yes0 : run1 0 = true := by kernel_rfl
theorem yes1 : run1 1 = true := by kernel_rfl
theorem yes2 : run1 2 = true := by kernel_rfl
theorem yes3 : run1 3 = true := by kernel_rfl
theorem yes4 : run1 4 = true := by kernel_rfl
theorem yes5 : run1 5 = true := by kernel_rfl
theorem yes6 : run1 6 = true := by kernel_rfl
theorem yes7 : run1 7 = true := by kernel_rfl
theorem yes : ∀ (a : Nat), a < 8 → run1 a = true
  | 0, _ => yes0
  | 1, _ => yes1
  | 2, _ => yes2
  | 3, _ => yes3
  | 4, _ => yes4
  | 5, _ => yes5
  | 6, _ => yes6
  | 7, _ => yes7
  | n + 8, h => absurd h (by omega)
theorem walk (a0 : Int) (W : World) (h0 : (Lit.int .u8 a0).wf = true) (hL : laidMetH Tryz.prog [("unicode/utf8.acceptRanges", Rows.laid_unicode_utf8_acceptRanges), ("quadriga/sum.nibbles", Rows.laid_quadriga_sum_nibbles), ("unicode/utf8.first", Rows.laid_unicode_utf8_first)] W) : Calls Tryz.prog 3 #[.int .u8 a0] W fun e W' => e = .returned (.bool true) ∧ Below W.heap.size W W' := by
  obtain ⟨n, hn, rfl⟩ := u8_nat h0
  exact calls_of_tab (by kernel_rfl) hooks Tryz.func3 (by kernel_rfl) (by kernel_rfl) (tabs_in hL) (.anyMod 8 (n % 8) n rfl hn .nil) (yes (n % 8) (Nat.mod_lt _ (by decide)))
end Go.Proofs.YthdkepehgpabpaaGreatDoor.EvSingleNone
