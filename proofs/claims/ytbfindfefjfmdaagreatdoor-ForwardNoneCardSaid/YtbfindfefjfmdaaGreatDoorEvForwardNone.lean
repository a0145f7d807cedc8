/-
  The evaluator runs quadrigalaw21.ForwardNone: what it reads, and the walk.
-/
import Derived.Test.YtbfindfefjfmdaaGreatDoorEvE
import Derived.Test.YtbfindfefjfmdaaGreatDoorRows
import Derived.LaidSub
import Derived.Lib.LaidTab
import Derived.Test.YtbfindfefjfmdaaGreatDoorEvSort
import Derived.Test.YtbfindfefjfmdaaGreatDoorEvLib
namespace Go.Proofs.YtbfindfefjfmdaaGreatDoor.EvForwardNone
open Go Go.Ek Go.RowKit Go.Proofs
set_option linter.unusedVariables false
set_option maxRecDepth 100000
noncomputable def H0 : Hooks := fun f => cond (Nat.beq f 267) (some hSame) (cond (Nat.beq f 268) (some (hMakeNoZero 5)) (cond (Nat.beq f 179) (some (hSorted rdI (Value.int .i64) leI' ltI (fun h => Nat.beq h 229 || Nat.beq h 257 || Nat.beq h 295) 3)) (cond (Nat.beq f 210) (some hRepeat) (cond (Nat.beq f 297) (some hTrimR) (none)))))
theorem hooks0 : HookOk Tryz.prog H0 := hookOk_cons (hSame_ok Tryz.func267 (by kernel_rfl) (by kernel_rfl) (by kernel_rfl) (by kernel_rfl)) (hookOk_cons (hMakeNoZero_ok (ps := Tryz.f268.params) (t := 272) Tryz.func268 (by kernel_rfl) (by kernel_rfl) (by kernel_rfl) (by kernel_rfl) Tryz.underlying272 (by kernel_rfl)) (hookOk_cons (hSortI_ok Tryz.func179 (by kernel_rfl) (by kernel_rfl) (Tryz.sorted_179) (by kernel_rfl)) (hookOk_cons (Tryz.repeat_hook) (hookOk_cons (Tryz.trim_hook) (hookOk_none)))))
def zs_quadriga_sum_nibbles : List Int := [0, 498536548, 997073096, 651767980, 1994146192, 1802195444, 1303535960, 1342533948, 3988292384, 4027552580, 3604390888, 3412177804, 2607071920, 2262029012, 2685067896, 3183342108]
theorem in_zs_quadriga_sum_nibbles {W : World} (hL : laidMetH Tryz.prog [("unicode/utf8.acceptRanges", Rows.laid_unicode_utf8_acceptRanges), ("quadriga/sum.nibbles", Rows.laid_quadriga_sum_nibbles), ("unicode/utf8.first", Rows.laid_unicode_utf8_first)] W) : TabIn W (0, zs_quadriga_sum_nibbles.map fun z => Value.int .u32 z) := by
  have h1 : laidMetH Tryz.prog [("quadriga/sum.nibbles", Rows.laid_quadriga_sum_nibbles)] W := hL.filter (fun x => x.1 == "quadriga/sum.nibbles")
  have h2 : laidMet Tryz.prog [("quadriga/sum.nibbles", Rows.laid_quadriga_sum_nibbles)] W := h1
  have e : (Rows.laid_quadriga_sum_nibbles : DataW Unit) = Lib.tabData .u32 zs_quadriga_sum_nibbles := by kernel_rfl
  rw [e] at h2
  exact tabIn_of (by decide) (by kernel_rfl) (Lib.tabIs_of_head (g := 0) (t := 351) (e := 319) (n := 16) (by kernel_rfl) (by kernel_rfl) (by kernel_rfl) (by kernel_rfl) (by kernel_rfl) (by kernel_rfl) h2)
noncomputable def tabs : List (Nat × List Value) := [(0, zs_quadriga_sum_nibbles.map fun z => Value.int .u32 z)]
theorem tabs_in {W : World} (hL : laidMetH Tryz.prog [("unicode/utf8.acceptRanges", Rows.laid_unicode_utf8_acceptRanges), ("quadriga/sum.nibbles", Rows.laid_quadriga_sum_nibbles), ("unicode/utf8.first", Rows.laid_unicode_utf8_first)] W) : ∀ x ∈ tabs, TabIn W x := by
  intro x hx
  simp only [tabs, List.mem_cons, List.not_mem_nil, or_false] at hx
  subst hx
  · exact in_zs_quadriga_sum_nibbles hL
theorem yesA : tabK tabs ⟨.lf, 64⟩ (fun w => evF Tryz.prog H0 400 4 [] w (fun v _ => isTrue v)) = true := by kernel_rfl
theorem awake_calls (W : World) (h : ∀ x ∈ tabs, TabIn W x) : Calls Tryz.prog 4 #[] W fun e W' => e = .returned (.bool true) ∧ Below W.heap.size W W' :=
  calls_of_tab (by kernel_rfl) hooks0 Tryz.func4 (by kernel_rfl) (by kernel_rfl) h .nil yesA
noncomputable def H : Hooks := fun f => cond (Nat.beq f 4) (some (hTrue tabs)) (H0 f)
theorem hooks : HookOk Tryz.prog H := hookOk_cons (hTrue_ok Tryz.func4 (by kernel_rfl) (by kernel_rfl) (by kernel_rfl) awake_calls) hooks0
noncomputable def avs : List Value := match anyArgs Tryz.prog [3, 9, 23] with | some l => l | none => []
theorem avs_ok : anyArgs Tryz.prog [3, 9, 23] = some avs := by kernel_rfl
theorem yes : tabK tabs ⟨.lf, 64⟩ (fun w => evF Tryz.prog H 400 3 avs w (fun v _ => isTrue v)) = true := by kernel_rfl
theorem walk (args : Array Value) (W : World) (base : Nat) (hs : args.size = 3) (hv : ∀ (j : Nat) (t : TypeId) (v : Value), ([3, 9, 23] : List TypeId)[j]? = some t → args[j]? = some v → Value.okWide Tryz.prog W .any base t v) (hL : laidMetH Tryz.prog [("unicode/utf8.acceptRanges", Rows.laid_unicode_utf8_acceptRanges), ("quadriga/sum.nibbles", Rows.laid_quadriga_sum_nibbles), ("unicode/utf8.first", Rows.laid_unicode_utf8_first)] W) : Calls Tryz.prog 3 args W fun e W' => e = .returned (.bool true) ∧ Below W.heap.size W W' :=
  calls_of_tab (by kernel_rfl) hooks Tryz.func3 (by kernel_rfl) (by kernel_rfl) (tabs_in hL) (anyArgs_ok avs_ok (by rw [Array.length_toList]; exact hs) fun i u v hu hi => hv i u v hu (by rwa [Array.getElem?_toList] at hi)) yes
end Go.Proofs.YtbfindfefjfmdaaGreatDoor.EvForwardNone
