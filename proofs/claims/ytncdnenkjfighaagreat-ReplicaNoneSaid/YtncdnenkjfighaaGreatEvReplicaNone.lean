/-
  The evaluator runs quadrigalaw34.ReplicaNone: what it reads, and the walk.
-/
import Derived.Test.YtncdnenkjfighaaGreatEvE
import Derived.Test.YtncdnenkjfighaaGreatRows
import Derived.LaidSub
import Derived.Lib.LaidTab
import Derived.Test.YtncdnenkjfighaaGreatEvSort
namespace Go.Proofs.YtncdnenkjfighaaGreat.EvReplicaNone
open Go Go.Ek Go.RowKit
set_option linter.unusedVariables false
set_option maxRecDepth 100000
noncomputable def H : Hooks := fun f => cond (Nat.beq f 22) (some (hSorted rdI (Value.int .i64) leI' ltI (fun h => Nat.beq h 38) 3)) (none)
theorem hooks : HookOk Tryz.prog H := hookOk_cons (hSortI_ok Tryz.func22 (by kernel_rfl) (by kernel_rfl) (Tryz.sorted_22) (by kernel_rfl)) (hookOk_none)
noncomputable def tabs : List (Nat × List Value) := []
noncomputable def avs : List Value := match anyArgs Tryz.prog [27, 9] with | some l => l | none => []
theorem avs_ok : anyArgs Tryz.prog [27, 9] = some avs := by kernel_rfl
theorem yes : tabK tabs ⟨.lf, 64⟩ (fun w => evF Tryz.prog H 400 3 avs w (fun v _ => isTrue v)) = true := by kernel_rfl
theorem walk (args : Array Value) (W : World) (base : Nat) (hs : args.size = 2) (hv : ∀ (j : Nat) (t : TypeId) (v : Value), ([27, 9] : List TypeId)[j]? = some t → args[j]? = some v → Value.okWide Tryz.prog W .any base t v) : Calls Tryz.prog 3 args W fun e W' => e = .returned (.bool true) ∧ Below W.heap.size W W' :=
  calls_of_tab (by kernel_rfl) hooks Tryz.func3 (by kernel_rfl) (by kernel_rfl) (fun x hx => by cases hx) (anyArgs_ok avs_ok (by rw [Array.length_toList]; exact hs) fun i u v hu hi => hv i u v hu (by rwa [Array.getElem?_toList] at hi)) yes
end Go.Proofs.YtncdnenkjfighaaGreat.EvReplicaNone
